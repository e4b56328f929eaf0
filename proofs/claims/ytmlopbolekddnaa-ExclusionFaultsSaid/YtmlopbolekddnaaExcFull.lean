/-
  The walk of layer 44's full: the pairs through its closure.
-/
import Derived.Test.YtmlopbolekddnaaExcPairs
namespace Go.Proofs.Ytmlopbolekddnaa
set_option linter.unusedVariables false
open Go.RowKit

def crossB (p : Ms × Ms) : Bool := p.1.a * p.2.b != p.2.a * p.1.b
def fullB (l : List Ms) : Bool := (pairsL l).any crossB
theorem crossB_iff {m n : Ms} : crossB (m, n) = true ↔ detM m n ≠ 0 := by
  unfold crossB detM
  simp only [bne_iff_ne, ne_eq]
  omega
theorem fullB_iff {l : List Ms} : fullB l = true ↔ Full l := by
  unfold fullB Full
  rw [List.any_eq_true]
  constructor
  · rintro ⟨p, hp, hc⟩
    obtain ⟨i, j, hj, hi, rfl⟩ := mem_pairs.1 hp
    exact ⟨_, nth_mem hi, _, nth_mem (by omega), crossB_iff.1 hc⟩
  · rintro ⟨m, hm, n, hn, hd⟩
    obtain ⟨i, hi, rfl⟩ := List.getElem_of_mem hm
    obtain ⟨j, hj, rfl⟩ := List.getElem_of_mem hn
    rcases Nat.lt_trichotomy i j with h | h | h
    · refine ⟨(nth l j, nth l i), mem_pairs.2 ⟨j, i, h, hj, rfl⟩, crossB_iff.2 ?_⟩
      rw [nth_eq hj, nth_eq hi, det_swap]
      omega
    · subst h
      exact absurd (show detM l[i] l[i] = 0 by unfold detM; omega) hd
    · refine ⟨(nth l i, nth l j), mem_pairs.2 ⟨i, j, h, hi, rfl⟩, crossB_iff.2 ?_⟩
      rw [nth_eq hj, nth_eq hi]
      exact hd
/-- the closure's world: the flag in block bf -/
structure FulI (w : World) (bf : Nat) (f : Bool) (W : World) : Prop where
  below : Below w.heap.size w W
  le : w.heap.size ≤ bf
  lt : bf < W.heap.size
  cell : W.cell? ⟨bf, 0, none⟩ = some (.bool f)
  frz : W.frozen? ⟨bf, 0, none⟩ = false
theorem FulI.alloc {w : World} {bf : Nat} {f : Bool} {W : World} (h : FulI w bf f W) (o : Obj) : FulI w bf f (W.alloc o) := by
  have hb := (Below.refl W.heap.size W).alloc (Nat.le_refl _) o
  have hl := h.lt
  exact ⟨h.below.alloc h.below.size o, h.le, by simp; omega, (hb.cell (p := ⟨bf, 0, none⟩) hl).trans h.cell, (hb.frozen (p := ⟨bf, 0, none⟩) hl).trans h.frz⟩
theorem FulI.store {w : World} {bf : Nat} {f : Bool} {W : World} (h : FulI w bf f W) (g : Bool) : FulI w bf g (W.setCell ⟨bf, 0, none⟩ (.bool g)) :=
  ⟨h.below.setCell (p := ⟨bf, 0, none⟩) h.le _, h.le, by have := h.lt; simpa [World.setCell] using this, World.cell?_setCell_same' W _ _ (by rw [h.cell]; rfl), by rw [World.frozen?_setCell]; exact h.frz⟩
theorem keepx_store (bf : Nat) (W : World) (o1 o2 : Obj) (v : Value) : KeepX (fun _ k => k = bf) W (((W.setCell ⟨bf, 0, none⟩ v).alloc o1).alloc o2) := by
  have hs : (W.setCell ⟨bf, 0, none⟩ v).heap.size = W.heap.size := by simp [World.setCell]
  exact ⟨by rw [World.size_alloc, World.size_alloc, hs]; omega, fun k hk hn => ⟨by
    rw [Below.heap_alloc _ _ _ (by rw [World.size_alloc, hs]; omega), Below.heap_alloc _ _ _ (by rw [hs]; exact hk), Below.heap_setCell _ _ _ _ (by simpa using hn)], hn⟩⟩
set_option maxHeartbeats 1000000 in
theorem full_fn (m n : Ms) (w W : World) (bf : Nat) (f : Bool) (h : FulI w bf f W) (hm : EdM m) (hn : EdM n) :
    Calls Try.prog 52 #[.agg #[.int .i64 m.s, .int .i64 m.a, .int .i64 m.b, .int .i64 m.z, .int .i64 m.d, .int .i64 m.w], .agg #[.int .i64 n.s, .int .i64 n.a, .int .i64 n.b, .int .i64 n.z, .int .i64 n.d, .int .i64 n.w], .pointer (some ⟨bf, 0, none⟩)] W
      fun e w' => e = .returned (.tuple #[]) ∧ FulI w bf (f || crossB (m, n)) w' ∧ KeepX (fun _ k => k = bf) W w' := by
  obtain ⟨p10, p11⟩ := mul_abs (X := 256) (Y := 256) hm.a0 hm.a1 hn.b0 hn.b1
  obtain ⟨p20, p21⟩ := mul_abs (X := 256) (Y := 256) hn.a0 hn.a1 hm.b0 hm.b1
  have EB : crossB (m, n) = (m.a * n.b != n.a * m.b) := rfl
  have I2 := Lib.hid fun o1 o2 => (h.alloc o1).alloc o2
  have HX := Lib.hid h
  have kc := fun o1 o2 => ((h.alloc o1).alloc o2).cell
  have kf := fun o1 o2 => ((h.alloc o1).alloc o2).frz
  have hl := h.lt
  clear hm hn h
  generalize crossB (m, n) = g at *
  obtain ⟨ms, a, b, mz, md, mw⟩ := m
  obtain ⟨ns, a', b', nz, nd, nw⟩ := n
  simp only at p10 p11 p20 p21 EB ⊢
  cases f with
  | true =>
    clear EB
    go_enter Try.func52, Try.ntmps52
    go_wp2
    go_end0
    exact ⟨rfl, ((HX.out.store _).alloc _).alloc _, keepx_store _ _ _ _ _⟩
  | false =>
    have E := EB.symm
    clear EB
    go_enter Try.func52, Try.ntmps52
    go_wp2
    go_end0
    exact ⟨rfl, ((HX.out.store _).alloc _).alloc _, keepx_store _ _ _ _ _⟩
theorem full_some (l : List Ms) (b o cap : Nat) (w : World) (h : MsAt l b o w) (hc : l.length ≤ cap) (hm : cap ≤ 9223372036854775807) (he : ∀ m ∈ l, EdM m) (hl : l.length ≤ 17) :
    Calls Try.prog 33 #[.slice (some ⟨b, o, none⟩) l.length cap] w fun e w' => e = .returned (.bool (fullB l)) ∧ Below w.heap.size w w' := by
  have HP := Lib.hid fun W1 (h0 : FulI w w.heap.size false W1) => pairs_full l b o cap W1 ⟨w.heap.size, 0, none⟩ (fun acc W => FulI w w.heap.size (acc.any crossB) W) (fun _ k => k = w.heap.size) hl hc hm
    ⟨fun acc W hi => h.below hi.below, fun acc W ob hi => ⟨hi.alloc ob, by have := hi.lt; show W.heap.size ≠ w.heap.size; omega, fun k _ hn => hn⟩⟩ h0
    (fun acc m n W hm hn _ hi => (full_fn m n w W w.heap.size _ hi (he m hm) (he n hn)).mono fun e w' ⟨h1, h2, h3⟩ => ⟨h1, by rw [List.any_append]; simpa using h2, h3⟩)
  have H0 := Lib.hid (show ∀ t, FulI w w.heap.size false (w.alloc (.cells #[.bool false] t)) from fun t => ⟨(Below.refl _ _).alloc (Nat.le_refl _) _, Nat.le_refl _, by simp, by rw [World.cell?_alloc_at _ _ _ _ rfl]; rfl, by go_simp⟩)
  have EF := Lib.hid (show fullB l = (pairsL l).any crossB from rfl)
  clear h he
  go_enter Try.func33, Try.ntmps33
  go_wp2_with (go_at_call 51; refine (HP.out _ (H0.out _)).mono ?_; rintro e w2 ⟨rfl, hi⟩; have hcell := hi.cell; have hbl := Lib.hid hi.below; clear hi)
  go_ret
  exact ⟨ret_b EF.out.symm, hbl.out⟩
theorem pairs_nil (F : FuncId) (cs : Array Value) (w : World) :
    Calls Try.prog 51 #[.slice none 0 0, .func (.func F) #[] cs] w fun e w' => e = .returned (.tuple #[]) ∧ w = w' := by
  go_enter Try.func51, Try.ntmps51
  go_wp2
  go_loop [10] (fun v => v = .int .i64 0) (fun _ => 0)
  case atStart => rfl
  case round =>
    subst hrel
    go_wp2
    go_end0
    exact ⟨rfl, rfl⟩
theorem full_nil (w : World) :
    Calls Try.prog 33 #[.slice none 0 0] w fun e w' => e = .returned (.bool false) ∧ Below w.heap.size w w' := by
  go_enter Try.func33, Try.ntmps33
  go_wp2_with (go_at_call 51; refine (pairs_nil _ _ _).mono ?_; rintro e w2 ⟨rfl, rfl⟩)
  go_ret
  exact ⟨rfl, (Below.refl _ _).alloc (Nat.le_refl _) _⟩
theorem full_any (l : List Ms) (v : Value) (w : World) (h : LstAt l v w) (he : ∀ m ∈ l, EdM m) (hl : l.length ≤ 17) :
    Calls Try.prog 33 #[v] w fun e w' => e = .returned (.bool (fullB l)) ∧ Below w.heap.size w w' := by
  rcases h with ⟨rfl, rfl⟩ | ⟨b, o, cap, rfl, h2, h3, h4⟩
  · exact full_nil w
  · exact full_some l b o cap w h4 h2 h3 he hl
end Go.Proofs.Ytmlopbolekddnaa
