/-
  What a cycle of the navigator is worth. No program in sight.
-/
import Derived.Test.YtidelghgjibndaaGreatM7t8
namespace Go.Proofs.YtidelghgjibndaaGreat
set_option linter.unusedVariables false
open Go.RowKit

theorem cyc_nil (c : Bx4) (m : Int) : cycF c m [] = ⟨c, min (m + 1) 1000, 0⟩ := by
  have h : (fixF [] c).2 = false := by
    unfold fixF
    rw [if_neg (by decide +kernel)]
  unfold cycF
  rw [if_neg (by rw [h]; decide)]
theorem stp_nil (b : Bx4) (t m tick ve vn dr : Int) : stpC b t m tick ve vn dr [] = ⟨movB b ve vn dr (tick - t), min (m + 1) 1000, 0⟩ := cyc_nil _ _
theorem kd_take {L : List Rp} (n : Nat) (h : ∀ i, i < L.length → 0 ≤ (nthR L i).k ∧ (nthR L i).k ≤ 255) : ∀ i, i < (L.take n).length → 0 ≤ (nthR (L.take n) i).k ∧ (nthR (L.take n) i).k ≤ 255 := fun i hi => by
  rw [(nthR_take hi).2]
  exact h i (nthR_take hi).1
/-- a cycle without an error: the coasted box, and that the new one lies within its width -/
theorem stp_facts {b : Bx4} {t m tick ve vn dr rq : Int} {L : List Rp} (h : stpE2 b t m tick ve vn dr rq L.length = 0) :
    (0 ≤ t ∧ t < tick ∧ tick ≤ 1099511627776) ∧ (0 ≤ m ∧ m ≤ 1000) ∧ (0 ≤ rq ∧ rq ≤ 2000000) ∧ rngC ve vn dr (tick - t) = true ∧ bxV (movB b ve vn dr (tick - t)) = true ∧ cstF b ve vn dr (tick - t) = (movB b ve vn dr (tick - t), 0) ∧
    bxV (stpC b t m tick ve vn dr L).box = true ∧ (stpC b t m tick ve vn dr L).box.x ≤ (movB b ve vn dr (tick - t)).x ∧ (stpC b t m tick ve vn dr L).box.y ≤ (movB b ve vn dr (tick - t)).y ∧ ((stpC b t m tick ve vn dr L).ms ≠ 0 → (stpC b t m tick ve vn dr L).box = movB b ve vn dr (tick - t)) := by
  obtain ⟨hc, h0, ⟨h1, h2, h3⟩, h8, h4⟩ := stp_ok2 h
  obtain ⟨_, ⟨c0, c1⟩, c2, c3⟩ := chkS_ok hc
  obtain ⟨_, v1, v2, v3⟩ := cst_val h4
  have n := cyc_narrow (m := m) (l := rowsT tick (movB b ve vn dr (tick - t)).cx (movB b ve vn dr (tick - t)).cy (movB b ve vn dr (tick - t)).x (movB b ve vn dr (tick - t)).y L) v2
  exact ⟨⟨c0, h0, h1⟩, ⟨c2, c3⟩, ⟨h2, h3⟩, v1, v2, v3, n⟩
/-- what the true position is worth: it moves within the bound, and all reports of the tick but those of one source agree with it -/
structure HonP (b : Bx4) (t tick ve vn dr : Int) (L : List Rp) (fa px py qx qy : Int) : Prop where
  hv : S41.pvB qx qy = true
  hi : inN b.cx b.cy b.x b.y px py = true
  hx : qx - px - ve * (tick - t) ≤ dr * (tick - t) ∧ -(qx - px - ve * (tick - t)) ≤ dr * (tick - t)
  hy : qy - py - vn * (tick - t) ≤ dr * (tick - t) ∧ -(qy - py - vn * (tick - t)) ≤ dr * (tick - t)
  ag : ∀ i, i < L.length → (nthR L i).t = tick → (nthR L i).s ≠ fa → agN (nthR L i) qx qy = true
theorem stp_safe {b : Bx4} {t m tick ve vn dr rq : Int} {L : List Rp} {fa px py qx qy : Int} (h : stpE2 b t m tick ve vn dr rq L.length = 0) (p : HonP b t tick ve vn dr L fa px py qx qy) :
    inN (stpC b t m tick ve vn dr L).box.cx (stpC b t m tick ve vn dr L).box.cy (stpC b t m tick ve vn dr L).box.x (stpC b t m tick ve vn dr L).box.y qx qy = true ∧ inB (stpC b t m tick ve vn dr L).box qx qy ∧ ((stpC b t m tick ve vn dr L).ex = 0 ∨ (stpC b t m tick ve vn dr L).ex = fa) := by
  obtain ⟨_, _, _, _, v2, _, n1, _⟩ := stp_facts h
  have i0 := (inN_iff.1 p.hi).2
  have i1 := in_moves i0 p.hx p.hy
  have s := cyc_safe (m := m) v2 i1 p.hv (rows_hon (inN_iff.2 ⟨v2, i1⟩) p.ag)
  exact ⟨inN_iff.2 ⟨n1, s.1⟩, s.1, s.2⟩
def AgK (L : List Rp) (tk fa qx qy : Int) (k : Nat) : Prop := ∀ i, i < k → (nthR L i).t = tk → (nthR L i).s ≠ fa → agN (nthR L i) qx qy = true
theorem hon_next {L : List Rp} {tk fa qx qy : Int} {k : Nat} (h : AgK L tk fa qx qy k) (hh : (nthR L k).t = tk → (nthR L k).s ≠ fa → agN (nthR L k) qx qy = true) : AgK L tk fa qx qy (k + 1) := fun i hi => by
  by_cases e : i = k
  · subst e; exact hh
  · exact h i (by omega)
def HoR (L : List Rp) (R : World → Prop) (tk fa qx qy : Int) (u : Value) (wr : World) : Prop := ∃ k : Nat, u = .int .i64 k ∧ k ≤ L.length ∧ R wr ∧ Hid (AgK L tk fa qx qy k)
theorem rg_cut {l : List Rp} {p : Option Addr} {cap : Nat} {w : World} (h : RlG l (.slice p l.length cap) w) (n : Nat) : RlG (l.take n) (.slice p (l.take n).length cap) w := by
  by_cases hn : n ≤ l.length
  · rw [List.length_take, Nat.min_eq_left hn]; exact rg_take h hn
  · rw [List.take_of_length_le (by omega)]; exact h
end Go.Proofs.YtidelghgjibndaaGreat
