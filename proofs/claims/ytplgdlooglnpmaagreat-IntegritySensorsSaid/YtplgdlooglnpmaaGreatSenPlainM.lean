/-
  The rows of a report as measurements of layer 43; append of several measurements.
-/
import Derived.Test.YtplgdlooglnpmaaGreatSnCertPlain
import Derived.Test.YtplgdlooglnpmaaGreatSnSmallPlain
import Derived.Test.YtplgdlooglnpmaaGreatSnSensorFour
import Derived.Test.YtplgdlooglnpmaaGreatSX7
namespace Go.Proofs.YtplgdlooglnpmaaGreat
set_option linter.unusedVariables false
open Go.RowKit

def cvM (m : S41.Ms) : Ms := ⟨m.s, m.a, m.b, m.z, m.d, m.w⟩
def rowsN (r : Rp) (cx cy bx b2 : Int) : List Ms × Int := ((S41.rowsF r.s r.k r.x r.y r.v r.b r.wt r.t cx cy bx b2).1.map cvM, (S41.rowsF r.s r.k r.x r.y r.v r.b r.wt r.t cx cy bx b2).2)
def agN (r : Rp) (px py : Int) : Bool := S41.agrB r.s r.k r.x r.y r.v r.b r.wt r.t px py
def inN (cx cy bx b2 px py : Int) : Bool := S41.insB cx cy bx b2 px py
theorem msC_cv (l : List S41.Ms) : l.flatMap S41.msV = msC (l.map cvM) := by
  unfold msC
  rw [List.flatMap_map]
  rfl
/-- the slice that Rows answers: in a block of its own -/
def RowN (w : World) (l : List Ms) (u : Value) (w' : World) : Prop :=
  (l = [] ∧ u = .slice none 0 0) ∨ ∃ k : Nat, l ≠ [] ∧ u = .slice (some ⟨k, 0, none⟩) l.length l.length ∧ w.heap.size ≤ k ∧ w'.heap[k]? = some (.cells (msC l).toArray 70)
theorem rowsN_any (r : Rp) (cx cy bx b2 : Int) (w : World) (k0 : 0 ≤ r.k) (k1 : r.k ≤ 255) :
    Calls Tryz.prog 14 #[.agg #[.int .i64 r.s, .int .u8 r.k, .int .i64 r.x, .int .i64 r.y, .int .i64 r.v, .int .i64 r.b, .int .i64 r.wt, .int .i64 r.t], .agg #[.int .i64 cx, .int .i64 cy, .int .i64 bx, .int .i64 b2]] w fun e w' => ∃ u, e = .returned (.tuple #[u, .int .i64 (rowsN r cx cy bx b2).2]) ∧ RowN w (rowsN r cx cy bx b2).1 u w' ∧ Below w.heap.size w w' :=
  (S41.rows_any r.s r.k r.x r.y r.v r.b r.wt r.t cx cy bx b2 w k0 k1).mono fun e w' ⟨u, h1, h2, h3⟩ => by
    refine ⟨u, h1, ?_, h3⟩
    unfold rowsN RowN
    rcases h2 with ⟨a, b⟩ | ⟨k, a, b, c, d⟩
    · exact .inl ⟨by simp only [a, List.map_nil], b⟩
    · exact .inr ⟨k, by simpa using a, by simpa using b, c, by rw [d, msC_cv]⟩
theorem rowsN_len (r : Rp) (cx cy bx b2 : Int) : (rowsN r cx cy bx b2).1.length ≤ 2 := by
  unfold rowsN
  rw [List.length_map]
  rcases S41.rows_small (s := r.s) (k := r.k) (x := r.x) (y := r.y) (v := r.v) (b := r.b) (wt := r.wt) (t := r.t) (cx := cx) (cy := cy) (bx := bx) (b2 := b2) with ⟨_, h⟩ | ⟨_, ⟨m, h, _⟩ | ⟨_, m, n, h, _⟩⟩ <;> rw [h] <;> simp
theorem rowsN_bad {r : Rp} {cx cy bx b2 : Int} (h0 : (rowsN r cx cy bx b2).2 ≠ 0) : (rowsN r cx cy bx b2).1 = [] := by
  unfold rowsN at *
  simp only at *
  rcases S41.rows_small (s := r.s) (k := r.k) (x := r.x) (y := r.y) (v := r.v) (b := r.b) (wt := r.wt) (t := r.t) (cx := cx) (cy := cy) (bx := bx) (b2 := b2) with ⟨_, h⟩ | ⟨h, _⟩
  · rw [h]; rfl
  · exact absurd h h0
theorem rowsN_good {r : Rp} {cx cy bx b2 : Int} (h0 : (rowsN r cx cy bx b2).2 = 0) : (rowsN r cx cy bx b2).1 ≠ [] := by
  unfold rowsN at *
  simp only at *
  rcases S41.rows_small (s := r.s) (k := r.k) (x := r.x) (y := r.y) (v := r.v) (b := r.b) (wt := r.wt) (t := r.t) (cx := cx) (cy := cy) (bx := bx) (b2 := b2) with ⟨h, _⟩ | ⟨_, ⟨m, h, _⟩ | ⟨_, m, n, h, _⟩⟩
  · exact absurd h0 h
  · rw [h]; simp
  · rw [h]; simp
theorem rowsN_src {r : Rp} {cx cy bx b2 : Int} (h0 : (rowsN r cx cy bx b2).2 = 0) : 1 ≤ r.s ∧ ∀ m ∈ (rowsN r cx cy bx b2).1, m.s = r.s := by
  unfold rowsN S41.rowsF at *
  simp only at *
  split at h0
  · rename_i h
    refine ⟨(S41.check_bd h).1.1, ?_⟩
    rw [if_pos h]
    split at h0
    · rename_i h1
      rw [if_pos h1]
      split at h0
      · rename_i h2
        rw [if_pos h2]
        intro m hm
        simp only [List.map_cons, List.map_nil, List.mem_cons, List.not_mem_nil, or_false] at hm
        rcases hm with rfl | rfl <;> rfl
      · rename_i h2
        rw [if_neg h2]
        split at h0
        · rename_i h3
          rw [if_pos h3]
          split at h0
          · cases h0
          · rename_i h4
            rw [if_neg h4]
            intro m hm
            simp only [List.map_cons, List.map_nil, List.mem_cons, List.not_mem_nil, or_false] at hm
            rcases hm with rfl
            rfl
        · rename_i h3
          rw [if_neg h3]
          intro m hm
          simp only [List.map_cons, List.map_nil, List.mem_cons, List.not_mem_nil, or_false] at hm
          rcases hm with rfl
          rfl
    · cases h0
  · rename_i h
    exact absurd h0 h
theorem rowsN_cert {r : Rp} {cx cy bx b2 px py : Int} (h0 : (rowsN r cx cy bx b2).2 = 0) (ha : agN r px py = true) (hi : inN cx cy bx b2 px py = true) : ∀ m ∈ (rowsN r cx cy bx b2).1, HoldP m px py := by
  unfold rowsN at *
  simp only at *
  have key : ∀ n : S41.Ms, S41.CertM r.s r.wt px py n → HoldP (cvM n) px py := fun n hn => hn.1
  rcases S41.rows_cert h0 ha hi with ⟨m, h, h1⟩ | ⟨m, n, h, h1, h2⟩
  · rw [h]
    intro x hx
    simp only [List.map_cons, List.map_nil, List.mem_cons, List.not_mem_nil, or_false] at hx
    rw [hx]; exact key m h1
  · rw [h]
    intro x hx
    simp only [List.map_cons, List.map_nil, List.mem_cons, List.not_mem_nil, or_false] at hx
    rcases hx with rfl | rfl
    · exact key m h1
    · exact key n h2
theorem msC_one : ∀ (l : List Ms), ∀ u ∈ msC l, u.oneCell' = true := by
  intro l u hu
  unfold msC at hu
  obtain ⟨m, _, hm⟩ := List.mem_flatMap.1 hu
  simp only [List.mem_cons, List.not_mem_nil, or_false] at hm
  rcases hm with rfl | rfl | rfl | rfl | rfl | rfl <;> rfl
theorem wpList_oml {ops : Array Oper} {rest : List Oper} {o : Oper} {a : Act} {Q : Exit → Act → World → Prop} (hgd : o.guard = none) (s x : Operand)
    (ho : o.op = .call { callee := .builtin .append, args := #[s, x], argTypes := #[22, 22] })
    (B : Nat) (v : Value) (l : List Ms) (hs : a.eval s = v) (W : World) (h : OM B W v l) (k : Nat) (p : List Ms)
    (hx : a.eval x = .slice (some ⟨k, 0, none⟩) p.length p.length) (hk : W.heap[k]? = some (.cells (msC p).toArray 70)) (hl : l.length + p.length ≤ 100000) (hB : B ≤ W.heap.size)
    (H : ∀ v' w', OM B w' v' (l ++ p) → W.grownBy w' v.ownBlock → (v'.ownBlock = v.ownBlock ∨ v'.ownBlock = some W.heap.size) → wpList Tryz.prog ops Q rest (a.put o.dst v') w') :
    wpList Tryz.prog ops Q (o :: rest) a W := by
  obtain ⟨i0, hi, hz0, hz1, hz2⟩ := info_parts infoMeas
  refine wpList_append_own_at _ hgd s x 22 ho B 70 i0 (.agg #[.int .i64 0, .int .i64 0, .int .i64 0, .int .i64 0, .int .i64 0, .int .i64 0]) 6 48 Tryz.underlying22 hi hz0 hz1 hz2 rfl (by decide) v l.length (msC l) hs h ⟨k, 0, none⟩ p.length p.length (msC p) hx (by rw [msC_len]) ?_ (msC_one p) (by unfold maxLen; omega) (by omega) hB ?_
  · intro j u hu
    have hadd : (⟨k, 0, none⟩ : Addr).add j = ⟨k, j, none⟩ := by unfold Addr.add; split <;> simp_all
    rw [hadd]
    unfold World.cell?
    rw [hk]
    simpa using hu
  · intro v' w' ho' hg _ hat
    exact H v' w' (by unfold OM; rw [List.length_append, msC_append]; exact ho') hg hat
end Go.Proofs.YtplgdlooglnpmaaGreat
