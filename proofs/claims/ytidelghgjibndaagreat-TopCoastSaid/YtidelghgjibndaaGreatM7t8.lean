/-
  Walks and laws of the layers below, gathered from several texts.
-/
import Derived.StillTail
import Derived.StillTailTactics
import Derived.Lib.QuietBelow
import Derived.Test.YtidelghgjibndaaGreatM7t7
namespace Go.Proofs.YtidelghgjibndaaGreat
open Go Go.Sort Go.RowKit

section
variable {P : Program} {ops : Array Oper} {md : Region.Mode} {C : World → Prop}

/-- a value, and the very world -/
def calmUpon (w : World) (v : Value) : Result Next → Prop
  | .ok (.value u) w' => w' = w ∧ u = v
  | _ => False
/-- in this state, in every world of the class, the operation yields v and leaves the world as it is -/
def Calm (P : Program) (ops : Array Oper) (C : World → Prop) (o : Oper) (v : Value) (a : Act) : Prop :=
  (Region.wanted o (yielded ops a.tmps) = true ∧ ∀ w, C w → calmUpon w v ((execOp a.eval o).run P w)) ∨ (Region.wanted o (yielded ops a.tmps) = false ∧ v = undef)
/-- the walk of such operations, in the order of a list -/
def wpCalm (P : Program) (ops : Array Oper) (C : World → Prop) (Q : Act → Prop) : List Oper → Act → Prop
  | [], a => Q a
  | o :: rest, a => if Region.wanted o (yielded ops a.tmps) then ∃ v, (∀ w, C w → calmUpon w v ((execOp a.eval o).run P w)) ∧ wpCalm P ops C Q rest (a.put o.dst v) else wpCalm P ops C Q rest (a.put o.dst undef)
theorem wpCalm_nil {Q : Act → Prop} {a : Act} (h : Q a) : wpCalm P ops C Q [] a := h
theorem wpCalm_step {Q : Act → Prop} {a : Act} {o : Oper} {rest : List Oper}
    (h : ∀ K : Act → Prop, (∀ a, wpCalm P ops C Q rest a → K a) → if Region.wanted o (yielded ops a.tmps) then ∃ v, (∀ w, C w → calmUpon w v ((execOp a.eval o).run P w)) ∧ K (a.put o.dst v) else K (a.put o.dst undef)) : wpCalm P ops C Q (o :: rest) a :=
  h _ (fun _ h => h)
theorem calm_intro {w : World} {u : Value} : calmUpon w u (.ok (.value u) w) := ⟨rfl, rfl⟩

theorem Calm.of_same {o : Oper} {v : Value} {a a' : Act} (hy : Calm P ops C o v a) (he : execOp a'.eval o = execOp a.eval o)
    (hw : Region.wanted o (yielded ops a'.tmps) = Region.wanted o (yielded ops a.tmps)) : Calm P ops C o v a' := by
  unfold Calm at *
  rw [he, hw]
  exact hy
theorem Calm.wpOp {Q : Exit → Act → World → Prop} {i : Nat} {o : Oper} {v : Value} {a : Act} {w : World} {K : Act → World → Prop} (hi : ops[i]? = some o) (hy : Calm P ops C o v a) (hC : C w) (h : K (a.put o.dst v) w) : wpOp P ops Q i K a w := by
  unfold Go.wpOp
  simp only [hi]
  rcases hy with ⟨hw, hv⟩ | ⟨hw, rfl⟩
  · simp only [hw, if_true]
    refine .inl ?_
    have h3 := hv w hC
    unfold Oper.wp
    generalize (execOp a.eval o).run P w = r at *
    cases r with
    | ok n w' =>
      cases n <;> simp only [calmUpon] at h3
      case value u =>
        obtain ⟨e1, e2⟩ := h3
        subst e1 e2
        exact h
    | halt x w' => simp only [calmUpon] at h3
  · simp only [hw, Bool.false_eq_true, if_false]
    exact h

/-- a way out that is the normal one alone -/
def OnlyNormal (Q : Exit → Act → World → Prop) : Prop := ∀ e a w, Q e a w → e = .normal
theorem wpOp_put {Q : Exit → Act → World → Prop} (hQ : OnlyNormal Q) {j : Nat} {oi oj : Oper} {v : Value} (hj : ops[j]? = some oj) (hap : oi.apart ops oj = true)
    (hsi : ∀ cs b, oi.op ≠ .select cs b) (hsj : ∀ cs b, oj.op ≠ .select cs b) {K : Act → World → Prop} {a : Act} {w : World}
    (hy : Calm P ops C oi v a) (h : wpOp P ops Q j K (a.put oi.dst v) w) : wpOp P ops Q j (fun a' w' => Calm P ops C oi v a' ∧ K (a'.put oi.dst v) w') a w := by
  obtain ⟨h1, h2, h3⟩ := Oper.apart_spec hap
  have keep : ∀ (a : Act), Calm P ops C oi v a → ∀ u, Calm P ops C oi v (a.put oj.dst u) := fun a hy u =>
    hy.of_same (execOp_put oi hsi a oj.dst u h3) (wanted_put oi a oj.dst u h3)
  unfold wpOp at *
  simp only [hj] at *
  rw [wanted_put oj a oi.dst v h1] at h
  split
  · rename_i hw
    simp only [hw, if_true] at h
    rcases h with h | ⟨_, a9, w9, h9⟩
    · refine .inl ?_
      unfold Oper.wp at *
      rw [execOp_put oj hsj a oi.dst v h1] at h
      generalize (execOp a.eval oj).run P w = r at *
      cases r with
      | ok n w' =>
        cases n <;> simp only [Oper.upon] at h ⊢
        case value u => exact ⟨keep a hy u, by rw [← Act.put_comm a v u h2]; exact h⟩
        case skip => exact ⟨keep a hy _, by rw [← Act.put_comm a v undef h2]; exact h⟩
        case defer d =>
          have e3 : ({ a.put oi.dst v with defers := d :: (a.put oi.dst v).defers } : Act) = ({ a with defers := d :: a.defers } : Act).put oi.dst v := by cases oi.dst <;> rfl
          have e4 : ({ a with defers := d :: a.defers } : Act).put oj.dst undef = { a.put oj.dst undef with defers := d :: a.defers } := by cases oj.dst <;> rfl
          rw [e3] at h
          refine ⟨?_, by rw [← Act.put_comm _ v undef h2]; exact h⟩
          rw [e4]
          exact (keep a hy undef).of_same rfl rfl
        case enter f args =>
          refine Calls.mono h (fun e w'' he => ?_)
          cases e with
          | returned u => exact ⟨keep a hy u, by rw [← Act.put_comm a v u h2]; exact he⟩
          | panicked chain => exact absurd (hQ _ _ _ he) (by simp)
          | outgrown => obtain ⟨_, _, hx⟩ := he; exact absurd (hQ _ _ _ hx) (by simp)
        case row rw args => exact Rows.mono h (fun u w'' he => ⟨keep a hy u, by rw [← Act.put_comm a v u h2]; exact he⟩)
      | halt x w' =>
        cases x <;> simp only [Oper.upon] at h ⊢
        exact absurd (hQ _ _ _ h) (by simp)
    · exact absurd (hQ _ _ _ h9) (by simp)
  · rename_i hw
    simp only [hw] at h
    exact ⟨keep a hy _, by rw [← Act.put_comm a v undef h2]; exact h⟩

/-- whatever order is picked from here on, the class kept at every step -/
def wpAnyC (P : Program) (md : Region.Mode) (ops : Array Oper) (Q : Exit → Act → World → Prop) (C : World → Prop) : Nat → Array Bool → Act → World → Prop
  | 0, listed, a, w => C w ∧ Region.ready md ops listed = [] ∧ Q .normal a w
  | f + 1, listed, a, w => C w ∧ (Region.ready md ops listed = [] → Q .normal a w) ∧ ∀ i ∈ Region.ready md ops listed, wpOp P ops Q i (wpAnyC P md ops Q C f (listed.setIfInBounds i true)) a w
theorem wpAnyC_in {Q : Exit → Act → World → Prop} {f : Nat} {listed : Array Bool} {a : Act} {w : World} (h : wpAnyC P md ops Q C f listed a w) : C w := by
  cases f with
  | zero => exact h.1
  | succ f => exact h.1
theorem wpAny_of_C {Q : Exit → Act → World → Prop} : ∀ (f : Nat) (listed : Array Bool) (a : Act) (w : World), wpAnyC P md ops Q C f listed a w → wpAny P md ops Q f listed a w
  | 0, _, _, _, h => h.2
  | f + 1, _, _, _, h => ⟨h.2.1, fun i hi => wpOp_mono (fun a w h => wpAny_of_C f _ a w h) (h.2.2 i hi)⟩

theorem wpAnyC_first {Q : Exit → Act → World → Prop} (hQ : OnlyNormal Q) {i : Nat} {oi : Oper} {v : Value} (hi : ops[i]? = some oi) (hsel : ∀ (j : Nat) (o : Oper) cs b, ops[j]? = some o → o.op ≠ .select cs b) :
    ∀ (f : Nat) (listed : Array Bool) (a : Act) (w : World),
      (∀ j oj, ops[j]? = some oj → j ≠ i → listed.getD j true = false → (∀ e ∈ oj.after, Region.binds md e = true → e.on ≠ i) → oi.apart ops oj = true) →
      i ∈ Region.ready md ops listed → Calm P ops C oi v a →
      wpAnyC P md ops Q C f (listed.setIfInBounds i true) (a.put oi.dst v) w → wpAnyC P md ops Q C (f + 1) listed a w := by
  intro f
  induction f with
  | zero =>
    intro listed a w _ hr hy H
    refine ⟨H.1, fun h => (by rw [h] at hr; cases hr), fun j hj => ?_⟩
    by_cases hji : j = i
    · subst hji; exact hy.wpOp hi H.1 H
    · have := ready_mono hj hji
      rw [H.2.1] at this
      cases this
  | succ f ih =>
    intro listed a w hfree hr hy H
    refine ⟨H.1, fun h => (by rw [h] at hr; cases hr), fun j hj => ?_⟩
    by_cases hji : j = i
    · subst hji; exact hy.wpOp hi H.1 H
    · have h1 := H.2.2 j (ready_mono hj hji)
      obtain ⟨hjun, oj, hoj, hall⟩ := mem_ready.1 hj
      have hnot : ∀ e ∈ oj.after, Region.binds md e = true → e.on ≠ i := fun e he hb heq => by
        have h1 := hall e he hb
        have h0 := (mem_ready.1 hr).1
        rw [heq] at h1
        rcases Nat.lt_or_ge i listed.size with h' | h'
        · simp [h'] at h0 h1; rw [h0] at h1; cases h1
        · simp [Array.getElem?_eq_none h'] at h1
      have h2 := wpOp_put hQ hoj (hfree j oj hoj hji hjun hnot) (fun cs b => hsel i oi cs b hi) (fun cs b => hsel j oj cs b hoj) hy h1
      have hfree' : ∀ k ok, ops[k]? = some ok → k ≠ i → (listed.setIfInBounds j true).getD k true = false →
          (∀ e ∈ ok.after, Region.binds md e = true → e.on ≠ i) → oi.apart ops ok = true := fun k ok hk hki hun hno => by
        refine hfree k ok hk hki ?_ hno
        by_cases hjk : j = k
        · subst hjk; exact hjun
        · rw [getD_set_ne true hjk] at hun; exact hun
      refine wpOp_mono (fun a' w' h3 => ih (listed.setIfInBounds j true) a' w' hfree' (ready_mono hr (Ne.symm hji)) h3.1 ?_) h2
      rw [Array.setIfInBounds_comm _ _ hji]
      exact h3.2

/-- some operations of a list -/
def pick (l : List Oper) (is : List Nat) : List Oper := is.filterMap fun i => l[i]?
def fin (is : List Nat) (listed : Array Bool) : Array Bool := is.foldl (fun r i => r.setIfInBounds i true) listed
def headsB (md : Region.Mode) (ops : Array Oper) : List Nat → Array Bool → Bool
  | [], _ => true
  | i :: is, listed => (Region.ready md ops listed).contains i && Region.free md ops listed i && headsB md ops is (listed.setIfInBounds i true)
theorem wpAnyC_heads {l : List Oper} {Q : Exit → Act → World → Prop} (hQ : OnlyNormal Q) (hsel : Region.noSelect l.toArray = true) : ∀ (is : List Nat) (f : Nat) (listed : Array Bool) (a : Act) (w : World),
    headsB md l.toArray is listed = true → wpCalm P l.toArray C (fun a' => wpAnyC P md l.toArray Q C f (fin is listed) a' w) (pick l is) a → wpAnyC P md l.toArray Q C (f + is.length) listed a w
  | [], f, listed, a, w, _, h => h
  | i :: is, f, listed, a, w, hB, h => by
    simp only [headsB, Bool.and_eq_true] at hB
    obtain ⟨⟨hr, hf⟩, hB'⟩ := hB
    have hr' : i ∈ Region.ready md l.toArray listed := by simpa using hr
    obtain ⟨_, o, ho, _⟩ := mem_ready.1 hr'
    have ho' : l[i]? = some o := by simpa using ho
    have hp : pick l (i :: is) = o :: pick l is := by unfold pick; rw [List.filterMap_cons, ho']
    rw [hp] at h
    show wpAnyC P md l.toArray Q C ((f + is.length) + 1) listed a w
    unfold wpCalm at h
    by_cases hw : Region.wanted o (yielded l.toArray a.tmps) = true
    · rw [if_pos hw] at h
      obtain ⟨v, h1, h2⟩ := h
      exact wpAnyC_first hQ ho (Region.noSelect_spec hsel) _ listed a w (Region.free_spec ho hf) hr' (.inl ⟨hw, h1⟩) (wpAnyC_heads hQ hsel is f _ _ w hB' h2)
    · rw [if_neg hw] at h
      exact wpAnyC_first hQ ho (Region.noSelect_spec hsel) _ listed a w (Region.free_spec ho hf) hr' (.inr ⟨by simpa using hw, rfl⟩) (wpAnyC_heads hQ hsel is f _ _ w hB' h)

/-- behind one operation -/
def Then1 (K : Act → World → Prop) : Exit → Act → World → Prop
  | .normal, a, w => K a w
  | _, _, _ => False
theorem Then1.mk {K : Act → World → Prop} {a : Act} {w : World} (h : K a w) : Then1 K .normal a w := h
theorem wpOp_of_list {Q : Exit → Act → World → Prop} {i : Nat} {o : Oper} {K : Act → World → Prop} {a : Act} {w : World} (hi : ops[i]? = some o) (h : wpList P ops (Then1 K) [o] a w) : wpOp P ops Q i K a w := by
  unfold wpOp
  simp only [hi]
  unfold wpList at h
  split
  · rename_i q
    rw [if_pos q] at h
    rcases h with h | ⟨_, a9, w9, h9⟩
    · refine .inl ?_
      unfold Oper.wp at *
      generalize (execOp a.eval o).run P w = r at *
      cases r with
      | ok n w' =>
        cases n <;> first | exact h | skip
        case enter f args => exact Calls.mono h (fun e w'' he => by cases e <;> first | exact he | exact (he : False).elim | (obtain ⟨_, _, hx⟩ := he; exact (hx : False).elim))
      | halt x w' => cases x <;> first | exact (h : False).elim | exact h
    · exact (h9 : False).elim
  · rename_i q
    rw [if_neg q] at h
    exact h
/-- one of several operations comes up -/
theorem wpAnyC_node {Q : Exit → Act → World → Prop} {f : Nat} {listed : Array Bool} {a : Act} {w : World} {i : Nat} {rs : List Nat} (hr : Region.ready md ops listed = i :: rs) (hC : C w)
    (h : ∀ j ∈ i :: rs, wpOp P ops Q j (wpAnyC P md ops Q C f (listed.setIfInBounds j true)) a w) : wpAnyC P md ops Q C (f + 1) listed a w :=
  ⟨hC, fun h0 => (by rw [hr] at h0; cases h0), fun j hj => h j (by rw [hr] at hj; exact hj)⟩
theorem all1 {p : Nat → Prop} {i : Nat} (h : p i) : ∀ j ∈ [i], p j := fun j hj => by rw [List.mem_singleton.1 hj]; exact h
theorem all2 {p : Nat → Prop} {i k : Nat} (h : p i) (h2 : p k) : ∀ j ∈ [i, k], p j := fun j hj => by
  rcases List.mem_cons.1 hj with rfl | hj
  · exact h
  · rw [List.mem_singleton.1 hj]; exact h2
theorem all3 {p : Nat → Prop} {i k m : Nat} (h : p i) (h2 : p k) (h3 : p m) : ∀ j ∈ [i, k, m], p j := fun j hj => by
  rcases List.mem_cons.1 hj with rfl | hj
  · exact h
  · exact all2 h2 h3 j hj
theorem wpAnyC_leaf {Q : Exit → Act → World → Prop} {f : Nat} {listed : Array Bool} {a : Act} {w : World} (hr : Region.ready md ops listed = []) (hC : C w) (h : Q .normal a w) : wpAnyC P md ops Q C f listed a w := by
  cases f with
  | zero => exact ⟨hC, hr, h⟩
  | succ f => exact ⟨hC, fun _ => h, fun i hi => (by rw [hr] at hi; cases hi)⟩
/-- the region -/
theorem wp_region_calm {id : Nat} {Q : Exit → Act → World → Prop} {a : Act} {w : World} {l : List Oper} (C : World → Prop) (hm : P.follows .mixedOrders = true) (h : wpAnyC P .any l.toArray Q C l.toArray.size (Array.replicate l.toArray.size false) a w.drew) : (Code.region id l.toArray true).wp P Q a w :=
  wp_region_any hm (wpAny_of_C _ _ _ _ h)
/-- the normal way out alone -/
def OneOut (R : Act → World → Prop) : Exit → Act → World → Prop
  | .normal, a, w => R a w
  | _, _, _ => False
theorem OneOut.mk {R : Act → World → Prop} {a : Act} {w : World} (h : R a w) : OneOut R .normal a w := h
theorem oneOut_normal {R : Act → World → Prop} : OnlyNormal (OneOut R) := fun e a w h => by
  cases e <;> first | rfl | exact (h : False).elim
theorem OneOut.imp {R : Act → World → Prop} {Q : Exit → Act → World → Prop} (k : ∀ a w, R a w → Q .normal a w) : ∀ (e : Exit) (a : Act) (w : World), OneOut R e a w → Q e a w := fun e a w h => by
  cases e <;> first | exact k a w h | exact (h : False).elim
/-- all ways through a region, joined: their states are alike but for the numbers of one or two new blocks -/
theorem wp_one {P : Program} {c : Code} {Q : Exit → Act → World → Prop} {a : Act} {w : World} {F : Nat → Act} {R : Nat → World → Prop} (h : c.wp P (OneOut fun a' w' => ∃ b, a' = F b ∧ R b w') a w) (k : ∀ b w', R b w' → Q .normal (F b) w') : c.wp P Q a w :=
  Code.wp_mono (OneOut.imp fun a' w' ⟨b, ha, hr⟩ => by subst ha; exact k b w' hr) h
theorem wp_two {P : Program} {c : Code} {Q : Exit → Act → World → Prop} {a : Act} {w : World} {F : Nat → Nat → Act} {R : Nat → Nat → World → Prop} (h : c.wp P (OneOut fun a' w' => ∃ b d, a' = F b d ∧ R b d w') a w) (k : ∀ b d w', R b d w' → Q .normal (F b d) w') : c.wp P Q a w :=
  Code.wp_mono (OneOut.imp fun a' w' ⟨b, d, ha, hr⟩ => by subst ha; exact k b d w' hr) h
end
end Go.Proofs.YtidelghgjibndaaGreat
namespace Go.Proofs.YtidelghgjibndaaGreat
set_option linter.unusedVariables false
open Go.RowKit
def OneV (F : Nat → Value → Act) (R : Nat → World → Prop) (a : Act) (w : World) : Prop := ∃ b u, a = F b u ∧ R b w
theorem OneV.mk {F : Nat → Value → Act} {R : Nat → World → Prop} {a : Act} {w : World} (b : Nat) (u : Value) (h : a = F b u) (k : R b w) : OneV F R a w := ⟨b, u, h, k⟩
theorem wp_onev {P : Program} {c : Code} {Q : Exit → Act → World → Prop} {a : Act} {w : World} {F : Nat → Value → Act} {R : Nat → World → Prop} (h : c.wp P (OneOut (OneV F R)) a w) (k : ∀ b u w', R b w' → Q .normal (F b u) w') : c.wp P Q a w :=
  Code.wp_mono (OneOut.imp fun a' w' ⟨b, u, ha, hr⟩ => by subst ha; exact k b u w' hr) h
set_option maxHeartbeats 40000000 in
set_option maxRecDepth 100000 in
theorem step_okR (b : Bx4) (t m tick ve vn dr rq : Int) (L : List Rp) (v : Value) (w : World) (h : RlG L v w) (hK : ∀ i, i < L.length → 0 ≤ (nthR L i).k ∧ (nthR L i).k ≤ 255) (he : stpE2 b t m tick ve vn dr rq L.length = 0) :
    Calls Tryz.prog 15 #[.agg #[.int .i64 b.cx, .int .i64 b.cy, .int .i64 b.x, .int .i64 b.y, .int .i64 t, .int .i64 m], .agg #[.int .i64 tick, v, .int .i64 ve, .int .i64 vn, .int .i64 dr, .int .i64 rq]] w fun e w' => e = .returned (.tuple #[.agg #[.int .i64 (stpC b t m tick ve vn dr L).box.cx, .int .i64 (stpC b t m tick ve vn dr L).box.cy, .int .i64 (stpC b t m tick ve vn dr L).box.x, .int .i64 (stpC b t m tick ve vn dr L).box.y, .int .i64 tick, .int .i64 (stpC b t m tick ve vn dr L).ms], .agg #[.int .i64 (stpC b t m tick ve vn dr L).box.cx, .int .i64 (stpC b t m tick ve vn dr L).box.cy, .int .i64 (stpC b t m tick ve vn dr L).box.x, .int .i64 (stpC b t m tick ve vn dr L).box.y, .bool (useB (stpC b t m tick ve vn dr L).box.x (stpC b t m tick ve vn dr L).box.y rq), .int .i64 (stpC b t m tick ve vn dr L).ex], .int .i64 0]) ∧ Below w.heap.size w w' := by
  obtain ⟨p, cap, rfl⟩ := rg_form h
  have H := Lib.hid h
  clear h
  obtain ⟨hc, h0, ⟨h1, h2, h3⟩, h8, h4⟩ := stp_ok2 he
  obtain ⟨_, ⟨c0, c1⟩, c2, c3⟩ := chkS_ok hc
  have CK0 := fun w => ncheck_any b t m w
  rw [hc] at CK0
  have CO0 := fun w => coast_any b ve vn dr (tick - t) w
  rw [(cst_val h4).2.2.2] at CO0
  have US0 := Lib.hid fun a0 a1 a2 a3 k w => usable_any a0 a1 a2 a3 k rq false w
  have E0 : stpC b t m tick ve vn dr L = cycF (movB b ve vn dr (tick - t)) m (rowsT tick (movB b ve vn dr (tick - t)).cx (movB b ve vn dr (tick - t)).cy (movB b ve vn dr (tick - t)).x (movB b ve vn dr (tick - t)).y L) := rfl
  generalize stpC b t m tick ve vn dr L = q at *
  have sw : IntKind.i64.wrap (tick - t) = tick - t := IntWalk.i64_in _ (by omega)
  have sm : IntKind.i64.wrap (m + 1) = m + 1 := IntWalk.i64_in _ (by omega)
  have g0 : decide (tick ≤ t) = false := by simp; omega
  have g1 : decide (1099511627776 < tick) = false := by simp; omega
  have g2 : decide (rq < 0) = false := by simp; omega
  have g3 : decide (2000000 < rq) = false := by simp; omega
  have g4 : decide (8 < L.length) = false := by simp; omega
  have g5 : decide ((8 : Int) < (L.length : Int)) = false := by simp; omega
  have hn : L.length ≤ 20000 := by omega
  clear he hc h0 h1 h2 h3 h4 h8 c0 c1 c2 c3
  generalize movB b ve vn dr (tick - t) = r at *
  have RW := Lib.hid fun w h => nrows_any L (.slice p L.length cap) tick ve vn dr rq r.cx r.cy r.x r.y w h hK hn
  obtain ⟨l, hl⟩ : ∃ z, rowsT tick r.cx r.cy r.x r.y L = z := ⟨_, rfl⟩
  rw [hl] at RW E0
  clear hl hn hK
  have FX := Lib.hid fun v w h => fix_any l v r w h
  unfold cycF at E0
  generalize fixF l r = f at *
  obtain ⟨⟨⟨dx, dy, d1, d2⟩, k⟩, ok⟩ := f
  obtain ⟨cx', cy', x', y'⟩ := r
  obtain ⟨cx, cy, x, y⟩ := b
  simp only at CK0 CO0 E0 RW FX
  obtain ⟨m1, hm1⟩ : ∃ z, min (m + 1) 1000 = z := ⟨_, rfl⟩
  rw [hm1] at E0
  have EV0 := Lib.hid E0
  have CK := Lib.hid CK0
  have CO := Lib.hid CO0
  clear CK0 CO0 E0
  obtain ⟨KS, KI, KA, KE, KC, HB⟩ := ent5 w #[.int .i64 cx, .int .i64 cy, .int .i64 x, .int .i64 y, .int .i64 t, .int .i64 m] 41 #[.int .i64 tick, .slice p L.length cap, .int .i64 ve, .int .i64 vn, .int .i64 dr, .int .i64 rq] 45 #[.int .i64 0, .int .i64 0, .int .i64 0, .int .i64 0, .int .i64 0, .int .i64 0] 41 #[.int .i64 0, .int .i64 0, .int .i64 0, .int .i64 0, .bool false, .int .i64 0] 48 #[.int .i64 0, .int .i64 0, .int .i64 0, .int .i64 0] 26
  go_enter Tryz.func15, Tryz.ntmps15
  go_wp2_with fail
  generalize ((((w.alloc (.cells #[.int .i64 cx, .int .i64 cy, .int .i64 x, .int .i64 y, .int .i64 t, .int .i64 m] 41)).alloc (.cells #[.int .i64 tick, .slice p L.length cap, .int .i64 ve, .int .i64 vn, .int .i64 dr, .int .i64 rq] 45)).alloc (.cells #[.int .i64 0, .int .i64 0, .int .i64 0, .int .i64 0, .int .i64 0, .int .i64 0] 41)).alloc (.cells #[.int .i64 0, .int .i64 0, .int .i64 0, .int .i64 0, .bool false, .int .i64 0] 48)).alloc (.cells #[.int .i64 0, .int .i64 0, .int .i64 0, .int .i64 0] 26) = w0 at *
  refine (CK.out _).mono ?_
  rintro e1 w1 ⟨rfl, hb1⟩
  replace HB := hT HB hb1
  replace KS := hK KS hb1
  replace KI := hK KI hb1
  replace KA := hK KA hb1
  replace KE := hK KE hb1
  replace KC := hK KC hb1
  clear hb1
  obtain ⟨yS_0, yS_1, yS_2, yS_3, yS_4, yS_5, yS_z⟩ := blk6 KS
  obtain ⟨yI_0, yI_1, yI_2, yI_3, yI_4, yI_5, yI_z⟩ := blk6 KI
  go_wp2_with fail
  refine (CO.out _).mono ?_
  rintro e2 w2 ⟨rfl, hb2⟩
  replace HB := hT HB hb2
  replace KS := hK KS hb2
  replace KI := hK KI hb2
  replace KA := hK KA hb2
  replace KE := hK KE hb2
  replace KC := hK KC hb2
  clear yS_0 yS_1 yS_2 yS_3 yS_4 yS_5 yS_z yI_0 yI_1 yI_2 yI_3 yI_4 yI_5 yI_z
  clear hb2
  obtain ⟨yS_0, yS_1, yS_2, yS_3, yS_4, yS_5, yS_z⟩ := blk6 KS
  obtain ⟨yI_0, yI_1, yI_2, yI_3, yI_4, yI_5, yI_z⟩ := blk6 KI
  obtain ⟨yC_0, yC_1, yC_2, yC_3, yC_z, yC_f0, yC_f1, yC_f2, yC_f3⟩ := blf4 KC
  go_wp2_with fail
  have hs := st4 w2 (w.heap.size + 1 + 1 + 1 + 1) 0 (.int .i64 (cx')) 1 (.int .i64 (cy')) 2 (.int .i64 (x')) 3 (.int .i64 (y'))
  replace KS := oB hs KS (by omega)
  replace KI := oB hs KI (by omega)
  replace KA := oB hs KA (by omega)
  replace KE := oB hs KE (by omega)
  replace KC := Lib.hid (blk_set (blk_set (blk_set (blk_set KC.out (j := 0) (by simp) (.int .i64 (cx'))) (j := 1) (by simp) (.int .i64 (cy'))) (j := 2) (by simp) (.int .i64 (x'))) (j := 3) (by simp) (.int .i64 (y')))
  replace HB := oH hs HB (by omega)
  clear hs
  clear yS_0 yS_1 yS_2 yS_3 yS_4 yS_5 yS_z yI_0 yI_1 yI_2 yI_3 yI_4 yI_5 yI_z yC_0 yC_1 yC_2 yC_3 yC_z yC_f0 yC_f1 yC_f2 yC_f3
  simp only [List.set] at KC
  have hz9 : ((((w2.setCell ⟨(w.heap.size + 1 + 1 + 1 + 1), 0, none⟩ (.int .i64 (cx'))).setCell ⟨(w.heap.size + 1 + 1 + 1 + 1), 1, none⟩ (.int .i64 (cy'))).setCell ⟨(w.heap.size + 1 + 1 + 1 + 1), 2, none⟩ (.int .i64 (x'))).setCell ⟨(w.heap.size + 1 + 1 + 1 + 1), 3, none⟩ (.int .i64 (y'))).heap.size = w2.heap.size := by simp [World.setCell]
  generalize (((w2.setCell ⟨(w.heap.size + 1 + 1 + 1 + 1), 0, none⟩ (.int .i64 (cx'))).setCell ⟨(w.heap.size + 1 + 1 + 1 + 1), 1, none⟩ (.int .i64 (cy'))).setCell ⟨(w.heap.size + 1 + 1 + 1 + 1), 2, none⟩ (.int .i64 (x'))).setCell ⟨(w.heap.size + 1 + 1 + 1 + 1), 3, none⟩ (.int .i64 (y')) = w9 at *
  rw [← hz9]
  clear hz9
  obtain ⟨KN, hb4⟩ := alB w9 #[.int .i64 (cx'), .int .i64 (cy'), .int .i64 (x'), .int .i64 (y'), .int .i64 tick, .int .i64 m1] 41
  have hnN := HB.out.size
  have nzN_S := KS.out.lt
  have nzN_I := KI.out.lt
  have nzN_A := KA.out.lt
  have nzN_E := KE.out.lt
  have nzN_C := KC.out.lt
  replace HB := hT HB hb4
  replace KS := hK KS hb4
  replace KI := hK KI hb4
  replace KA := hK KA hb4
  replace KE := hK KE hb4
  replace KC := hK KC hb4
  clear hb4
  generalize w9.alloc (.cells #[.int .i64 (cx'), .int .i64 (cy'), .int .i64 (x'), .int .i64 (y'), .int .i64 tick, .int .i64 m1] 41) = w4 at *
  generalize w9.heap.size = bN at *
  have neN_S : bN ≠ w.heap.size := by omega
  have neN_I : bN ≠ (w.heap.size + 1) := by omega
  have neN_A : bN ≠ (w.heap.size + 1 + 1) := by omega
  have neN_E : bN ≠ (w.heap.size + 1 + 1 + 1) := by omega
  have neN_C : bN ≠ (w.heap.size + 1 + 1 + 1 + 1) := by omega
  clear nzN_S nzN_I nzN_A nzN_E nzN_C
  have gI_0 := fun d os => cell_regrown (KI.out.c 0 _ rfl) d os
  have gI_1 := fun d os => cell_regrown (KI.out.c 1 _ rfl) d os
  have gI_2 := fun d os => cell_regrown (KI.out.c 2 _ rfl) d os
  have gI_3 := fun d os => cell_regrown (KI.out.c 3 _ rfl) d os
  have gI_4 := fun d os => cell_regrown (KI.out.c 4 _ rfl) d os
  have gI_5 := fun d os => cell_regrown (KI.out.c 5 _ rfl) d os
  have gC_0 := fun d os => cell_regrown (KC.out.c 0 _ rfl) d os
  have gC_1 := fun d os => cell_regrown (KC.out.c 1 _ rfl) d os
  have gC_2 := fun d os => cell_regrown (KC.out.c 2 _ rfl) d os
  have gC_3 := fun d os => cell_regrown (KC.out.c 3 _ rfl) d os
  apply wp_onev (R := fun b w' => w.heap.size ≤ b ∧ b ≠ w.heap.size ∧ b ≠ (w.heap.size + 1) ∧ b ≠ (w.heap.size + 1 + 1) ∧ b ≠ (w.heap.size + 1 + 1 + 1) ∧ b ≠ (w.heap.size + 1 + 1 + 1 + 1) ∧ b ≠ bN ∧ Hid (Below w.heap.size w w') ∧ Hid (Blk [.int .i64 dx, .int .i64 dy, .int .i64 d1, .int .i64 d2] b w') ∧ Hid (Blk [.int .i64 cx, .int .i64 cy, .int .i64 x, .int .i64 y, .int .i64 t, .int .i64 m] w.heap.size w') ∧ Hid (Blk [.int .i64 tick, .slice p L.length cap, .int .i64 ve, .int .i64 vn, .int .i64 dr, .int .i64 rq] (w.heap.size + 1) w') ∧ Hid (Blk [.int .i64 0, .int .i64 0, .int .i64 0, .int .i64 0, .int .i64 0, .int .i64 0] (w.heap.size + 1 + 1) w') ∧ Hid (Blk [.int .i64 0, .int .i64 0, .int .i64 0, .int .i64 0, .bool false, .int .i64 0] (w.heap.size + 1 + 1 + 1) w') ∧ Hid (Blk [.int .i64 (cx'), .int .i64 (cy'), .int .i64 (x'), .int .i64 (y')] (w.heap.size + 1 + 1 + 1 + 1) w') ∧ Hid (Blk [.int .i64 (cx'), .int .i64 (cy'), .int .i64 (x'), .int .i64 (y'), .int .i64 tick, .int .i64 m1] bN w'))
  · refine wp_region_calm (fun w' => ∃ p : Regrown, w' = Go.Sort.grow (redrawn w4 p.d) p.os) (by kernel_rfl) ?_
    refine wpAnyC_heads oneOut_normal (by kernel_rfl) [0, 1, 3] 10 (Array.replicate 13 false) _ _ (by kernel_rfl) ?_
    simp only [pick, List.filterMap_cons, List.filterMap_nil, List.getElem?_cons_zero, List.getElem?_cons_succ]
    repeat (refine wpCalm_step (fun K hK => ?_); go_simp; first | (refine hK _ ?_; clear hK K) | (refine ⟨_, fun _ => calm_intro, hK _ ?_⟩; clear hK K))
    refine wpCalm_nil ?_
    have HX := Lib.hid (below_drew1 (Below.refl w4.heap.size w4))
    generalize w4.drew = wa at HX ⊢
    refine wpAnyC_node (i := 2) (rs := [9]) (by kernel_rfl) (regrown_of_below HX.out) (all2 ?_ ?_)
    · refine wpOp_of_list (by rfl) ?_
      go_wp2_with fail
      refine (RW.out _ (H.out.below (HB.out.trans (HX.out.mono HB.out.size)))).mono ?_
      rintro e71 wc71 ⟨⟨ur, rfl, hom⟩, hb71⟩
      have OL := Lib.hid hom.lst
      clear hom
      go_wp2_with fail
      refine Then1.mk ?_
      replace HX := Lib.hid (HX.out.trans (hb71.mono HX.out.size))
      clear hb71
      refine wpAnyC_node (i := 4) (rs := [9]) (by kernel_rfl) (regrown_of_below HX.out) (all2 ?_ ?_)
      · refine wpOp_of_list (by rfl) ?_
        go_wp2_with fail
        refine (FX.out _ _ OL.out).mono ?_
        rintro e72 wc72 ⟨rfl, hb72⟩
        go_wp2_with fail
        refine Then1.mk ?_
        replace HX := Lib.hid (HX.out.trans (hb72.mono HX.out.size))
        clear hb72
        clear OL
        refine wpAnyC_heads oneOut_normal (by kernel_rfl) [5, 6, 7, 8] 4 _ _ _ (by kernel_rfl) ?_
        simp only [pick, List.filterMap_cons, List.filterMap_nil, List.getElem?_cons_zero, List.getElem?_cons_succ]
        repeat (refine wpCalm_step (fun K hK => ?_); go_simp; first | (refine hK _ ?_; clear hK K) | (refine ⟨_, fun _ => calm_intro, hK _ ?_⟩; clear hK K))
        refine wpCalm_nil ?_
        refine wpAnyC_node (i := 9) (rs := []) (by kernel_rfl) (regrown_of_below HX.out) (all1 ?_)
        · refine wpOp_of_list (by rfl) ?_
          go_wp2_with fail
          refine Then1.mk ?_
          have KM := Lib.hid (Blk.of (vs := #[.int .i64 0, .int .i64 0, .int .i64 0, .int .i64 0]) (t := 26) (w := wc72) (b := wc72.heap.size) rfl)
          have hM := HX.out.size
          replace HX := Lib.hid (HX.out.alloc HX.out.size (.cells #[.int .i64 0, .int .i64 0, .int .i64 0, .int .i64 0] 26))
          generalize wc72.alloc (.cells #[.int .i64 0, .int .i64 0, .int .i64 0, .int .i64 0] 26) = wc73 at *
          generalize wc72.heap.size = bM at *
          refine wpAnyC_node (i := 10) (rs := []) (by kernel_rfl) (regrown_of_below HX.out) (all1 ?_)
          refine wpOp_of_list (by rfl) ?_
          have yM := KM.out
          have yM_0 := yM.c 0 _ rfl
          have yM_1 := yM.c 1 _ rfl
          have yM_2 := yM.c 2 _ rfl
          have yM_3 := yM.c 3 _ rfl
          have yM_f0 := yM.f 0 _ rfl
          have yM_f1 := yM.f 1 _ rfl
          have yM_f2 := yM.f 2 _ rfl
          have yM_f3 := yM.f 3 _ rfl
          have yM_z := yM.lt
          clear yM
          go_wp2_with fail
          refine Then1.mk ?_
          replace KM := Lib.hid (blk_set (blk_set (blk_set (blk_set KM.out (j := 0) (by simp) (.int .i64 dx)) (j := 1) (by simp) (.int .i64 dy)) (j := 2) (by simp) (.int .i64 d1)) (j := 3) (by simp) (.int .i64 d2))
          replace HX := Lib.hid ((((HX.out.setCell (p := ⟨bM, 0, none⟩) hM (.int .i64 dx)).setCell (p := ⟨bM, 1, none⟩) hM (.int .i64 dy)).setCell (p := ⟨bM, 2, none⟩) hM (.int .i64 d1)).setCell (p := ⟨bM, 3, none⟩) hM (.int .i64 d2))
          clear yM_0 yM_f0 yM_1 yM_f1 yM_2 yM_f2 yM_3 yM_f3 yM_z
          generalize (((wc73.setCell ⟨bM, 0, none⟩ (.int .i64 dx)).setCell ⟨bM, 1, none⟩ (.int .i64 dy)).setCell ⟨bM, 2, none⟩ (.int .i64 d1)).setCell ⟨bM, 3, none⟩ (.int .i64 d2) = wz at *
          simp only [List.set] at KM
          refine wpAnyC_heads oneOut_normal (by kernel_rfl) [11, 12] 0 _ _ _ (by kernel_rfl) ?_
          simp only [pick, List.filterMap_cons, List.filterMap_nil, List.getElem?_cons_zero, List.getElem?_cons_succ]
          repeat (refine wpCalm_step (fun K hK => ?_); go_simp; first | (refine hK _ ?_; clear hK K) | (refine ⟨_, fun _ => calm_intro, hK _ ?_⟩; clear hK K))
          refine wpCalm_nil ?_
          refine wpAnyC_leaf (by kernel_rfl) (regrown_of_below HX.out) (OneOut.mk ?_)
          obtain ⟨bQ, hbQ⟩ := ex_blk KM
          rw [← hbQ] at KM hM ⊢
          refine OneV.mk bQ ur rfl ?_
          exact ⟨Nat.le_trans HB.out.size hM, Nat.ne_of_gt (Nat.lt_of_lt_of_le KS.out.lt hM), Nat.ne_of_gt (Nat.lt_of_lt_of_le KI.out.lt hM), Nat.ne_of_gt (Nat.lt_of_lt_of_le KA.out.lt hM), Nat.ne_of_gt (Nat.lt_of_lt_of_le KE.out.lt hM), Nat.ne_of_gt (Nat.lt_of_lt_of_le KC.out.lt hM), Nat.ne_of_gt (Nat.lt_of_lt_of_le KN.out.lt hM), Lib.hid (HB.out.trans (HX.out.mono HB.out.size)), KM, Lib.hid (KS.out.below HX.out), Lib.hid (KI.out.below HX.out), Lib.hid (KA.out.below HX.out), Lib.hid (KE.out.below HX.out), Lib.hid (KC.out.below HX.out), Lib.hid (KN.out.below HX.out)⟩
      · refine wpOp_of_list (by rfl) ?_
        go_wp2_with fail
        refine Then1.mk ?_
        have hl9 := OL.out.below ((Below.refl _ _).alloc (Nat.le_refl _) (.cells #[.int .i64 0, .int .i64 0, .int .i64 0, .int .i64 0] 26))
        replace OL := Lib.hid hl9
        clear hl9
        have KM := Lib.hid (Blk.of (vs := #[.int .i64 0, .int .i64 0, .int .i64 0, .int .i64 0]) (t := 26) (w := wc71) (b := wc71.heap.size) rfl)
        have hM := HX.out.size
        replace HX := Lib.hid (HX.out.alloc HX.out.size (.cells #[.int .i64 0, .int .i64 0, .int .i64 0, .int .i64 0] 26))
        generalize wc71.alloc (.cells #[.int .i64 0, .int .i64 0, .int .i64 0, .int .i64 0] 26) = wc72 at *
        generalize wc71.heap.size = bM at *
        refine wpAnyC_node (i := 4) (rs := []) (by kernel_rfl) (regrown_of_below HX.out) (all1 ?_)
        · refine wpOp_of_list (by rfl) ?_
          go_wp2_with fail
          refine (FX.out _ _ OL.out).mono ?_
          rintro e73 wc73 ⟨rfl, hb73⟩
          go_wp2_with fail
          refine Then1.mk ?_
          replace HX := Lib.hid (HX.out.trans (hb73.mono HX.out.size))
          replace KM := Lib.hid (KM.out.below hb73)
          clear hb73
          clear OL
          refine wpAnyC_heads oneOut_normal (by kernel_rfl) [5, 6, 7, 8] 3 _ _ _ (by kernel_rfl) ?_
          simp only [pick, List.filterMap_cons, List.filterMap_nil, List.getElem?_cons_zero, List.getElem?_cons_succ]
          repeat (refine wpCalm_step (fun K hK => ?_); go_simp; first | (refine hK _ ?_; clear hK K) | (refine ⟨_, fun _ => calm_intro, hK _ ?_⟩; clear hK K))
          refine wpCalm_nil ?_
          refine wpAnyC_node (i := 10) (rs := []) (by kernel_rfl) (regrown_of_below HX.out) (all1 ?_)
          refine wpOp_of_list (by rfl) ?_
          have yM := KM.out
          have yM_0 := yM.c 0 _ rfl
          have yM_1 := yM.c 1 _ rfl
          have yM_2 := yM.c 2 _ rfl
          have yM_3 := yM.c 3 _ rfl
          have yM_f0 := yM.f 0 _ rfl
          have yM_f1 := yM.f 1 _ rfl
          have yM_f2 := yM.f 2 _ rfl
          have yM_f3 := yM.f 3 _ rfl
          have yM_z := yM.lt
          clear yM
          go_wp2_with fail
          refine Then1.mk ?_
          replace KM := Lib.hid (blk_set (blk_set (blk_set (blk_set KM.out (j := 0) (by simp) (.int .i64 dx)) (j := 1) (by simp) (.int .i64 dy)) (j := 2) (by simp) (.int .i64 d1)) (j := 3) (by simp) (.int .i64 d2))
          replace HX := Lib.hid ((((HX.out.setCell (p := ⟨bM, 0, none⟩) hM (.int .i64 dx)).setCell (p := ⟨bM, 1, none⟩) hM (.int .i64 dy)).setCell (p := ⟨bM, 2, none⟩) hM (.int .i64 d1)).setCell (p := ⟨bM, 3, none⟩) hM (.int .i64 d2))
          clear yM_0 yM_f0 yM_1 yM_f1 yM_2 yM_f2 yM_3 yM_f3 yM_z
          generalize (((wc73.setCell ⟨bM, 0, none⟩ (.int .i64 dx)).setCell ⟨bM, 1, none⟩ (.int .i64 dy)).setCell ⟨bM, 2, none⟩ (.int .i64 d1)).setCell ⟨bM, 3, none⟩ (.int .i64 d2) = wz at *
          simp only [List.set] at KM
          refine wpAnyC_heads oneOut_normal (by kernel_rfl) [11, 12] 0 _ _ _ (by kernel_rfl) ?_
          simp only [pick, List.filterMap_cons, List.filterMap_nil, List.getElem?_cons_zero, List.getElem?_cons_succ]
          repeat (refine wpCalm_step (fun K hK => ?_); go_simp; first | (refine hK _ ?_; clear hK K) | (refine ⟨_, fun _ => calm_intro, hK _ ?_⟩; clear hK K))
          refine wpCalm_nil ?_
          refine wpAnyC_leaf (by kernel_rfl) (regrown_of_below HX.out) (OneOut.mk ?_)
          obtain ⟨bQ, hbQ⟩ := ex_blk KM
          rw [← hbQ] at KM hM ⊢
          refine OneV.mk bQ ur rfl ?_
          exact ⟨Nat.le_trans HB.out.size hM, Nat.ne_of_gt (Nat.lt_of_lt_of_le KS.out.lt hM), Nat.ne_of_gt (Nat.lt_of_lt_of_le KI.out.lt hM), Nat.ne_of_gt (Nat.lt_of_lt_of_le KA.out.lt hM), Nat.ne_of_gt (Nat.lt_of_lt_of_le KE.out.lt hM), Nat.ne_of_gt (Nat.lt_of_lt_of_le KC.out.lt hM), Nat.ne_of_gt (Nat.lt_of_lt_of_le KN.out.lt hM), Lib.hid (HB.out.trans (HX.out.mono HB.out.size)), KM, Lib.hid (KS.out.below HX.out), Lib.hid (KI.out.below HX.out), Lib.hid (KA.out.below HX.out), Lib.hid (KE.out.below HX.out), Lib.hid (KC.out.below HX.out), Lib.hid (KN.out.below HX.out)⟩
    · refine wpOp_of_list (by rfl) ?_
      go_wp2_with fail
      refine Then1.mk ?_
      have KM := Lib.hid (Blk.of (vs := #[.int .i64 0, .int .i64 0, .int .i64 0, .int .i64 0]) (t := 26) (w := wa) (b := wa.heap.size) rfl)
      have hM := HX.out.size
      replace HX := Lib.hid (HX.out.alloc HX.out.size (.cells #[.int .i64 0, .int .i64 0, .int .i64 0, .int .i64 0] 26))
      generalize wa.alloc (.cells #[.int .i64 0, .int .i64 0, .int .i64 0, .int .i64 0] 26) = wc71 at *
      generalize wa.heap.size = bM at *
      refine wpAnyC_node (i := 2) (rs := []) (by kernel_rfl) (regrown_of_below HX.out) (all1 ?_)
      · refine wpOp_of_list (by rfl) ?_
        go_wp2_with fail
        refine (RW.out _ (H.out.below (HB.out.trans (HX.out.mono HB.out.size)))).mono ?_
        rintro e72 wc72 ⟨⟨ur, rfl, hom⟩, hb72⟩
        have OL := Lib.hid hom.lst
        clear hom
        go_wp2_with fail
        refine Then1.mk ?_
        replace HX := Lib.hid (HX.out.trans (hb72.mono HX.out.size))
        replace KM := Lib.hid (KM.out.below hb72)
        clear hb72
        refine wpAnyC_node (i := 4) (rs := []) (by kernel_rfl) (regrown_of_below HX.out) (all1 ?_)
        · refine wpOp_of_list (by rfl) ?_
          go_wp2_with fail
          refine (FX.out _ _ OL.out).mono ?_
          rintro e73 wc73 ⟨rfl, hb73⟩
          go_wp2_with fail
          refine Then1.mk ?_
          replace HX := Lib.hid (HX.out.trans (hb73.mono HX.out.size))
          replace KM := Lib.hid (KM.out.below hb73)
          clear hb73
          clear OL
          refine wpAnyC_heads oneOut_normal (by kernel_rfl) [5, 6, 7, 8] 3 _ _ _ (by kernel_rfl) ?_
          simp only [pick, List.filterMap_cons, List.filterMap_nil, List.getElem?_cons_zero, List.getElem?_cons_succ]
          repeat (refine wpCalm_step (fun K hK => ?_); go_simp; first | (refine hK _ ?_; clear hK K) | (refine ⟨_, fun _ => calm_intro, hK _ ?_⟩; clear hK K))
          refine wpCalm_nil ?_
          refine wpAnyC_node (i := 10) (rs := []) (by kernel_rfl) (regrown_of_below HX.out) (all1 ?_)
          refine wpOp_of_list (by rfl) ?_
          have yM := KM.out
          have yM_0 := yM.c 0 _ rfl
          have yM_1 := yM.c 1 _ rfl
          have yM_2 := yM.c 2 _ rfl
          have yM_3 := yM.c 3 _ rfl
          have yM_f0 := yM.f 0 _ rfl
          have yM_f1 := yM.f 1 _ rfl
          have yM_f2 := yM.f 2 _ rfl
          have yM_f3 := yM.f 3 _ rfl
          have yM_z := yM.lt
          clear yM
          go_wp2_with fail
          refine Then1.mk ?_
          replace KM := Lib.hid (blk_set (blk_set (blk_set (blk_set KM.out (j := 0) (by simp) (.int .i64 dx)) (j := 1) (by simp) (.int .i64 dy)) (j := 2) (by simp) (.int .i64 d1)) (j := 3) (by simp) (.int .i64 d2))
          replace HX := Lib.hid ((((HX.out.setCell (p := ⟨bM, 0, none⟩) hM (.int .i64 dx)).setCell (p := ⟨bM, 1, none⟩) hM (.int .i64 dy)).setCell (p := ⟨bM, 2, none⟩) hM (.int .i64 d1)).setCell (p := ⟨bM, 3, none⟩) hM (.int .i64 d2))
          clear yM_0 yM_f0 yM_1 yM_f1 yM_2 yM_f2 yM_3 yM_f3 yM_z
          generalize (((wc73.setCell ⟨bM, 0, none⟩ (.int .i64 dx)).setCell ⟨bM, 1, none⟩ (.int .i64 dy)).setCell ⟨bM, 2, none⟩ (.int .i64 d1)).setCell ⟨bM, 3, none⟩ (.int .i64 d2) = wz at *
          simp only [List.set] at KM
          refine wpAnyC_heads oneOut_normal (by kernel_rfl) [11, 12] 0 _ _ _ (by kernel_rfl) ?_
          simp only [pick, List.filterMap_cons, List.filterMap_nil, List.getElem?_cons_zero, List.getElem?_cons_succ]
          repeat (refine wpCalm_step (fun K hK => ?_); go_simp; first | (refine hK _ ?_; clear hK K) | (refine ⟨_, fun _ => calm_intro, hK _ ?_⟩; clear hK K))
          refine wpCalm_nil ?_
          refine wpAnyC_leaf (by kernel_rfl) (regrown_of_below HX.out) (OneOut.mk ?_)
          obtain ⟨bQ, hbQ⟩ := ex_blk KM
          rw [← hbQ] at KM hM ⊢
          refine OneV.mk bQ ur rfl ?_
          exact ⟨Nat.le_trans HB.out.size hM, Nat.ne_of_gt (Nat.lt_of_lt_of_le KS.out.lt hM), Nat.ne_of_gt (Nat.lt_of_lt_of_le KI.out.lt hM), Nat.ne_of_gt (Nat.lt_of_lt_of_le KA.out.lt hM), Nat.ne_of_gt (Nat.lt_of_lt_of_le KE.out.lt hM), Nat.ne_of_gt (Nat.lt_of_lt_of_le KC.out.lt hM), Nat.ne_of_gt (Nat.lt_of_lt_of_le KN.out.lt hM), Lib.hid (HB.out.trans (HX.out.mono HB.out.size)), KM, Lib.hid (KS.out.below HX.out), Lib.hid (KI.out.below HX.out), Lib.hid (KA.out.below HX.out), Lib.hid (KE.out.below HX.out), Lib.hid (KC.out.below HX.out), Lib.hid (KN.out.below HX.out)⟩
  clear gI_0 gI_1 gI_2 gI_3 gI_4 gI_5 gC_0 gC_1 gC_2 gC_3 RW FX H
  rintro bM ur w80 ⟨nM, neM_S, neM_I, neM_A, neM_E, neM_C, neM_N, HB2, KM, KS2, KI2, KA2, KE2, KC2, KN2⟩
  replace HB := HB2
  clear HB2
  replace KS := KS2
  clear KS2
  replace KI := KI2
  clear KI2
  replace KA := KA2
  clear KA2
  replace KE := KE2
  clear KE2
  replace KC := KC2
  clear KC2
  replace KN := KN2
  clear KN2
  cases ok with
  | false =>
    have EV := Lib.hid (EV0.out.trans (if_neg (by decide)))
    have US := Lib.hid (US0.out cx' cy' x' y' 0)
    obtain ⟨us, hus⟩ : ∃ z, useB x' y' rq = z := ⟨_, rfl⟩
    rw [hus] at US
    have EU := Lib.hid hus
    clear hus EV0 US0
    obtain ⟨yI_0, yI_1, yI_2, yI_3, yI_4, yI_5, yI_z⟩ := blk6 KI
    obtain ⟨yN_0, yN_1, yN_2, yN_3, yN_4, yN_5, yN_z⟩ := blk6 KN
    go_wp2_with fail
    obtain ⟨KT, hb81⟩ := alB w80 #[.int .i64 (cx'), .int .i64 (cy'), .int .i64 (x'), .int .i64 (y'), .bool false, .int .i64 0] 48
    have hnT := HB.out.size
    have nzT_S := KS.out.lt
    have nzT_I := KI.out.lt
    have nzT_A := KA.out.lt
    have nzT_E := KE.out.lt
    have nzT_C := KC.out.lt
    have nzT_N := KN.out.lt
    have nzT_M := KM.out.lt
    replace HB := hT HB hb81
    replace KS := hK KS hb81
    replace KI := hK KI hb81
    replace KA := hK KA hb81
    replace KE := hK KE hb81
    replace KC := hK KC hb81
    replace KN := hK KN hb81
    replace KM := hK KM hb81
    clear yI_0 yI_1 yI_2 yI_3 yI_4 yI_5 yI_z yN_0 yN_1 yN_2 yN_3 yN_4 yN_5 yN_z
    clear hb81
    generalize w80.alloc (.cells #[.int .i64 (cx'), .int .i64 (cy'), .int .i64 (x'), .int .i64 (y'), .bool false, .int .i64 0] 48) = w81 at *
    generalize w80.heap.size = bT at *
    have neT_S : bT ≠ w.heap.size := by omega
    have neT_I : bT ≠ (w.heap.size + 1) := by omega
    have neT_A : bT ≠ (w.heap.size + 1 + 1) := by omega
    have neT_E : bT ≠ (w.heap.size + 1 + 1 + 1) := by omega
    have neT_C : bT ≠ (w.heap.size + 1 + 1 + 1 + 1) := by omega
    have neT_N : bT ≠ bN := by omega
    have neT_M : bT ≠ bM := by omega
    clear nzT_S nzT_I nzT_A nzT_E nzT_C nzT_N nzT_M
    refine (US.out _).mono ?_
    rintro e82 w82 ⟨rfl, hb82⟩
    replace HB := hT HB hb82
    replace KS := hK KS hb82
    replace KI := hK KI hb82
    replace KA := hK KA hb82
    replace KE := hK KE hb82
    replace KC := hK KC hb82
    replace KN := hK KN hb82
    replace KM := hK KM hb82
    replace KT := hK KT hb82
    clear hb82
    obtain ⟨yA_0, yA_1, yA_2, yA_3, yA_4, yA_5, yA_z, yA_f0, yA_f1, yA_f2, yA_f3, yA_f4, yA_f5⟩ := blf6 KA
    obtain ⟨yE_0, yE_1, yE_2, yE_3, yE_4, yE_5, yE_z, yE_f0, yE_f1, yE_f2, yE_f3, yE_f4, yE_f5⟩ := blf6 KE
    obtain ⟨yN_0, yN_1, yN_2, yN_3, yN_4, yN_5, yN_z⟩ := blk6 KN
    obtain ⟨yT_0, yT_1, yT_2, yT_3, yT_4, yT_5, yT_z, yT_f0, yT_f1, yT_f2, yT_f3, yT_f4, yT_f5⟩ := blf6 KT
    go_wp2_with fail
    have hs := st1 w82 bT 4 (.bool us)
    replace KS := oB hs KS (by omega)
    replace KI := oB hs KI (by omega)
    replace KA := oB hs KA (by omega)
    replace KE := oB hs KE (by omega)
    replace KC := oB hs KC (by omega)
    replace KN := oB hs KN (by omega)
    replace KM := oB hs KM (by omega)
    replace KT := Lib.hid (blk_set KT.out (j := 4) (by simp) (.bool us))
    replace HB := oH hs HB (by omega)
    clear hs
    clear yA_0 yA_1 yA_2 yA_3 yA_4 yA_5 yA_z yA_f0 yA_f1 yA_f2 yA_f3 yA_f4 yA_f5 yE_0 yE_1 yE_2 yE_3 yE_4 yE_5 yE_z yE_f0 yE_f1 yE_f2 yE_f3 yE_f4 yE_f5 yN_0 yN_1 yN_2 yN_3 yN_4 yN_5 yN_z yT_0 yT_1 yT_2 yT_3 yT_4 yT_5 yT_z yT_f0 yT_f1 yT_f2 yT_f3 yT_f4 yT_f5
    generalize w82.setCell ⟨bT, 4, none⟩ (.bool us) = w83 at *
    simp only [List.set] at KT
    obtain ⟨yA_0, yA_1, yA_2, yA_3, yA_4, yA_5, yA_z, yA_f0, yA_f1, yA_f2, yA_f3, yA_f4, yA_f5⟩ := blf6 KA
    obtain ⟨yE_0, yE_1, yE_2, yE_3, yE_4, yE_5, yE_z, yE_f0, yE_f1, yE_f2, yE_f3, yE_f4, yE_f5⟩ := blf6 KE
    obtain ⟨yN_0, yN_1, yN_2, yN_3, yN_4, yN_5, yN_z⟩ := blk6 KN
    obtain ⟨yT_0, yT_1, yT_2, yT_3, yT_4, yT_5, yT_z⟩ := blk6 KT
    go_region
    have hs := st6 w83 (w.heap.size + 1 + 1) 0 (.int .i64 (cx')) 1 (.int .i64 (cy')) 2 (.int .i64 (x')) 3 (.int .i64 (y')) 4 (.int .i64 tick) 5 (.int .i64 m1)
    replace KS := oB hs KS (by omega)
    replace KI := oB hs KI (by omega)
    replace KA := Lib.hid (blk_set (blk_set (blk_set (blk_set (blk_set (blk_set KA.out (j := 0) (by simp) (.int .i64 (cx'))) (j := 1) (by simp) (.int .i64 (cy'))) (j := 2) (by simp) (.int .i64 (x'))) (j := 3) (by simp) (.int .i64 (y'))) (j := 4) (by simp) (.int .i64 tick)) (j := 5) (by simp) (.int .i64 m1))
    replace KE := oB hs KE (by omega)
    replace KC := oB hs KC (by omega)
    replace KN := oB hs KN (by omega)
    replace KM := oB hs KM (by omega)
    replace KT := oB hs KT (by omega)
    replace HB := oH hs HB (by omega)
    clear hs
    clear yA_0 yA_1 yA_2 yA_3 yA_4 yA_5 yA_z yA_f0 yA_f1 yA_f2 yA_f3 yA_f4 yA_f5 yE_0 yE_1 yE_2 yE_3 yE_4 yE_5 yE_z yE_f0 yE_f1 yE_f2 yE_f3 yE_f4 yE_f5 yN_0 yN_1 yN_2 yN_3 yN_4 yN_5 yN_z yT_0 yT_1 yT_2 yT_3 yT_4 yT_5 yT_z
    simp only [List.set] at KA
    have hs := st6 ((((((w83.setCell ⟨(w.heap.size + 1 + 1), 0, none⟩ (.int .i64 (cx'))).setCell ⟨(w.heap.size + 1 + 1), 1, none⟩ (.int .i64 (cy'))).setCell ⟨(w.heap.size + 1 + 1), 2, none⟩ (.int .i64 (x'))).setCell ⟨(w.heap.size + 1 + 1), 3, none⟩ (.int .i64 (y'))).setCell ⟨(w.heap.size + 1 + 1), 4, none⟩ (.int .i64 tick)).setCell ⟨(w.heap.size + 1 + 1), 5, none⟩ (.int .i64 m1)) (w.heap.size + 1 + 1 + 1) 0 (.int .i64 (cx')) 1 (.int .i64 (cy')) 2 (.int .i64 (x')) 3 (.int .i64 (y')) 4 (.bool us) 5 (.int .i64 0)
    replace KS := oB hs KS (by omega)
    replace KI := oB hs KI (by omega)
    replace KA := oB hs KA (by omega)
    replace KE := Lib.hid (blk_set (blk_set (blk_set (blk_set (blk_set (blk_set KE.out (j := 0) (by simp) (.int .i64 (cx'))) (j := 1) (by simp) (.int .i64 (cy'))) (j := 2) (by simp) (.int .i64 (x'))) (j := 3) (by simp) (.int .i64 (y'))) (j := 4) (by simp) (.bool us)) (j := 5) (by simp) (.int .i64 0))
    replace KC := oB hs KC (by omega)
    replace KN := oB hs KN (by omega)
    replace KM := oB hs KM (by omega)
    replace KT := oB hs KT (by omega)
    replace HB := oH hs HB (by omega)
    clear hs
    simp only [List.set] at KE
    replace KS := Lib.hid (blk_drew1 KS.out)
    replace KI := Lib.hid (blk_drew1 KI.out)
    replace KA := Lib.hid (blk_drew1 KA.out)
    replace KE := Lib.hid (blk_drew1 KE.out)
    replace KC := Lib.hid (blk_drew1 KC.out)
    replace KN := Lib.hid (blk_drew1 KN.out)
    replace KM := Lib.hid (blk_drew1 KM.out)
    replace KT := Lib.hid (blk_drew1 KT.out)
    replace HB := Lib.hid (below_drew1 HB.out)
    generalize (((((((((((((w83.setCell ⟨(w.heap.size + 1 + 1), 0, none⟩ (.int .i64 (cx'))).setCell ⟨(w.heap.size + 1 + 1), 1, none⟩ (.int .i64 (cy'))).setCell ⟨(w.heap.size + 1 + 1), 2, none⟩ (.int .i64 (x'))).setCell ⟨(w.heap.size + 1 + 1), 3, none⟩ (.int .i64 (y'))).setCell ⟨(w.heap.size + 1 + 1), 4, none⟩ (.int .i64 tick)).setCell ⟨(w.heap.size + 1 + 1), 5, none⟩ (.int .i64 m1)).setCell ⟨(w.heap.size + 1 + 1 + 1), 0, none⟩ (.int .i64 (cx'))).setCell ⟨(w.heap.size + 1 + 1 + 1), 1, none⟩ (.int .i64 (cy'))).setCell ⟨(w.heap.size + 1 + 1 + 1), 2, none⟩ (.int .i64 (x'))).setCell ⟨(w.heap.size + 1 + 1 + 1), 3, none⟩ (.int .i64 (y'))).setCell ⟨(w.heap.size + 1 + 1 + 1), 4, none⟩ (.bool us)).setCell ⟨(w.heap.size + 1 + 1 + 1), 5, none⟩ (.int .i64 0))).drew = w86 at *
    obtain ⟨yA_0, yA_1, yA_2, yA_3, yA_4, yA_5, yA_z⟩ := blk6 KA
    obtain ⟨yE_0, yE_1, yE_2, yE_3, yE_4, yE_5, yE_z⟩ := blk6 KE
    go_wp2
    refine bodyPost_ret (v := .tuple #[.agg #[.int .i64 (cx'), .int .i64 (cy'), .int .i64 (x'), .int .i64 (y'), .int .i64 tick, .int .i64 m1], .agg #[.int .i64 (cx'), .int .i64 (cy'), .int .i64 (x'), .int .i64 (y'), .bool us, .int .i64 0], .int .i64 0]) (by simp [results, Tryz.results15, go_sem, yA_0, yA_1, yA_2, yA_3, yA_4, yA_5, yE_0, yE_1, yE_2, yE_3, yE_4, yE_5]) rfl ⟨by rw [EV.out, EU.out], HB.out⟩
  | true =>
    have EV := Lib.hid (EV0.out.trans (if_pos rfl))
    have US := Lib.hid (US0.out dx dy d1 d2 k)
    obtain ⟨us, hus⟩ : ∃ z, useB d1 d2 rq = z := ⟨_, rfl⟩
    rw [hus] at US
    have EU := Lib.hid hus
    clear hus EV0 US0
    obtain ⟨yN_0, yN_1, yN_2, yN_3, yN_4, yN_5, yN_z, yN_f0, yN_f1, yN_f2, yN_f3, yN_f4, yN_f5⟩ := blf6 KN
    obtain ⟨yM_0, yM_1, yM_2, yM_3, yM_z⟩ := blk4 KM
    go_upto_region 18 with (fail)
    have hs := st5 w80 bN 0 (.int .i64 dx) 1 (.int .i64 dy) 2 (.int .i64 d1) 3 (.int .i64 d2) 5 (.int .i64 0)
    replace KS := oB hs KS (by omega)
    replace KI := oB hs KI (by omega)
    replace KA := oB hs KA (by omega)
    replace KE := oB hs KE (by omega)
    replace KC := oB hs KC (by omega)
    replace KN := Lib.hid (blk_set (blk_set (blk_set (blk_set (blk_set KN.out (j := 0) (by simp) (.int .i64 dx)) (j := 1) (by simp) (.int .i64 dy)) (j := 2) (by simp) (.int .i64 d1)) (j := 3) (by simp) (.int .i64 d2)) (j := 5) (by simp) (.int .i64 0))
    replace KM := oB hs KM (by omega)
    replace HB := oH hs HB (by omega)
    clear hs
    clear yN_0 yN_1 yN_2 yN_3 yN_4 yN_5 yN_z yN_f0 yN_f1 yN_f2 yN_f3 yN_f4 yN_f5 yM_0 yM_1 yM_2 yM_3 yM_z
    generalize ((((w80.setCell ⟨bN, 0, none⟩ (.int .i64 dx)).setCell ⟨bN, 1, none⟩ (.int .i64 dy)).setCell ⟨bN, 2, none⟩ (.int .i64 d1)).setCell ⟨bN, 3, none⟩ (.int .i64 d2)).setCell ⟨bN, 5, none⟩ (.int .i64 0) = w81 at *
    simp only [List.set] at KN
    obtain ⟨yI_0, yI_1, yI_2, yI_3, yI_4, yI_5, yI_z⟩ := blk6 KI
    obtain ⟨yN_0, yN_1, yN_2, yN_3, yN_4, yN_5, yN_z⟩ := blk6 KN
    go_wp2_with fail
    obtain ⟨KT, hb82⟩ := alB w81 #[.int .i64 dx, .int .i64 dy, .int .i64 d1, .int .i64 d2, .bool false, .int .i64 k] 48
    have hnT := HB.out.size
    have nzT_S := KS.out.lt
    have nzT_I := KI.out.lt
    have nzT_A := KA.out.lt
    have nzT_E := KE.out.lt
    have nzT_C := KC.out.lt
    have nzT_N := KN.out.lt
    have nzT_M := KM.out.lt
    replace HB := hT HB hb82
    replace KS := hK KS hb82
    replace KI := hK KI hb82
    replace KA := hK KA hb82
    replace KE := hK KE hb82
    replace KC := hK KC hb82
    replace KN := hK KN hb82
    replace KM := hK KM hb82
    clear yI_0 yI_1 yI_2 yI_3 yI_4 yI_5 yI_z yN_0 yN_1 yN_2 yN_3 yN_4 yN_5 yN_z
    clear hb82
    generalize w81.alloc (.cells #[.int .i64 dx, .int .i64 dy, .int .i64 d1, .int .i64 d2, .bool false, .int .i64 k] 48) = w82 at *
    generalize w81.heap.size = bT at *
    have neT_S : bT ≠ w.heap.size := by omega
    have neT_I : bT ≠ (w.heap.size + 1) := by omega
    have neT_A : bT ≠ (w.heap.size + 1 + 1) := by omega
    have neT_E : bT ≠ (w.heap.size + 1 + 1 + 1) := by omega
    have neT_C : bT ≠ (w.heap.size + 1 + 1 + 1 + 1) := by omega
    have neT_N : bT ≠ bN := by omega
    have neT_M : bT ≠ bM := by omega
    clear nzT_S nzT_I nzT_A nzT_E nzT_C nzT_N nzT_M
    refine (US.out _).mono ?_
    rintro e83 w83 ⟨rfl, hb83⟩
    replace HB := hT HB hb83
    replace KS := hK KS hb83
    replace KI := hK KI hb83
    replace KA := hK KA hb83
    replace KE := hK KE hb83
    replace KC := hK KC hb83
    replace KN := hK KN hb83
    replace KM := hK KM hb83
    replace KT := hK KT hb83
    clear hb83
    obtain ⟨yA_0, yA_1, yA_2, yA_3, yA_4, yA_5, yA_z, yA_f0, yA_f1, yA_f2, yA_f3, yA_f4, yA_f5⟩ := blf6 KA
    obtain ⟨yE_0, yE_1, yE_2, yE_3, yE_4, yE_5, yE_z, yE_f0, yE_f1, yE_f2, yE_f3, yE_f4, yE_f5⟩ := blf6 KE
    obtain ⟨yN_0, yN_1, yN_2, yN_3, yN_4, yN_5, yN_z⟩ := blk6 KN
    obtain ⟨yT_0, yT_1, yT_2, yT_3, yT_4, yT_5, yT_z, yT_f0, yT_f1, yT_f2, yT_f3, yT_f4, yT_f5⟩ := blf6 KT
    go_wp2_with fail
    have hs := st1 w83 bT 4 (.bool us)
    replace KS := oB hs KS (by omega)
    replace KI := oB hs KI (by omega)
    replace KA := oB hs KA (by omega)
    replace KE := oB hs KE (by omega)
    replace KC := oB hs KC (by omega)
    replace KN := oB hs KN (by omega)
    replace KM := oB hs KM (by omega)
    replace KT := Lib.hid (blk_set KT.out (j := 4) (by simp) (.bool us))
    replace HB := oH hs HB (by omega)
    clear hs
    clear yA_0 yA_1 yA_2 yA_3 yA_4 yA_5 yA_z yA_f0 yA_f1 yA_f2 yA_f3 yA_f4 yA_f5 yE_0 yE_1 yE_2 yE_3 yE_4 yE_5 yE_z yE_f0 yE_f1 yE_f2 yE_f3 yE_f4 yE_f5 yN_0 yN_1 yN_2 yN_3 yN_4 yN_5 yN_z yT_0 yT_1 yT_2 yT_3 yT_4 yT_5 yT_z yT_f0 yT_f1 yT_f2 yT_f3 yT_f4 yT_f5
    generalize w83.setCell ⟨bT, 4, none⟩ (.bool us) = w84 at *
    simp only [List.set] at KT
    obtain ⟨yA_0, yA_1, yA_2, yA_3, yA_4, yA_5, yA_z, yA_f0, yA_f1, yA_f2, yA_f3, yA_f4, yA_f5⟩ := blf6 KA
    obtain ⟨yE_0, yE_1, yE_2, yE_3, yE_4, yE_5, yE_z, yE_f0, yE_f1, yE_f2, yE_f3, yE_f4, yE_f5⟩ := blf6 KE
    obtain ⟨yN_0, yN_1, yN_2, yN_3, yN_4, yN_5, yN_z⟩ := blk6 KN
    obtain ⟨yT_0, yT_1, yT_2, yT_3, yT_4, yT_5, yT_z⟩ := blk6 KT
    go_region
    have hs := st6 w84 (w.heap.size + 1 + 1) 0 (.int .i64 dx) 1 (.int .i64 dy) 2 (.int .i64 d1) 3 (.int .i64 d2) 4 (.int .i64 tick) 5 (.int .i64 0)
    replace KS := oB hs KS (by omega)
    replace KI := oB hs KI (by omega)
    replace KA := Lib.hid (blk_set (blk_set (blk_set (blk_set (blk_set (blk_set KA.out (j := 0) (by simp) (.int .i64 dx)) (j := 1) (by simp) (.int .i64 dy)) (j := 2) (by simp) (.int .i64 d1)) (j := 3) (by simp) (.int .i64 d2)) (j := 4) (by simp) (.int .i64 tick)) (j := 5) (by simp) (.int .i64 0))
    replace KE := oB hs KE (by omega)
    replace KC := oB hs KC (by omega)
    replace KN := oB hs KN (by omega)
    replace KM := oB hs KM (by omega)
    replace KT := oB hs KT (by omega)
    replace HB := oH hs HB (by omega)
    clear hs
    clear yA_0 yA_1 yA_2 yA_3 yA_4 yA_5 yA_z yA_f0 yA_f1 yA_f2 yA_f3 yA_f4 yA_f5 yE_0 yE_1 yE_2 yE_3 yE_4 yE_5 yE_z yE_f0 yE_f1 yE_f2 yE_f3 yE_f4 yE_f5 yN_0 yN_1 yN_2 yN_3 yN_4 yN_5 yN_z yT_0 yT_1 yT_2 yT_3 yT_4 yT_5 yT_z
    simp only [List.set] at KA
    have hs := st6 ((((((w84.setCell ⟨(w.heap.size + 1 + 1), 0, none⟩ (.int .i64 dx)).setCell ⟨(w.heap.size + 1 + 1), 1, none⟩ (.int .i64 dy)).setCell ⟨(w.heap.size + 1 + 1), 2, none⟩ (.int .i64 d1)).setCell ⟨(w.heap.size + 1 + 1), 3, none⟩ (.int .i64 d2)).setCell ⟨(w.heap.size + 1 + 1), 4, none⟩ (.int .i64 tick)).setCell ⟨(w.heap.size + 1 + 1), 5, none⟩ (.int .i64 0)) (w.heap.size + 1 + 1 + 1) 0 (.int .i64 dx) 1 (.int .i64 dy) 2 (.int .i64 d1) 3 (.int .i64 d2) 4 (.bool us) 5 (.int .i64 k)
    replace KS := oB hs KS (by omega)
    replace KI := oB hs KI (by omega)
    replace KA := oB hs KA (by omega)
    replace KE := Lib.hid (blk_set (blk_set (blk_set (blk_set (blk_set (blk_set KE.out (j := 0) (by simp) (.int .i64 dx)) (j := 1) (by simp) (.int .i64 dy)) (j := 2) (by simp) (.int .i64 d1)) (j := 3) (by simp) (.int .i64 d2)) (j := 4) (by simp) (.bool us)) (j := 5) (by simp) (.int .i64 k))
    replace KC := oB hs KC (by omega)
    replace KN := oB hs KN (by omega)
    replace KM := oB hs KM (by omega)
    replace KT := oB hs KT (by omega)
    replace HB := oH hs HB (by omega)
    clear hs
    simp only [List.set] at KE
    replace KS := Lib.hid (blk_drew1 KS.out)
    replace KI := Lib.hid (blk_drew1 KI.out)
    replace KA := Lib.hid (blk_drew1 KA.out)
    replace KE := Lib.hid (blk_drew1 KE.out)
    replace KC := Lib.hid (blk_drew1 KC.out)
    replace KN := Lib.hid (blk_drew1 KN.out)
    replace KM := Lib.hid (blk_drew1 KM.out)
    replace KT := Lib.hid (blk_drew1 KT.out)
    replace HB := Lib.hid (below_drew1 HB.out)
    generalize (((((((((((((w84.setCell ⟨(w.heap.size + 1 + 1), 0, none⟩ (.int .i64 dx)).setCell ⟨(w.heap.size + 1 + 1), 1, none⟩ (.int .i64 dy)).setCell ⟨(w.heap.size + 1 + 1), 2, none⟩ (.int .i64 d1)).setCell ⟨(w.heap.size + 1 + 1), 3, none⟩ (.int .i64 d2)).setCell ⟨(w.heap.size + 1 + 1), 4, none⟩ (.int .i64 tick)).setCell ⟨(w.heap.size + 1 + 1), 5, none⟩ (.int .i64 0)).setCell ⟨(w.heap.size + 1 + 1 + 1), 0, none⟩ (.int .i64 dx)).setCell ⟨(w.heap.size + 1 + 1 + 1), 1, none⟩ (.int .i64 dy)).setCell ⟨(w.heap.size + 1 + 1 + 1), 2, none⟩ (.int .i64 d1)).setCell ⟨(w.heap.size + 1 + 1 + 1), 3, none⟩ (.int .i64 d2)).setCell ⟨(w.heap.size + 1 + 1 + 1), 4, none⟩ (.bool us)).setCell ⟨(w.heap.size + 1 + 1 + 1), 5, none⟩ (.int .i64 k))).drew = w87 at *
    obtain ⟨yA_0, yA_1, yA_2, yA_3, yA_4, yA_5, yA_z⟩ := blk6 KA
    obtain ⟨yE_0, yE_1, yE_2, yE_3, yE_4, yE_5, yE_z⟩ := blk6 KE
    go_wp2
    refine bodyPost_ret (v := .tuple #[.agg #[.int .i64 dx, .int .i64 dy, .int .i64 d1, .int .i64 d2, .int .i64 tick, .int .i64 0], .agg #[.int .i64 dx, .int .i64 dy, .int .i64 d1, .int .i64 d2, .bool us, .int .i64 k], .int .i64 0]) (by simp [results, Tryz.results15, go_sem, yA_0, yA_1, yA_2, yA_3, yA_4, yA_5, yE_0, yE_1, yE_2, yE_3, yE_4, yE_5]) rfl ⟨by rw [EV.out, EU.out], HB.out⟩
end Go.Proofs.YtidelghgjibndaaGreat
namespace Go.Proofs.YtidelghgjibndaaGreat
set_option linter.unusedVariables false
open Go.RowKit
def rdyL : List Ms := [⟨1, 256, 0, 0, 5120, 1⟩, ⟨1, 0, 256, 0, 5120, 1⟩, ⟨2, 256, 0, 2560, 5120, 1⟩, ⟨2, 0, 256, 0, 5120, 1⟩]
theorem src_rdy : srcL rdyL = [1, 2] := by
  refine asc_uniq _ _ (srcL_lt _) (by decide) fun x => ?_
  rw [mem_srcL]
  unfold rdyL
  simp only [List.mem_cons, List.not_mem_nil, or_false]
  constructor
  · rintro ⟨m, (rfl | rfl | rfl | rfl), rfl⟩ <;> simp
  · rintro (rfl | rfl)
    · exact ⟨_, .inl rfl, rfl⟩
    · exact ⟨_, .inr (.inr (.inl rfl)), rfl⟩
theorem lev_rdy : levF rdyL = (⟨5, 0, 25, 20⟩, 0) := by
  unfold levF
  rw [src_rdy]
  rfl
theorem rdy_one : rowsN ⟨1, 1, 0, 0, 0, 20, 1, 0⟩ 0 0 0 0 = ([⟨1, 256, 0, 0, 5120, 1⟩, ⟨1, 0, 256, 0, 5120, 1⟩], 0) := by kernel_rfl
theorem rdy_two : rowsN ⟨2, 1, 10, 0, 0, 20, 1, 0⟩ 0 0 0 0 = ([⟨2, 256, 0, 2560, 5120, 1⟩, ⟨2, 0, 256, 0, 5120, 1⟩], 0) := by kernel_rfl
def RdR (W : World) (v1 v2 : Value) (wr : World) : Prop := ∃ k : Nat, v2 = .int .i64 k ∧ k ≤ 2 ∧ Hid (Below W.heap.size W wr) ∧ Hid (OM W.heap.size wr v1 (rdyL.take (2 * k)))
set_option maxHeartbeats 40000000 in
set_option maxRecDepth 100000 in
theorem ready_any (w : World) : Calls Tryz.prog 8 #[] w fun e w' => e = .returned (.bool true) ∧ Below w.heap.size w w' := by
  have HB0 := Lib.hid (Below.refl w.heap.size w)
  go_enter Tryz.func8, Tryz.ntmps8
  go_wp2
  go_loopw [1, 2] (RdR w) (fun _ i _ => 2 - (intOf i).toNat)
  case atStart => exact ⟨0, rfl, by omega, Lib.hid ((Below.refl _ _).alloc (Nat.le_refl _) _), Lib.hid (World.ownsRow_lit w #[] 0 (Nat.le_refl _) (by decide) rfl)⟩
  case round =>
    obtain ⟨k, rfl, hk, HB, HO⟩ := hrel
    have hk3 : k = 0 ∨ k = 1 ∨ k = 2 := by omega
    rcases hk3 with rfl | rfl | rfl
    · have RW0 := fun w => rowsN_any ⟨1, 1, 0, 0, 0, 20, 1, 0⟩ 0 0 0 0 w (by decide) (by decide)
      rw [rdy_one] at RW0
      have RW := Lib.hid RW0
      clear RW0
      have HBW := HB
      go_wp2_with fail
      refine (RW.out _).mono ?_
      rintro e21 w21 ⟨ur, rfl, hrn, hb21⟩
      replace HB := hT HB hb21
      replace HO := Lib.hid (HO.out.below hb21)
      clear hb21
      obtain ⟨kk, hur, hk2⟩ : ∃ kk : Nat, ur = .slice (some ⟨kk, 0, none⟩) 2 2 ∧ w21.heap[kk]? = some (.cells (msC [⟨1, 256, 0, 0, 5120, 1⟩, ⟨1, 0, 256, 0, 5120, 1⟩]).toArray 59) := by
        rcases hrn with ⟨e, _⟩ | ⟨kk, _, e, _, h2⟩
        · cases e
        · exact ⟨kk, e, h2⟩
      subst hur
      clear hrn RW
      have HK2 := Lib.hid hk2
      clear hk2
      have OL := Lib.hid (World.ownsRow.lt HO.out)
      go_wp2_with (at_builtin; refine Halt.mk ?_)
      unfold Halt
      refine wpList_oml rfl (.tmp 25) (.tmp 26) rfl w.heap.size u1 (rdyL.take 0) rfl w21 HO.out kk [⟨1, 256, 0, 0, 5120, 1⟩, ⟨1, 0, 256, 0, 5120, 1⟩] rfl HK2.out (by decide) HB.out.size ?_
      intro u2 w5 ho5 hg5 hat5
      clear hat5 HK2
      have HB5 := Lib.hid (below_grown HB.out hg5 HB.out.size fun k hk => (OL.out k hk).1)
      clear hg5
      have HO5 := Lib.hid (show OM w.heap.size w5 u2 (rdyL.take 2) from ho5)
      obtain ⟨g5, cap5, hu2⟩ := Go.Joins.ownsRow_form ho5 (by decide)
      clear ho5
      obtain ⟨N5, hN5⟩ : ∃ N, (rdyL.take 0 ++ ([⟨1, 256, 0, 0, 5120, 1⟩, ⟨1, 0, 256, 0, 5120, 1⟩] : List Ms)).length = N := ⟨_, rfl⟩
      rw [hN5] at hu2
      clear hN5
      subst hu2
      go_wp2
      exact ⟨⟨1, by go_num, by omega, HB5, HO5⟩, by simp [intOf]⟩
    · have RW0 := fun w => rowsN_any ⟨2, 1, 10, 0, 0, 20, 1, 0⟩ 0 0 0 0 w (by decide) (by decide)
      rw [rdy_two] at RW0
      have RW := Lib.hid RW0
      clear RW0
      have HBW := HB
      go_wp2_with fail
      refine (RW.out _).mono ?_
      rintro e21 w21 ⟨ur, rfl, hrn, hb21⟩
      replace HB := hT HB hb21
      replace HO := Lib.hid (HO.out.below hb21)
      clear hb21
      obtain ⟨kk, hur, hk2⟩ : ∃ kk : Nat, ur = .slice (some ⟨kk, 0, none⟩) 2 2 ∧ w21.heap[kk]? = some (.cells (msC [⟨2, 256, 0, 2560, 5120, 1⟩, ⟨2, 0, 256, 0, 5120, 1⟩]).toArray 59) := by
        rcases hrn with ⟨e, _⟩ | ⟨kk, _, e, _, h2⟩
        · cases e
        · exact ⟨kk, e, h2⟩
      subst hur
      clear hrn RW
      have HK2 := Lib.hid hk2
      clear hk2
      have OL := Lib.hid (World.ownsRow.lt HO.out)
      go_wp2_with (at_builtin; refine Halt.mk ?_)
      unfold Halt
      refine wpList_oml rfl (.tmp 25) (.tmp 26) rfl w.heap.size u1 (rdyL.take 2) rfl w21 HO.out kk [⟨2, 256, 0, 2560, 5120, 1⟩, ⟨2, 0, 256, 0, 5120, 1⟩] rfl HK2.out (by decide) HB.out.size ?_
      intro u2 w5 ho5 hg5 hat5
      clear hat5 HK2
      have HB5 := Lib.hid (below_grown HB.out hg5 HB.out.size fun k hk => (OL.out k hk).1)
      clear hg5
      have HO5 := Lib.hid (show OM w.heap.size w5 u2 (rdyL.take 4) from ho5)
      obtain ⟨g5, cap5, hu2⟩ := Go.Joins.ownsRow_form ho5 (by decide)
      clear ho5
      obtain ⟨N5, hN5⟩ : ∃ N, (rdyL.take 2 ++ ([⟨2, 256, 0, 2560, 5120, 1⟩, ⟨2, 0, 256, 0, 5120, 1⟩] : List Ms)).length = N := ⟨_, rfl⟩
      rw [hN5] at hu2
      clear hN5
      subst hu2
      go_wp2
      exact ⟨⟨2, by go_num, by omega, HB5, HO5⟩, by simp [intOf]⟩
    · have LV := Lib.hid fun w h => lev_any rdyL u1 w h
      rw [lev_rdy] at LV
      unfold boxV at LV
      simp only at LV
      have HO2 := Lib.hid (show OM w.heap.size wr u1 rdyL from HO.out)
      go_wp2_with fail
      refine (LV.out _ HO2.out.lst).mono ?_
      rintro e41 w41 ⟨rfl, hb41⟩
      replace HB := hT HB hb41
      clear hb41
      go_wp2
      go_ret
      exact ⟨rfl, HB.out.alloc HB.out.size _⟩
end Go.Proofs.YtidelghgjibndaaGreat
namespace Go.Proofs.YtidelghgjibndaaGreat
set_option linter.unusedVariables false
open Go.RowKit
def nsz (n : Int) : Int := if n < 0 then wrap64 (-n) else n
theorem nsz_any (n : Int) (w : World) : Calls Tryz.prog 16 #[.int .i64 n] w fun e w' => e = .returned (.int .i64 (nsz n)) ∧ w = w' := by
  have E0 : nsz n = if n < 0 then wrap64 (-n) else n := rfl
  generalize nsz n = q at *
  by_cases h : n < 0
  · have g : decide (n < 0) = true := by simpa using h
    have E := Lib.hid (E0.trans (if_pos h))
    clear E0 h
    go_enter Tryz.func16, Tryz.ntmps16
    go_wp2
    go_ret
    exact ⟨ret_int E.out.symm, rfl⟩
  · have g : decide (n < 0) = false := by simpa using h
    have E := Lib.hid (E0.trans (if_neg h))
    clear E0 h
    go_enter Tryz.func16, Tryz.ntmps16
    go_wp2
    go_ret
    exact ⟨ret_int E.out.symm, rfl⟩
theorem nsz_small {n : Int} (h0 : -9223372036854775807 ≤ n) (h1 : n ≤ 9223372036854775807) : nsz n = if n < 0 then -n else n := by
  unfold nsz
  split
  · unfold wrap64; omega
  · rfl
theorem nsz_le {n d : Int} (h0 : -9223372036854775807 ≤ n) (h1 : n ≤ 9223372036854775807) : nsz n ≤ d ↔ (n ≤ d ∧ -n ≤ d) := by
  rw [nsz_small h0 h1]
  split <;> omega
theorem nsz_below (n : Int) (w : World) : Calls Tryz.prog 16 #[.int .i64 n] w fun e w' => e = .returned (.int .i64 (nsz n)) ∧ Below w.heap.size w w' := (nsz_any n w).mono fun e w' ⟨a, b⟩ => ⟨a, by rw [← b]; exact Below.refl _ _⟩
set_option maxHeartbeats 40000000 in
set_option maxRecDepth 100000 in
theorem nib_true (cx cy x y px py : Int) (w : World) (h : inB ⟨cx, cy, x, y⟩ px py) (hx : x ≤ 8000000) (hy : y ≤ 8000000) : Calls Tryz.prog 13 #[.agg #[.int .i64 cx, .int .i64 cy, .int .i64 x, .int .i64 y], .agg #[.int .i64 px, .int .i64 py]] w fun e w' => e = .returned (.bool true) ∧ Below w.heap.size w w' := by
  unfold inB at h
  simp only at h
  obtain ⟨⟨h0, h1⟩, h2, h3⟩ := h
  have s0 : IntKind.i64.wrap (px - cx) = px - cx := IntWalk.i64_in _ (by omega)
  have s1 : IntKind.i64.wrap (py - cy) = py - cy := IntWalk.i64_in _ (by omega)
  have g0 : decide (nsz (px - cx) ≤ x) = true := decide_eq_true ((nsz_le (by omega) (by omega)).2 ⟨by omega, by omega⟩)
  have g1 : decide (nsz (py - cy) ≤ y) = true := decide_eq_true ((nsz_le (by omega) (by omega)).2 ⟨by omega, by omega⟩)
  have NX := Lib.hid fun w => nsz_below (px - cx) w
  have NY := Lib.hid fun w => nsz_below (py - cy) w
  clear h0 h1 h2 h3 hx hy
  have KB := Lib.hid ((Blk.of (vs := #[.int .i64 cx, .int .i64 cy, .int .i64 x, .int .i64 y]) (t := 26) (w := w) (b := w.heap.size) (by simp)).alloc (.cells #[.int .i64 px, .int .i64 py] 24))
  have KP := Lib.hid (Blk.of (vs := #[.int .i64 px, .int .i64 py]) (t := 24) (w := (w.alloc (.cells #[.int .i64 cx, .int .i64 cy, .int .i64 x, .int .i64 y] 26))) (b := w.heap.size + 1) (by simp))
  have HB := Lib.hid (((Below.refl w.heap.size w).alloc (by simp; try omega) (.cells #[.int .i64 cx, .int .i64 cy, .int .i64 x, .int .i64 y] 26)).alloc (by simp; try omega) (.cells #[.int .i64 px, .int .i64 py] 24))
  go_enter Tryz.func13, Tryz.ntmps13
  go_wp2_with fail
  generalize (w.alloc (.cells #[.int .i64 cx, .int .i64 cy, .int .i64 x, .int .i64 y] 26)).alloc (.cells #[.int .i64 px, .int .i64 py] 24) = w0 at *
  have gP_0 := fun d os => cell_regrown (KP.out.c 0 _ rfl) d os
  have gP_1 := fun d os => cell_regrown (KP.out.c 1 _ rfl) d os
  have gB_0 := fun d os => cell_regrown (KB.out.c 0 _ rfl) d os
  have gB_1 := fun d os => cell_regrown (KB.out.c 1 _ rfl) d os
  have gB_2 := fun d os => cell_regrown (KB.out.c 2 _ rfl) d os
  have gB_3 := fun d os => cell_regrown (KB.out.c 3 _ rfl) d os
  have rv0 := Lib.hid (fun d os => Calls.regrown_of (NX.out (Go.Sort.grow (redrawn w0 d) os)))
  have rv1 := Lib.hid (fun d os => Calls.regrown_of (NY.out (Go.Sort.grow (redrawn w0 d) os)))
  refine wp_region_quiet_below (by kernel_rfl) (by kernel_rfl) ?_
  repeat (quiet_step (first | with_reducible exact rv0.out _ _ | with_reducible exact rv1.out _ _))
  refine wpQuiet_nil ?_
  intro w1 hw1
  have hb1 : Below w0.heap.size w0 w1 := by
    obtain ⟨⟨dq, osq⟩, hw2⟩ := hw1
    rw [hw2]; exact below_regrown _ dq osq
  clear gP_0 gP_1 gB_0 gB_1 gB_2 gB_3 rv0 rv1 hw1
  replace HB := Lib.hid (HB.out.trans (hb1.mono HB.out.size))
  replace KB := Lib.hid (KB.out.below hb1)
  replace KP := Lib.hid (KP.out.below hb1)
  clear hb1
  go_wp2
  go_ret
  exact ⟨rfl, HB.out⟩
end Go.Proofs.YtidelghgjibndaaGreat
namespace Go.Proofs.YtidelghgjibndaaGreat
set_option linter.unusedVariables false
open Go.ChangeShapes Go.WideShapes Go.ChangeAt Go.RowKit Go.Joins

structure Cy where
  tk : Int
  rv : Value
  ve : Int
  vn : Int
  dr : Int
  rq : Int
  tx : Int
  ty : Int
  fa : Int
  L : List Rp
instance : Inhabited Cy := ⟨⟨0, .slice none 0 0, 0, 0, 0, 0, 0, 0, 0, []⟩⟩
def nthC (l : List Cy) (i : Nat) : Cy := l.getD i default
structure CyAt (c : Cy) (b o : Nat) (w : World) : Prop where
  lt : b < w.heap.size
  c0 : w.cell? ⟨b, o, none⟩ = some (.int .i64 c.tk)
  c1 : w.cell? ⟨b, o + 1, none⟩ = some (c.rv)
  c2 : w.cell? ⟨b, o + 2, none⟩ = some (.int .i64 c.ve)
  c3 : w.cell? ⟨b, o + 3, none⟩ = some (.int .i64 c.vn)
  c4 : w.cell? ⟨b, o + 4, none⟩ = some (.int .i64 c.dr)
  c5 : w.cell? ⟨b, o + 5, none⟩ = some (.int .i64 c.rq)
  c6 : w.cell? ⟨b, o + 6, none⟩ = some (.int .i64 c.tx)
  c7 : w.cell? ⟨b, o + 7, none⟩ = some (.int .i64 c.ty)
  c8 : w.cell? ⟨b, o + 8, none⟩ = some (.int .i64 c.fa)
theorem CyAt.below {c : Cy} {b o : Nat} {w w' : World} (h : CyAt c b o w) (hb : Below w.heap.size w w') : CyAt c b o w' :=
  ⟨Nat.lt_of_lt_of_le h.lt hb.size, (hb.cell (p := ⟨b, o, none⟩) h.lt).trans h.c0, (hb.cell (p := ⟨b, o + 1, none⟩) h.lt).trans h.c1, (hb.cell (p := ⟨b, o + 2, none⟩) h.lt).trans h.c2, (hb.cell (p := ⟨b, o + 3, none⟩) h.lt).trans h.c3, (hb.cell (p := ⟨b, o + 4, none⟩) h.lt).trans h.c4, (hb.cell (p := ⟨b, o + 5, none⟩) h.lt).trans h.c5, (hb.cell (p := ⟨b, o + 6, none⟩) h.lt).trans h.c6, (hb.cell (p := ⟨b, o + 7, none⟩) h.lt).trans h.c7, (hb.cell (p := ⟨b, o + 8, none⟩) h.lt).trans h.c8⟩
structure CyE (c : Cy) (w : World) : Prop where
  rl : RlG c.L c.rv w
  kd : ∀ i, i < c.L.length → 0 ≤ (nthR c.L i).k ∧ (nthR c.L i).k ≤ 255
/-- a slice that reads as cycles -/
def CyG (l : List Cy) (v : Value) (w : World) : Prop := ∃ p cap, v = .slice p l.length cap ∧ (l.length ≤ cap ∧ cap ≤ 9223372036854775807) ∧ ∀ k, k < l.length → CyE (nthC l k) w ∧ ∃ b o, p = some ⟨b, o, none⟩ ∧ CyAt (nthC l k) b (o + k * 9) w
theorem CyG.below {l : List Cy} {v : Value} {w w' : World} (h : CyG l v w) (hb : Below w.heap.size w w') : CyG l v w' := by
  obtain ⟨p, cap, e, hc, h⟩ := h
  exact ⟨p, cap, e, hc, fun k hk => by obtain ⟨a, b, o, e, r⟩ := h k hk; exact ⟨⟨a.rl.below hb, a.kd⟩, b, o, e, r.below hb⟩⟩
theorem cg_form {l : List Cy} {v : Value} {w : World} (h : CyG l v w) : ∃ p cap, v = .slice p l.length cap := by
  obtain ⟨p, cap, e, _⟩ := h
  exact ⟨p, cap, e⟩
theorem cg_at {l : List Cy} {p : Option Addr} {cap : Nat} {w : World} (h : CyG l (.slice p l.length cap) w) {k : Nat} (q : k < l.length) : ∃ b o, p = some ⟨b, o, none⟩ ∧ l.length ≤ cap ∧ cap ≤ 9223372036854775807 ∧ CyE (nthC l k) w ∧ CyAt (nthC l k) b (o + k * 9) w := by
  obtain ⟨p', cap', e, hc, h⟩ := h
  injection e with e1 e2 e3
  subst e1 e3
  obtain ⟨a, b, o, e, r⟩ := h k q
  exact ⟨b, o, e, hc.1, hc.2, a, r⟩
theorem cells_of_cycle : Tryz.prog.cellsOf 64 = 9 := by kernel_rfl
section
variable {H : Type} {enc : TypeId × Value → H} {W : World} {b0 : Nat}

set_option maxRecDepth 100000 in
theorem trod_cycle {n : Nat} {c0 c1 c2 c3 c4 c5 c6 c7 c8 : Value} {y : DataW H × List MemPlace} (h : DataW.trod enc Tryz.prog W 0 (fun _ => true) true n 64 [c0, c1, c2, c3, c4, c5, c6, c7, c8] = some y) :
    ∃ x : Cy, CyE x W ∧ c0 = .int .i64 x.tk ∧ c1 = x.rv ∧ c2 = .int .i64 x.ve ∧ c3 = .int .i64 x.vn ∧ c4 = .int .i64 x.dr ∧ c5 = .int .i64 x.rq ∧ c6 = .int .i64 x.tx ∧ c7 = .int .i64 x.ty ∧ c8 = .int .i64 x.fa := by
  obtain ⟨xs, m, _, hx, _, hlen, hg⟩ := DataW.trod_struct Tryz.underlying64 h
  match xs, hlen with
  | [y0, y1, y2], _ =>
    have h0 : DataW.trod enc Tryz.prog W 0 (fun _ => true) true m 45 (([c0, c1, c2, c3, c4, c5, c6, c7, c8].drop 0).take (Tryz.prog.cellsOf 45)) = some y0 := hg 0 _ rfl
    rw [cells_of_navin] at h0
    have g0 : DataW.trod enc Tryz.prog W 0 (fun _ => true) true m 45 [c0, c1, c2, c3, c4, c5] = some y0 := h0
    have h1 : DataW.trod enc Tryz.prog W 0 (fun _ => true) true m 24 (([c0, c1, c2, c3, c4, c5, c6, c7, c8].drop 6).take (Tryz.prog.cellsOf 24)) = some y1 := hg 1 _ rfl
    rw [cells_of_point] at h1
    have g1 : DataW.trod enc Tryz.prog W 0 (fun _ => true) true m 24 [c6, c7] = some y1 := h1
    have h2 : DataW.trod enc Tryz.prog W 0 (fun _ => true) true m 3 (([c0, c1, c2, c3, c4, c5, c6, c7, c8].drop 8).take (Tryz.prog.cellsOf 3)) = some y2 := hg 2 _ rfl
    rw [cells_of_int] at h2
    have g2 : DataW.trod enc Tryz.prog W 0 (fun _ => true) true m 3 [c8] = some y2 := h2
    obtain ⟨a0, a2, a3, a4, a5, l, rfl, rfl, rfl, rfl, rfl, hl, hk⟩ := trod_navinG g0
    obtain ⟨a6, a7, rfl, rfl, _, _, _⟩ := trod_point g1
    obtain ⟨a8, e8, _, _⟩ := DataW.trod_int Tryz.underlying3 g2
    obtain rfl : c8 = .int .i64 a8 := by simpa using e8
    exact ⟨⟨a0, c1, a2, a3, a4, a5, a6, a7, a8, l⟩, ⟨hl, hk⟩, rfl, rfl, rfl, rfl, rfl, rfl, rfl, rfl, rfl⟩
set_option maxRecDepth 100000 in
/-- a parameter that is a slice of cycles -/
theorem open_cycles {v : Value} {d : DataW H} {p : List MemPlace} (hv : Value.okWide Tryz.prog W .any b0 62 v) (h : DataW.Trod enc Tryz.prog W 0 (fun _ => true) true 62 v d p) :
    ∃ l : List Cy, CyG l v W := by
  obtain ⟨fuel, hf⟩ := h
  obtain ⟨ao, len', cap', rfl⟩ := okWide_slice Tryz.underlying62 hv
  rcases Go.Deep.open_slice Tryz.underlying62 hf with ⟨hc, _⟩ | ⟨a, len, cap, m, n, D, Pl, hc, _, hlc, hcm, hm, _, hi⟩
  · have hc' : [Value.slice ao len' cap'] = [Value.slice none 0 0] := hc
    have e := (List.cons.inj hc').1
    exact ⟨[], none, 0, e, ⟨Nat.le_refl _, by omega⟩, fun k hk => absurd hk (by simp)⟩
  · have hc0 : [Value.slice ao len' cap'] = [Value.slice (some a) len cap] := hc
    have hc' := (List.cons.inj hc0).1
    clear hc0
    cases hc'
    simp only [if_true] at hm
    subst hm
    have key : ∀ i, i < len' → ∃ x : Cy, CyE x W ∧ ∃ b o, a = ⟨b, o, none⟩ ∧ CyAt x b (o + i * 9) W := by
      intro i hil
      have hs : a.spot = none ∧ a.block < W.heap.size := by
        obtain ⟨cs, hcs, ht⟩ := hi 0 (by omega)
        rw [cells_of_cycle] at hcs
        obtain ⟨_, hl, hat⟩ := World.cells?_some hcs
        have h0 := hat 0 (by omega)
        rw [List.getElem?_eq_getElem (by omega)] at h0
        exact cell_addr h0
      obtain ⟨cs, hcs, ht⟩ := hi i (by omega)
      rw [cells_of_cycle] at hcs
      obtain ⟨_, hl, hat⟩ := World.cells?_some hcs
      match cs, hl with
      | [c0, c1, c2, c3, c4, c5, c6, c7, c8], _ =>
        obtain ⟨x, hx, rfl, e1, rfl, rfl, rfl, rfl, rfl, rfl, rfl⟩ := trod_cycle ht
        subst e1
        have hat2 : ∀ j (hj : j < 9), W.cell? ⟨a.block, a.off + i * 9 + j, none⟩ = _ := fun j hj => (congrArg W.cell? (add_none hs.1 (i * 9) j).symm).trans (hat j (by omega))
        refine ⟨x, hx, a.block, a.off, ?_, hs.2, hat2 0 (by omega), hat2 1 (by omega), hat2 2 (by omega), hat2 3 (by omega), hat2 4 (by omega), hat2 5 (by omega), hat2 6 (by omega), hat2 7 (by omega), hat2 8 (by omega)⟩
        obtain ⟨ab, af, asp⟩ := a
        simp only at hs
        rw [hs.1]
    obtain ⟨f, hf⟩ := Go.Deep.choose_lt key
    have hlen : ((List.range len').map f).length = len' := by simp
    have hn : ∀ i, i < len' → nthC ((List.range len').map f) i = f i := fun i hil => by
      unfold nthC
      rw [List.getD_eq_getElem?_getD, List.getElem?_map, List.getElem?_range hil]
      rfl
    refine ⟨(List.range len').map f, some a, m, by rw [hlen], ⟨by rw [hlen]; exact hlc, max_le2 hcm⟩, fun k hk => ?_⟩
    rw [hlen] at hk
    rw [hn k hk]
    obtain ⟨h1, b, o, h2, h3⟩ := hf k hk
    exact ⟨h1, b, o, by rw [h2], h3⟩
end
end Go.Proofs.YtidelghgjibndaaGreat
namespace Go.Proofs.YtidelghgjibndaaGreat
set_option linter.unusedVariables false
open Go.RowKit
theorem agN_any (r : Rp) (px py : Int) (w : World) (k0 : 0 ≤ r.k) (k1 : r.k ≤ 255) : Calls Tryz.prog 23 #[.agg #[.int .i64 r.s, .int .u8 r.k, .int .i64 r.x, .int .i64 r.y, .int .i64 r.v, .int .i64 r.b, .int .i64 r.wt, .int .i64 r.t], .agg #[.int .i64 px, .int .i64 py]] w fun e w' => e = .returned (.bool (agN r px py)) ∧ Below w.heap.size w w' := S41.agrees_any r.s r.k r.x r.y r.v r.b r.wt r.t px py w k0 k1
theorem inN_any (cx cy bx b2 px py : Int) (w : World) : Calls Tryz.prog 10 #[.agg #[.int .i64 cx, .int .i64 cy, .int .i64 bx, .int .i64 b2], .agg #[.int .i64 px, .int .i64 py]] w fun e w' => e = .returned (.bool (inN cx cy bx b2 px py)) ∧ Below w.heap.size w w' := S41.inside_any cx cy bx b2 px py w
end Go.Proofs.YtidelghgjibndaaGreat
