/-
  Walks and laws of the layers below, gathered from several texts.
-/
import Derived.Test.YtplgdlooglnpmaaGreatRows
import Derived.WalkKit
import Derived.ProofKit
import Derived.OpenShut
import Derived.Deep.Slices
import Derived.Lib.SmallJoins
import Derived.Lib.Hide
import Derived.Test.YtplgdlooglnpmaaGreatShelf
import Derived.WalkSpells
import Derived.IntWalk
import Derived.BigQuiet
import Derived.Deep.QuietTactic
import Derived.Deep.LoopGhost
import Derived.LoopTactic
import Derived.Deep.Cut
import Derived.Test.YtplgdlooglnpmaaGreatRefDivPlain
import Derived.Deep.RegionHeld3
import Derived.Laws.Bits64b
import Derived.Laws.Bits64
namespace Go.Proofs.YtplgdlooglnpmaaGreat
set_option linter.unusedVariables false
open Go.ChangeShapes Go.WideShapes Go.ChangeAt Go.RowKit Go.Joins

theorem own : ownKnob Tryz.prog.godebug = none := by kernel_rfl
theorem laidOut : laidOutB Tryz.prog = true := by kernel_rfl
section
variable {H : Type} {enc : TypeId × Value → H} {P : Program}
theorem post_of_below {f : Func} {s : ChangeSpec} {apart fresh handsOn again : Bool} {W W' : World} {args : Array Value} {v : Value} {ds gs : List (DataW H)} {before pa pv : List MemPlace}
    (hW : DataW.Whole enc P f.params.toList s.vars apart W args.toList ds gs before)
    (hres : ∀ (b : Nat) (sp : Nat → Bool) (hd : Bool), DataW.TrodAll enc P W' b sp hd f.resultTypes.toList (v.resultList f.resultTypes.size) (s.fn H (ds ++ gs)).results [])
    (hargs : ∀ sp : Nat → Bool, (∀ p ∈ before, sp p.block = true) → DataW.TrodAll enc P W' 0 sp true f.params.toList args.toList (s.fn H (ds ++ gs)).args pa)
    (hvars : ∀ sp : Nat → Bool, (∀ p ∈ before, sp p.block = true) → DataW.TrodVars enc P W' sp s.vars (s.fn H (ds ++ gs)).vars pv)
    (hps : before = pa ++ pv) (hb : Below W.heap.size W W')
    (hok : ∀ (j : Nat) (t : TypeId) (r : Value), f.resultTypes[j]? = some t → (v.resultList f.resultTypes.size)[j]? = some r → Value.okWide P W' .any 0 t r) :
    s.post enc P f apart fresh handsOn again W args v W' := by
  have hlt : ∀ p ∈ before, p.block < W.heap.size := fun p hp => hW.lt p hp
  have hold : ∀ p ∈ before, (fun b => decide (b < W.heap.size)) p.block = true := fun p hp => by simpa using hlt p hp
  refine ⟨ds, gs, before, [], pa, pv, hW, hres _ _ _, hargs _ hold, hvars _ hold, World.keptBut_mono (fun p hp => ⟨hp, ?_⟩) (hb.frame (· ∈ before)), fun _ => ?_⟩
  · rw [hps, List.mem_append] at hp
    exact Or.inr hp
  · obtain ⟨_, _, _, _, _, hz, hn⟩ := hW
    refine ⟨hok, _, _, ([] ++ pa) ++ pv, ⟨[] ++ pa, pv, trodAll_append (hargs _ (fun _ _ => rfl)) (hres _ _ _), hvars _ (fun _ _ => rfl), rfl, ?_, ?_⟩, ?_⟩
    · intro b off hp
      have hin : MemPlace.cell b off ∈ before := by rw [hps]; simpa using hp
      rw [hb.frozen (hlt _ hin)]
      exact hz b off hin
    · intro ha
      have := hn ha
      rw [hps] at this
      simpa using this
    · intro p hp _
      rw [hps]
      simpa using hp
end

/-- the bounds of an int64 -/
theorem bd64 {x : Int} (h : (Lit.int .i64 x).wf = true) : -9223372036854775808 ≤ x ∧ x ≤ 9223372036854775807 := by
  simp [Lit.wf, IntKind.min, IntKind.max, IntKind.signed, IntKind.bits] at h
  exact ⟨by omega, by omega⟩

end Go.Proofs.YtplgdlooglnpmaaGreat
namespace Go.Proofs.YtplgdlooglnpmaaGreat
set_option linter.unusedVariables false
/-- a measurement: source, coefficients, value, bound, weight -/
structure Ms where
  s : Int
  a : Int
  b : Int
  z : Int
  d : Int
  w : Int
/-- how far the point (X/D, Y/D) misses a measurement, times D -/
def gI (m : Ms) (X Y D : Int) : Int := m.a * X + m.b * Y - m.z * D
def dlt (m : Ms) (u v : Int) : Int := m.a * u + m.b * v
def detM (m n : Ms) : Int := m.a * n.b - n.a * m.b
structure In1 (m : Ms) (X Y D : Int) : Prop where
  up : gI m X Y D ≤ m.d * D
  dn : -gI m X Y D ≤ m.d * D
def In (l : List Ms) (X Y D : Int) : Prop := ∀ m ∈ l, In1 m X Y D
/-- on an edge of the strip -/
def OnE (m : Ms) (X Y D : Int) : Prop := gI m X Y D = m.d * D ∨ gI m X Y D = -(m.d * D)
/-- how far a strip lets the point go, and how fast it goes -/
def roomI (m : Ms) (X Y D u v : Int) : Int := if 0 < dlt m u v then m.d * D - gI m X Y D else m.d * D + gI m X Y D
def fastI (m : Ms) (u v : Int) : Int := if 0 < dlt m u v then dlt m u v else -dlt m u v
theorem room_nonneg {m : Ms} {X Y D u v : Int} (h : In1 m X Y D) : 0 ≤ roomI m X Y D u v := by
  have := h.up
  have := h.dn
  unfold roomI
  split <;> omega
theorem fast_pos {m : Ms} {u v : Int} (h : dlt m u v ≠ 0) : 0 < fastI m u v := by
  unfold fastI
  split <;> omega
/-- the strip that is met first -/
theorem first_met (X Y D u v : Int) : ∀ (l : List Ms), In l X Y D → (∃ m ∈ l, dlt m u v ≠ 0) →
    ∃ m ∈ l, dlt m u v ≠ 0 ∧ ∀ k ∈ l, dlt k u v ≠ 0 → roomI m X Y D u v * fastI k u v ≤ roomI k X Y D u v * fastI m u v := by
  intro l
  induction l with
  | nil => rintro _ ⟨m, hm, _⟩; cases hm
  | cons c r ih =>
    intro hin hex
    by_cases hr : ∃ m ∈ r, dlt m u v ≠ 0
    · obtain ⟨m, hm, hd, hmin⟩ := ih (fun k hk => hin k (List.mem_cons_of_mem _ hk)) hr
      by_cases hc : dlt c u v ≠ 0 ∧ roomI c X Y D u v * fastI m u v < roomI m X Y D u v * fastI c u v
      · refine ⟨c, List.mem_cons_self, hc.1, fun k hk hkd => ?_⟩
        rcases List.mem_cons.1 hk with rfl | hk
        · exact Int.le_refl _
        · have h1 := hmin k hk hkd
          have fm := fast_pos hd
          have fk := fast_pos hkd
          have fc := fast_pos hc.1
          generalize roomI c X Y D u v = rc at *
          generalize roomI m X Y D u v = rm at *
          generalize roomI k X Y D u v = rk at *
          generalize fastI c u v = qc at *
          generalize fastI m u v = qm at *
          generalize fastI k u v = qk at *
          -- rc qm < rm qc, rm qk ≤ rk qm  ⊢ rc qk ≤ rk qc
          have e1 := Int.mul_le_mul_of_nonneg_right (Int.le_of_lt hc.2) (Int.le_of_lt fk)
          have e2 := Int.mul_le_mul_of_nonneg_right h1 (Int.le_of_lt fc)
          have e3 : rc * qk * qm ≤ rk * qc * qm := by
            have a1 : rc * qm * qk = rc * qk * qm := by grind
            have a2 : rm * qc * qk = rm * qk * qc := by grind
            have a3 : rk * qm * qc = rk * qc * qm := by grind
            omega
          exact Int.le_of_mul_le_mul_right e3 fm
      · refine ⟨m, List.mem_cons_of_mem _ hm, hd, fun k hk hkd => ?_⟩
        rcases List.mem_cons.1 hk with rfl | hk
        · exact Int.not_lt.1 fun q => hc ⟨hkd, q⟩
        · exact hmin k hk hkd
    · obtain ⟨m, hm, hd⟩ := hex
      rcases List.mem_cons.1 hm with rfl | hm'
      · refine ⟨m, List.mem_cons_self, hd, fun k hk hkd => ?_⟩
        rcases List.mem_cons.1 hk with rfl | hk
        · exact Int.le_refl _
        · exact absurd ⟨k, hk, hkd⟩ hr
      · exact absurd ⟨m, hm', hd⟩ hr
theorem g_move (m : Ms) (X Y D q t u v : Int) : gI m (X * q + t * u) (Y * q + t * v) (D * q) = q * gI m X Y D + t * dlt m u v := by
  unfold gI dlt; grind
/-- a point moved along (u, v) until it meets an edge -/
theorem move {l : List Ms} {X Y D u v : Int} (hD : 0 < D) (hin : In l X Y D) (hex : ∃ m ∈ l, dlt m u v ≠ 0) :
    ∃ q t : Int, 0 < q ∧ 0 ≤ t ∧ In l (X * q + t * u) (Y * q + t * v) (D * q) ∧ ∃ m ∈ l, dlt m u v ≠ 0 ∧ OnE m (X * q + t * u) (Y * q + t * v) (D * q) := by
  obtain ⟨m, hm, hd, hmin⟩ := first_met X Y D u v l hin hex
  have fm := fast_pos hd
  have rm := room_nonneg (u := u) (v := v) (hin m hm)
  refine ⟨fastI m u v, roomI m X Y D u v, fm, rm, fun k hk => ?_, m, hm, hd, ?_⟩
  · have hk1 := hin k hk
    have h1 := Int.mul_le_mul_of_nonneg_left hk1.up (Int.le_of_lt fm)
    have h2 := Int.mul_le_mul_of_nonneg_left hk1.dn (Int.le_of_lt fm)
    have ed : fastI m u v * (k.d * D) = k.d * (D * fastI m u v) := by grind
    have en : fastI m u v * -gI k X Y D = -(fastI m u v * gI k X Y D) := by grind
    by_cases hz : dlt k u v = 0
    · refine ⟨?_, ?_⟩ <;> rw [g_move, hz, Int.mul_zero] <;> omega
    · have hk2 := hmin k hk hz
      by_cases hp : 0 < dlt k u v
      · have ef : fastI k u v = dlt k u v := by unfold fastI; rw [if_pos hp]
        have er : roomI k X Y D u v = k.d * D - gI k X Y D := by unfold roomI; rw [if_pos hp]
        rw [ef, er] at hk2
        have es : (k.d * D - gI k X Y D) * fastI m u v = k.d * (D * fastI m u v) - fastI m u v * gI k X Y D := by grind
        have hn := Int.mul_nonneg rm (Int.le_of_lt hp)
        refine ⟨?_, ?_⟩ <;> rw [g_move] <;> omega
      · have ef : fastI k u v = -dlt k u v := by unfold fastI; rw [if_neg hp]
        have er : roomI k X Y D u v = k.d * D + gI k X Y D := by unfold roomI; rw [if_neg hp]
        rw [ef, er] at hk2
        have es : (k.d * D + gI k X Y D) * fastI m u v = k.d * (D * fastI m u v) + fastI m u v * gI k X Y D := by grind
        have eq : roomI m X Y D u v * -dlt k u v = -(roomI m X Y D u v * dlt k u v) := by grind
        have hn := Int.mul_nonneg rm (show 0 ≤ -dlt k u v by omega)
        refine ⟨?_, ?_⟩ <;> rw [g_move] <;> omega
  · unfold OnE
    rw [g_move]
    by_cases hp : 0 < dlt m u v
    · left
      have ef : fastI m u v = dlt m u v := by unfold fastI; rw [if_pos hp]
      have er : roomI m X Y D u v = m.d * D - gI m X Y D := by unfold roomI; rw [if_pos hp]
      rw [ef, er]; grind
    · right
      have ef : fastI m u v = -dlt m u v := by unfold fastI; rw [if_neg hp]
      have er : roomI m X Y D u v = m.d * D + gI m X Y D := by unfold roomI; rw [if_neg hp]
      rw [ef, er]; grind
/-- a direction along the lines of m that does not lower a x + b y -/
theorem along (m : Ms) (a b : Int) : ∃ u v : Int, 0 ≤ a * u + b * v ∧ dlt m u v = 0 ∧ (∀ k : Ms, dlt k u v ≠ 0 ↔ detM m k ≠ 0) := by
  by_cases h : 0 ≤ a * -m.b + b * m.a
  · refine ⟨-m.b, m.a, h, by unfold dlt; grind, fun k => ?_⟩
    have : dlt k (-m.b) m.a = detM m k := by unfold dlt detM; grind
    rw [this]
  · have e : a * m.b + b * -m.a = -(a * -m.b + b * m.a) := by grind
    refine ⟨m.b, -m.a, by omega, by unfold dlt; grind, fun k => ?_⟩
    have : dlt k m.b (-m.a) = -detM m k := by unfold dlt detM; grind
    rw [this]
    omega
end Go.Proofs.YtplgdlooglnpmaaGreat
namespace Go.Proofs.YtplgdlooglnpmaaGreat
set_option linter.unusedVariables false
open Go.RowKit
theorem ret_int {k : IntKind} {a b : Int} (h : a = b) : Ending.returned (.int k a) = .returned (.int k b) := by rw [h]
theorem ret_b {a b : Bool} (h : a = b) : Ending.returned (.bool a) = .returned (.bool b) := by rw [h]
def ms0 : Ms := ⟨0, 0, 0, 0, 0, 0⟩
def nth (l : List Ms) (i : Nat) : Ms := l.getD i ms0
theorem nth_mem {l : List Ms} {i : Nat} (h : i < l.length) : nth l i ∈ l := by
  unfold nth
  rw [List.getD_eq_getElem?_getD, List.getElem?_eq_getElem h]
  exact List.getElem_mem h
theorem nth_eq {l : List Ms} {i : Nat} (h : i < l.length) : nth l i = l[i] := by
  unfold nth
  rw [List.getD_eq_getElem?_getD, List.getElem?_eq_getElem h]
  rfl
theorem take_nth {l : List Ms} {i : Nat} (h : i < l.length) : l.take (i + 1) = l.take i ++ [nth l i] := by
  rw [List.take_succ_eq_append_getElem h, nth_eq h]
/-- measurements lie in block b from cell o on -/
structure MsAt (l : List Ms) (b o : Nat) (w : World) : Prop where
  lt : b < w.heap.size
  c0 : ∀ i, i < l.length → w.cell? ⟨b, o + i * 6, none⟩ = some (.int .i64 (nth l i).s)
  c1 : ∀ i, i < l.length → w.cell? ⟨b, o + i * 6 + 1, none⟩ = some (.int .i64 (nth l i).a)
  c2 : ∀ i, i < l.length → w.cell? ⟨b, o + i * 6 + 2, none⟩ = some (.int .i64 (nth l i).b)
  c3 : ∀ i, i < l.length → w.cell? ⟨b, o + i * 6 + 3, none⟩ = some (.int .i64 (nth l i).z)
  c4 : ∀ i, i < l.length → w.cell? ⟨b, o + i * 6 + 4, none⟩ = some (.int .i64 (nth l i).d)
  c5 : ∀ i, i < l.length → w.cell? ⟨b, o + i * 6 + 5, none⟩ = some (.int .i64 (nth l i).w)
theorem MsAt.keep {l : List Ms} {b o B : Nat} {w w' : World} (h : MsAt l b o w) (hb : Below B w w') (hB : b < B) : MsAt l b o w' :=
  ⟨Nat.lt_of_lt_of_le h.lt hb.size, fun i hi => (hb.cell (p := ⟨b, o + i * 6, none⟩) hB).trans (h.c0 i hi), fun i hi => (hb.cell (p := ⟨b, o + i * 6 + 1, none⟩) hB).trans (h.c1 i hi), fun i hi => (hb.cell (p := ⟨b, o + i * 6 + 2, none⟩) hB).trans (h.c2 i hi), fun i hi => (hb.cell (p := ⟨b, o + i * 6 + 3, none⟩) hB).trans (h.c3 i hi), fun i hi => (hb.cell (p := ⟨b, o + i * 6 + 4, none⟩) hB).trans (h.c4 i hi), fun i hi => (hb.cell (p := ⟨b, o + i * 6 + 5, none⟩) hB).trans (h.c5 i hi)⟩
theorem MsAt.below {l : List Ms} {b o : Nat} {w w' : World} (h : MsAt l b o w) (hb : Below w.heap.size w w') : MsAt l b o w' := h.keep hb h.lt
theorem MsAt.take {l : List Ms} {b o : Nat} {w : World} (h : MsAt l b o w) (k : Nat) : MsAt (l.take k) b o w := by
  have e : ∀ i, i < (l.take k).length → i < l.length ∧ nth (l.take k) i = nth l i := fun i hi => by
    rw [List.length_take] at hi
    refine ⟨by omega, ?_⟩
    unfold nth
    rw [List.getD_eq_getElem?_getD, List.getD_eq_getElem?_getD, List.getElem?_take, if_pos (by omega)]
  exact ⟨h.lt, fun i hi => by rw [(e i hi).2]; exact h.c0 i (e i hi).1, fun i hi => by rw [(e i hi).2]; exact h.c1 i (e i hi).1, fun i hi => by rw [(e i hi).2]; exact h.c2 i (e i hi).1, fun i hi => by rw [(e i hi).2]; exact h.c3 i (e i hi).1, fun i hi => by rw [(e i hi).2]; exact h.c4 i (e i hi).1, fun i hi => by rw [(e i hi).2]; exact h.c5 i (e i hi).1⟩
/-- a slice that holds measurements -/
def LstAt (l : List Ms) (v : Value) (w : World) : Prop := (v = .slice none 0 0 ∧ l = []) ∨ ∃ b o cap, v = .slice (some ⟨b, o, none⟩) l.length cap ∧ l.length ≤ cap ∧ cap ≤ 9223372036854775807 ∧ MsAt l b o w
theorem LstAt.below {l : List Ms} {v : Value} {w w' : World} (h : LstAt l v w) (hb : Below w.heap.size w w') : LstAt l v w' := by
  rcases h with h | ⟨b, o, cap, h1, h2, h3, h4⟩
  · exact .inl h
  · exact .inr ⟨b, o, cap, h1, h2, h3, h4.below hb⟩
def okF (s a b z d t : Int) : Bool := decide (1 ≤ s ∧ s ≤ 8 ∧ -256 ≤ a ∧ a ≤ 256 ∧ -256 ≤ b ∧ b ≤ 256 ∧ (a ≠ 0 ∨ b ≠ 0) ∧ -4294967296 ≤ z ∧ z ≤ 4294967296 ∧ 0 ≤ d ∧ d ≤ 4294967296 ∧ 1 ≤ t ∧ t ≤ 16)
def okM (m : Ms) : Bool := okF m.s m.a m.b m.z m.d m.w
structure OkM (m : Ms) : Prop where
  s0 : 1 ≤ m.s
  s1 : m.s ≤ 8
  a0 : -256 ≤ m.a
  a1 : m.a ≤ 256
  b0 : -256 ≤ m.b
  b1 : m.b ≤ 256
  nz : m.a ≠ 0 ∨ m.b ≠ 0
  z0 : -4294967296 ≤ m.z
  z1 : m.z ≤ 4294967296
  d0 : 0 ≤ m.d
  d1 : m.d ≤ 4294967296
  w0 : 1 ≤ m.w
  w1 : m.w ≤ 16
theorem okM_iff {m : Ms} : okM m = true ↔ OkM m := by
  unfold okM okF
  rw [decide_eq_true_iff]
  constructor
  · rintro ⟨h0, h1, h2, h3, h4, h5, h6, h7, h8, h9, h10, h11, h12⟩
    exact ⟨h0, h1, h2, h3, h4, h5, h6, h7, h8, h9, h10, h11, h12⟩
  · rintro ⟨h0, h1, h2, h3, h4, h5, h6, h7, h8, h9, h10, h11, h12⟩
    exact ⟨h0, h1, h2, h3, h4, h5, h6, h7, h8, h9, h10, h11, h12⟩
def chkL (l : List Ms) : Int := if 16 < l.length then 3 else if l.all okM = true then 0 else 1
theorem chkL_ok {l : List Ms} (h : chkL l = 0) : l.length ≤ 16 ∧ ∀ m ∈ l, OkM m := by
  unfold chkL at h
  split at h
  · cases h
  · split at h
    · rename_i h1 h2
      exact ⟨by omega, fun m hm => okM_iff.1 (List.all_eq_true.1 h2 m hm)⟩
    · cases h
theorem chkL_of {l : List Ms} (h : l.length ≤ 16) (g : ∀ m ∈ l, OkM m) : chkL l = 0 := by
  unfold chkL
  rw [if_neg (by omega), if_pos (List.all_eq_true.2 fun m hm => okM_iff.2 (g m hm))]
set_option maxHeartbeats 20000000 in
theorem valid_any (s a b z d t : Int) (w : World) : Calls Tryz.prog 109 #[.agg #[.int .i64 s, .int .i64 a, .int .i64 b, .int .i64 z, .int .i64 d, .int .i64 t]] w fun e w' => e = .returned (.bool (okF s a b z d t)) ∧ Below w.heap.size w w' := by
  by_cases q0 : 1 ≤ s
  · have g0 : decide (1 ≤ s) = true := by simpa using q0
    by_cases q1 : s ≤ 8
    · have g1 : decide (s ≤ 8) = true := by simpa using q1
      by_cases q2 : -256 ≤ a
      · have g2 : decide (-256 ≤ a) = true := by simpa using q2
        by_cases q3 : a ≤ 256
        · have g3 : decide (a ≤ 256) = true := by simpa using q3
          by_cases q4 : -256 ≤ b
          · have g4 : decide (-256 ≤ b) = true := by simpa using q4
            by_cases q5 : b ≤ 256
            · have g5 : decide (b ≤ 256) = true := by simpa using q5
              by_cases ha : a = 0
              · have ga : (a != 0) = false := by simpa using ha
                by_cases hb : b = 0
                · have gb : (b != 0) = false := by simpa using hb
                  have E := Lib.hid (show okF s a b z d t = false from decide_eq_false (fun h => by omega))
                  clear q0 q1 q2 q3 q4 q5 ha hb
                  go_enter Tryz.func109, Tryz.ntmps109
                  go_upto_region 1 with (fail)
                  simp only [List.append_eq, List.cons_append, List.nil_append]
                  go_wp2
                  go_ret
                  exact ⟨ret_b E.out.symm, (Below.refl _ _).alloc (Nat.le_refl _) _⟩
                · have gb : (b != 0) = true := by simpa using hb
                  by_cases qp0 : -4294967296 ≤ z
                  · have gp0 : decide (-4294967296 ≤ z) = true := by simpa using qp0
                    by_cases qp1 : z ≤ 4294967296
                    · have gp1 : decide (z ≤ 4294967296) = true := by simpa using qp1
                      by_cases qp2 : 0 ≤ d
                      · have gp2 : decide (0 ≤ d) = true := by simpa using qp2
                        by_cases qp3 : d ≤ 4294967296
                        · have gp3 : decide (d ≤ 4294967296) = true := by simpa using qp3
                          by_cases qp4 : 1 ≤ t
                          · have gp4 : decide (1 ≤ t) = true := by simpa using qp4
                            by_cases qp5 : t ≤ 16
                            · have gp5 : decide (t ≤ 16) = true := by simpa using qp5
                              have E := Lib.hid (show okF s a b z d t = true from decide_eq_true (by omega))
                              clear q0 q1 q2 q3 q4 q5 qp0 qp1 qp2 qp3 qp4 qp5 ha hb
                              go_enter Tryz.func109, Tryz.ntmps109
                              go_upto_region 1 with (fail)
                              simp only [List.append_eq, List.cons_append, List.nil_append]
                              go_wp2
                              go_ret
                              exact ⟨ret_b E.out.symm, (Below.refl _ _).alloc (Nat.le_refl _) _⟩
                            · have gp5 : decide (t ≤ 16) = false := by simpa using qp5
                              have E := Lib.hid (show okF s a b z d t = false from decide_eq_false (fun h => by omega))
                              clear q0 q1 q2 q3 q4 q5 qp0 qp1 qp2 qp3 qp4 qp5 ha hb
                              go_enter Tryz.func109, Tryz.ntmps109
                              go_upto_region 1 with (fail)
                              simp only [List.append_eq, List.cons_append, List.nil_append]
                              go_wp2
                              go_ret
                              exact ⟨ret_b E.out.symm, (Below.refl _ _).alloc (Nat.le_refl _) _⟩
                          · have gp4 : decide (1 ≤ t) = false := by simpa using qp4
                            have E := Lib.hid (show okF s a b z d t = false from decide_eq_false (fun h => by omega))
                            clear q0 q1 q2 q3 q4 q5 qp0 qp1 qp2 qp3 qp4 ha hb
                            go_enter Tryz.func109, Tryz.ntmps109
                            go_upto_region 1 with (fail)
                            simp only [List.append_eq, List.cons_append, List.nil_append]
                            go_wp2
                            go_ret
                            exact ⟨ret_b E.out.symm, (Below.refl _ _).alloc (Nat.le_refl _) _⟩
                        · have gp3 : decide (d ≤ 4294967296) = false := by simpa using qp3
                          have E := Lib.hid (show okF s a b z d t = false from decide_eq_false (fun h => by omega))
                          clear q0 q1 q2 q3 q4 q5 qp0 qp1 qp2 qp3 ha hb
                          go_enter Tryz.func109, Tryz.ntmps109
                          go_upto_region 1 with (fail)
                          simp only [List.append_eq, List.cons_append, List.nil_append]
                          go_wp2
                          go_ret
                          exact ⟨ret_b E.out.symm, (Below.refl _ _).alloc (Nat.le_refl _) _⟩
                      · have gp2 : decide (0 ≤ d) = false := by simpa using qp2
                        have E := Lib.hid (show okF s a b z d t = false from decide_eq_false (fun h => by omega))
                        clear q0 q1 q2 q3 q4 q5 qp0 qp1 qp2 ha hb
                        go_enter Tryz.func109, Tryz.ntmps109
                        go_upto_region 1 with (fail)
                        simp only [List.append_eq, List.cons_append, List.nil_append]
                        go_wp2
                        go_ret
                        exact ⟨ret_b E.out.symm, (Below.refl _ _).alloc (Nat.le_refl _) _⟩
                    · have gp1 : decide (z ≤ 4294967296) = false := by simpa using qp1
                      have E := Lib.hid (show okF s a b z d t = false from decide_eq_false (fun h => by omega))
                      clear q0 q1 q2 q3 q4 q5 qp0 qp1 ha hb
                      go_enter Tryz.func109, Tryz.ntmps109
                      go_upto_region 1 with (fail)
                      simp only [List.append_eq, List.cons_append, List.nil_append]
                      go_wp2
                      go_ret
                      exact ⟨ret_b E.out.symm, (Below.refl _ _).alloc (Nat.le_refl _) _⟩
                  · have gp0 : decide (-4294967296 ≤ z) = false := by simpa using qp0
                    have E := Lib.hid (show okF s a b z d t = false from decide_eq_false (fun h => by omega))
                    clear q0 q1 q2 q3 q4 q5 qp0 ha hb
                    go_enter Tryz.func109, Tryz.ntmps109
                    go_upto_region 1 with (fail)
                    simp only [List.append_eq, List.cons_append, List.nil_append]
                    go_wp2
                    go_ret
                    exact ⟨ret_b E.out.symm, (Below.refl _ _).alloc (Nat.le_refl _) _⟩
              · have ga : (a != 0) = true := by simpa using ha
                by_cases qp0 : -4294967296 ≤ z
                · have gp0 : decide (-4294967296 ≤ z) = true := by simpa using qp0
                  by_cases qp1 : z ≤ 4294967296
                  · have gp1 : decide (z ≤ 4294967296) = true := by simpa using qp1
                    by_cases qp2 : 0 ≤ d
                    · have gp2 : decide (0 ≤ d) = true := by simpa using qp2
                      by_cases qp3 : d ≤ 4294967296
                      · have gp3 : decide (d ≤ 4294967296) = true := by simpa using qp3
                        by_cases qp4 : 1 ≤ t
                        · have gp4 : decide (1 ≤ t) = true := by simpa using qp4
                          by_cases qp5 : t ≤ 16
                          · have gp5 : decide (t ≤ 16) = true := by simpa using qp5
                            have E := Lib.hid (show okF s a b z d t = true from decide_eq_true (by omega))
                            clear q0 q1 q2 q3 q4 q5 qp0 qp1 qp2 qp3 qp4 qp5 ha
                            go_enter Tryz.func109, Tryz.ntmps109
                            go_upto_region 1 with (fail)
                            simp only [List.append_eq, List.cons_append, List.nil_append]
                            go_wp2
                            go_ret
                            exact ⟨ret_b E.out.symm, (Below.refl _ _).alloc (Nat.le_refl _) _⟩
                          · have gp5 : decide (t ≤ 16) = false := by simpa using qp5
                            have E := Lib.hid (show okF s a b z d t = false from decide_eq_false (fun h => by omega))
                            clear q0 q1 q2 q3 q4 q5 qp0 qp1 qp2 qp3 qp4 qp5 ha
                            go_enter Tryz.func109, Tryz.ntmps109
                            go_upto_region 1 with (fail)
                            simp only [List.append_eq, List.cons_append, List.nil_append]
                            go_wp2
                            go_ret
                            exact ⟨ret_b E.out.symm, (Below.refl _ _).alloc (Nat.le_refl _) _⟩
                        · have gp4 : decide (1 ≤ t) = false := by simpa using qp4
                          have E := Lib.hid (show okF s a b z d t = false from decide_eq_false (fun h => by omega))
                          clear q0 q1 q2 q3 q4 q5 qp0 qp1 qp2 qp3 qp4 ha
                          go_enter Tryz.func109, Tryz.ntmps109
                          go_upto_region 1 with (fail)
                          simp only [List.append_eq, List.cons_append, List.nil_append]
                          go_wp2
                          go_ret
                          exact ⟨ret_b E.out.symm, (Below.refl _ _).alloc (Nat.le_refl _) _⟩
                      · have gp3 : decide (d ≤ 4294967296) = false := by simpa using qp3
                        have E := Lib.hid (show okF s a b z d t = false from decide_eq_false (fun h => by omega))
                        clear q0 q1 q2 q3 q4 q5 qp0 qp1 qp2 qp3 ha
                        go_enter Tryz.func109, Tryz.ntmps109
                        go_upto_region 1 with (fail)
                        simp only [List.append_eq, List.cons_append, List.nil_append]
                        go_wp2
                        go_ret
                        exact ⟨ret_b E.out.symm, (Below.refl _ _).alloc (Nat.le_refl _) _⟩
                    · have gp2 : decide (0 ≤ d) = false := by simpa using qp2
                      have E := Lib.hid (show okF s a b z d t = false from decide_eq_false (fun h => by omega))
                      clear q0 q1 q2 q3 q4 q5 qp0 qp1 qp2 ha
                      go_enter Tryz.func109, Tryz.ntmps109
                      go_upto_region 1 with (fail)
                      simp only [List.append_eq, List.cons_append, List.nil_append]
                      go_wp2
                      go_ret
                      exact ⟨ret_b E.out.symm, (Below.refl _ _).alloc (Nat.le_refl _) _⟩
                  · have gp1 : decide (z ≤ 4294967296) = false := by simpa using qp1
                    have E := Lib.hid (show okF s a b z d t = false from decide_eq_false (fun h => by omega))
                    clear q0 q1 q2 q3 q4 q5 qp0 qp1 ha
                    go_enter Tryz.func109, Tryz.ntmps109
                    go_upto_region 1 with (fail)
                    simp only [List.append_eq, List.cons_append, List.nil_append]
                    go_wp2
                    go_ret
                    exact ⟨ret_b E.out.symm, (Below.refl _ _).alloc (Nat.le_refl _) _⟩
                · have gp0 : decide (-4294967296 ≤ z) = false := by simpa using qp0
                  have E := Lib.hid (show okF s a b z d t = false from decide_eq_false (fun h => by omega))
                  clear q0 q1 q2 q3 q4 q5 qp0 ha
                  go_enter Tryz.func109, Tryz.ntmps109
                  go_upto_region 1 with (fail)
                  simp only [List.append_eq, List.cons_append, List.nil_append]
                  go_wp2
                  go_ret
                  exact ⟨ret_b E.out.symm, (Below.refl _ _).alloc (Nat.le_refl _) _⟩
            · have g5 : decide (b ≤ 256) = false := by simpa using q5
              have E := Lib.hid (show okF s a b z d t = false from decide_eq_false (fun h => by omega))
              clear q0 q1 q2 q3 q4 q5
              go_enter Tryz.func109, Tryz.ntmps109
              go_upto_region 1 with (fail)
              simp only [List.append_eq, List.cons_append, List.nil_append]
              go_wp2
              go_ret
              exact ⟨ret_b E.out.symm, (Below.refl _ _).alloc (Nat.le_refl _) _⟩
          · have g4 : decide (-256 ≤ b) = false := by simpa using q4
            have E := Lib.hid (show okF s a b z d t = false from decide_eq_false (fun h => by omega))
            clear q0 q1 q2 q3 q4
            go_enter Tryz.func109, Tryz.ntmps109
            go_upto_region 1 with (fail)
            simp only [List.append_eq, List.cons_append, List.nil_append]
            go_wp2
            go_ret
            exact ⟨ret_b E.out.symm, (Below.refl _ _).alloc (Nat.le_refl _) _⟩
        · have g3 : decide (a ≤ 256) = false := by simpa using q3
          have E := Lib.hid (show okF s a b z d t = false from decide_eq_false (fun h => by omega))
          clear q0 q1 q2 q3
          go_enter Tryz.func109, Tryz.ntmps109
          go_upto_region 1 with (fail)
          simp only [List.append_eq, List.cons_append, List.nil_append]
          go_wp2
          go_ret
          exact ⟨ret_b E.out.symm, (Below.refl _ _).alloc (Nat.le_refl _) _⟩
      · have g2 : decide (-256 ≤ a) = false := by simpa using q2
        have E := Lib.hid (show okF s a b z d t = false from decide_eq_false (fun h => by omega))
        clear q0 q1 q2
        go_enter Tryz.func109, Tryz.ntmps109
        go_upto_region 1 with (fail)
        simp only [List.append_eq, List.cons_append, List.nil_append]
        go_wp2
        go_ret
        exact ⟨ret_b E.out.symm, (Below.refl _ _).alloc (Nat.le_refl _) _⟩
    · have g1 : decide (s ≤ 8) = false := by simpa using q1
      have E := Lib.hid (show okF s a b z d t = false from decide_eq_false (fun h => by omega))
      clear q0 q1
      go_enter Tryz.func109, Tryz.ntmps109
      go_upto_region 1 with (fail)
      simp only [List.append_eq, List.cons_append, List.nil_append]
      go_wp2
      go_ret
      exact ⟨ret_b E.out.symm, (Below.refl _ _).alloc (Nat.le_refl _) _⟩
  · have g0 : decide (1 ≤ s) = false := by simpa using q0
    have E := Lib.hid (show okF s a b z d t = false from decide_eq_false (fun h => by omega))
    clear q0
    go_enter Tryz.func109, Tryz.ntmps109
    go_upto_region 1 with (fail)
    simp only [List.append_eq, List.cons_append, List.nil_append]
    go_wp2
    go_ret
    exact ⟨ret_b E.out.symm, (Below.refl _ _).alloc (Nat.le_refl _) _⟩
def ChkRcheck (l : List Ms) (w : World) (v : Value) (wr : World) : Prop := ∃ k : Nat, v = .int .i64 k ∧ k ≤ l.length ∧ Hid (∀ i, i < k → okM (nth l i) = true) ∧ Below w.heap.size w wr
set_option maxHeartbeats 1000000 in
theorem check_some (l : List Ms) (b o cap : Nat) (w : World) (h : MsAt l b o w) (hc : l.length ≤ cap) (hm : cap ≤ 9223372036854775807) :
    Calls Tryz.prog 78 #[.slice (some ⟨b, o, none⟩) l.length cap] w fun e w' => e = .returned (.int .i64 (chkL l)) ∧ Below w.heap.size w w' := by
  have H := Lib.hid h
  have hlt := h.lt
  clear h
  by_cases h16 : 16 < l.length
  · have g : decide (16 < l.length) = true := by simpa using h16
    have g' : decide (16 < (l.length : Int)) = true := by simp; omega
    have E := Lib.hid (show chkL l = 3 by unfold chkL; rw [if_pos h16])
    clear h16
    go_enter Tryz.func78, Tryz.ntmps78
    go_wp2
    go_ret
    exact ⟨ret_int E.out.symm, Below.refl _ _⟩
  · have g : decide (16 < l.length) = false := by simpa using h16
    have g' : decide (16 < (l.length : Int)) = false := by simp; omega
    have E0 := Lib.hid (show chkL l = if l.all okM = true then 0 else 1 by unfold chkL; rw [if_neg h16])
    go_enter Tryz.func78, Tryz.ntmps78
    go_wp2
    go_loopw [10] (ChkRcheck l w) (fun i _ => l.length - (intOf i).toNat)
    case atStart => exact ⟨0, rfl, Nat.zero_le _, Lib.hid fun i hi => absurd hi (by omega), Below.refl _ _⟩
    case round =>
      obtain ⟨k, rfl, hk, hok, hbr⟩ := hrel
      have HB := Lib.hid hbr
      by_cases q : k < l.length
      · have q' : decide (k < l.length) = true := by simpa using q
        have M := H.out.keep hbr hlt
        have c0 := M.c0 k q
        have c1 := M.c1 k q
        have c2 := M.c2 k q
        have c3 := M.c3 k q
        have c4 := M.c4 k q
        have c5 := M.c5 k q
        have V := Lib.hid fun w => valid_any (nth l k).s (nth l k).a (nth l k).b (nth l k).z (nth l k).d (nth l k).w w
        have EV := Lib.hid (show okM (nth l k) = okF (nth l k).s (nth l k).a (nth l k).b (nth l k).z (nth l k).d (nth l k).w from rfl)
        have MEM := Lib.hid (nth_mem q)
        clear M hbr
        generalize okF (nth l k).s (nth l k).a (nth l k).b (nth l k).z (nth l k).d (nth l k).w = v at *
        cases v with
        | true =>
          go_wp2_with (go_at_call 109; refine (V.out _).mono ?_; rintro e w2 ⟨rfl, hb2⟩)
          go_roundw
          case rel =>
            refine ⟨k + 1, by go_num, by omega, Lib.hid fun i hi => ?_, HB.out.trans (((Below.refl _ _).alloc (Nat.le_refl _) _).trans (hb2.mono (by simp)) |>.mono HB.out.size)⟩
            by_cases e : i = k
            · rw [e]; exact EV.out
            · exact hok.out i (by omega)
          case measure => simp [intOf]; omega
        | false =>
          have EE := Lib.hid (show chkL l = 1 by rw [E0.out, if_neg]; intro h; have := List.all_eq_true.1 h _ MEM.out; rw [EV.out] at this; cases this)
          go_wp2_with (go_at_call 109; refine (V.out _).mono ?_; rintro e w2 ⟨rfl, hb2⟩)
          go_ret
          exact ⟨ret_int EE.out.symm, HB.out.trans (((Below.refl _ _).alloc (Nat.le_refl _) _).trans (hb2.mono (by simp)) |>.mono HB.out.size)⟩
      · have EE := Lib.hid (show chkL l = 0 by
          rw [E0.out, if_pos]
          refine List.all_eq_true.2 fun m hm => ?_
          obtain ⟨i, hi, rfl⟩ := List.getElem_of_mem hm
          rw [← nth_eq hi]
          exact hok.out i (by omega))
        go_wp2
        go_ret
        exact ⟨ret_int EE.out.symm, HB.out⟩
theorem check_nil (w : World) :
    Calls Tryz.prog 78 #[.slice none 0 0] w fun e w' => e = .returned (.int .i64 0) ∧ Below w.heap.size w w' := by
  go_enter Tryz.func78, Tryz.ntmps78
  go_wp2
  go_loop [10] (fun v => v = .int .i64 0) (fun _ => 0)
  case atStart => rfl
  case round =>
    subst hrel
    go_wp2
    go_ret
    exact ⟨rfl, Below.refl _ _⟩
theorem check_any (l : List Ms) (v : Value) (w : World) (h : LstAt l v w) :
    Calls Tryz.prog 78 #[v] w fun e w' => e = .returned (.int .i64 (chkL l)) ∧ Below w.heap.size w w' := by
  rcases h with ⟨rfl, rfl⟩ | ⟨b, o, cap, rfl, h2, h3, h4⟩
  · exact check_nil w
  · exact check_some l b o cap w h4 h2 h3
end Go.Proofs.YtplgdlooglnpmaaGreat
namespace Go.Proofs.YtplgdlooglnpmaaGreat
set_option linter.unusedVariables false
open Go.ChangeShapes Go.WideShapes Go.ChangeAt Go.RowKit Go.Joins

theorem cells_of_int : Tryz.prog.cellsOf 3 = 1 := by kernel_rfl
theorem cells_of_int64 : Tryz.prog.cellsOf 2 = 1 := by kernel_rfl
theorem cells_of_meas : Tryz.prog.cellsOf 70 = 6 := by kernel_rfl
theorem cells_of_point : Tryz.prog.cellsOf 26 = 2 := by kernel_rfl

section
variable {H : Type} {enc : TypeId × Value → H} {W : World} {base : Nat} {spare : Nat → Bool} {held : Bool} {b0 : Nat}

set_option maxRecDepth 100000 in
theorem trod_meas {n : Nat} {c0 c1 c2 c3 c4 c5 : Value} {y : DataW H × List MemPlace} (h : DataW.trod enc Tryz.prog W base spare held n 70 [c0, c1, c2, c3, c4, c5] = some y) :
    ∃ a0 a1 a2 a3 a4 a5 : Int, c0 = .int .i64 a0 ∧ c1 = .int .i64 a1 ∧ c2 = .int .i64 a2 ∧ c3 = .int .i64 a3 ∧ c4 = .int .i64 a4 ∧ c5 = .int .i64 a5 ∧ y = (.agg [.lit (.int .i64 a0), .lit (.int .i64 a1), .lit (.int .i64 a2), .lit (.int .i64 a3), .lit (.int .i64 a4), .lit (.int .i64 a5)], []) ∧ (Lit.int .i64 a0).wf = true ∧ (Lit.int .i64 a1).wf = true ∧ (Lit.int .i64 a2).wf = true ∧ (Lit.int .i64 a3).wf = true ∧ (Lit.int .i64 a4).wf = true ∧ (Lit.int .i64 a5).wf = true := by
  obtain ⟨xs, m, _, hx, _, hlen, hg⟩ := DataW.trod_struct Tryz.underlying70 h
  match xs, hlen with
  | [y0, y1, y2, y3, y4, y5], _ =>
    have h0 : DataW.trod enc Tryz.prog W base spare held m 3 (([c0, c1, c2, c3, c4, c5].drop 0).take (Tryz.prog.cellsOf 3)) = some y0 := hg 0 _ rfl
    rw [cells_of_int] at h0
    have g0 : DataW.trod enc Tryz.prog W base spare held m 3 [c0] = some y0 := h0
    have h1 : DataW.trod enc Tryz.prog W base spare held m 2 (([c0, c1, c2, c3, c4, c5].drop 1).take (Tryz.prog.cellsOf 2)) = some y1 := hg 1 _ rfl
    rw [cells_of_int64] at h1
    have g1 : DataW.trod enc Tryz.prog W base spare held m 2 [c1] = some y1 := h1
    have h2 : DataW.trod enc Tryz.prog W base spare held m 2 (([c0, c1, c2, c3, c4, c5].drop 2).take (Tryz.prog.cellsOf 2)) = some y2 := hg 2 _ rfl
    rw [cells_of_int64] at h2
    have g2 : DataW.trod enc Tryz.prog W base spare held m 2 [c2] = some y2 := h2
    have h3 : DataW.trod enc Tryz.prog W base spare held m 2 (([c0, c1, c2, c3, c4, c5].drop 3).take (Tryz.prog.cellsOf 2)) = some y3 := hg 3 _ rfl
    rw [cells_of_int64] at h3
    have g3 : DataW.trod enc Tryz.prog W base spare held m 2 [c3] = some y3 := h3
    have h4 : DataW.trod enc Tryz.prog W base spare held m 2 (([c0, c1, c2, c3, c4, c5].drop 4).take (Tryz.prog.cellsOf 2)) = some y4 := hg 4 _ rfl
    rw [cells_of_int64] at h4
    have g4 : DataW.trod enc Tryz.prog W base spare held m 2 [c4] = some y4 := h4
    have h5 : DataW.trod enc Tryz.prog W base spare held m 2 (([c0, c1, c2, c3, c4, c5].drop 5).take (Tryz.prog.cellsOf 2)) = some y5 := hg 5 _ rfl
    rw [cells_of_int64] at h5
    have g5 : DataW.trod enc Tryz.prog W base spare held m 2 [c5] = some y5 := h5
    obtain ⟨a0, e0, r0, w0⟩ := DataW.trod_int Tryz.underlying3 g0
    obtain rfl : c0 = .int .i64 a0 := by simpa using e0
    obtain ⟨a1, e1, r1, w1⟩ := DataW.trod_int Tryz.underlying2 g1
    obtain rfl : c1 = .int .i64 a1 := by simpa using e1
    obtain ⟨a2, e2, r2, w2⟩ := DataW.trod_int Tryz.underlying2 g2
    obtain rfl : c2 = .int .i64 a2 := by simpa using e2
    obtain ⟨a3, e3, r3, w3⟩ := DataW.trod_int Tryz.underlying2 g3
    obtain rfl : c3 = .int .i64 a3 := by simpa using e3
    obtain ⟨a4, e4, r4, w4⟩ := DataW.trod_int Tryz.underlying2 g4
    obtain rfl : c4 = .int .i64 a4 := by simpa using e4
    obtain ⟨a5, e5, r5, w5⟩ := DataW.trod_int Tryz.underlying2 g5
    obtain rfl : c5 = .int .i64 a5 := by simpa using e5
    subst r0 r1 r2 r3 r4 r5
    exact ⟨a0, a1, a2, a3, a4, a5, rfl, rfl, rfl, rfl, rfl, rfl, hx, w0, w1, w2, w3, w4, w5⟩
set_option maxRecDepth 100000 in
theorem trod_meas_mk {a0 a1 a2 a3 a4 a5 : Int} (m : Nat) (w0 : (Lit.int .i64 a0).wf = true) (w1 : (Lit.int .i64 a1).wf = true) (w2 : (Lit.int .i64 a2).wf = true) (w3 : (Lit.int .i64 a3).wf = true) (w4 : (Lit.int .i64 a4).wf = true) (w5 : (Lit.int .i64 a5).wf = true) :
    DataW.trod enc Tryz.prog W base spare held (m + 2) 70 [.int .i64 a0, .int .i64 a1, .int .i64 a2, .int .i64 a3, .int .i64 a4, .int .i64 a5] = some (.agg [.lit (.int .i64 a0), .lit (.int .i64 a1), .lit (.int .i64 a2), .lit (.int .i64 a3), .lit (.int .i64 a4), .lit (.int .i64 a5)], []) := by
  have i0 := trod_int_mk (enc := enc) (w := W) (base := base) (spare := spare) (held := held) m Tryz.underlying3 w0
  have i1 := trod_int_mk (enc := enc) (w := W) (base := base) (spare := spare) (held := held) m Tryz.underlying2 w1
  have i2 := trod_int_mk (enc := enc) (w := W) (base := base) (spare := spare) (held := held) m Tryz.underlying2 w2
  have i3 := trod_int_mk (enc := enc) (w := W) (base := base) (spare := spare) (held := held) m Tryz.underlying2 w3
  have i4 := trod_int_mk (enc := enc) (w := W) (base := base) (spare := spare) (held := held) m Tryz.underlying2 w4
  have i5 := trod_int_mk (enc := enc) (w := W) (base := base) (spare := spare) (held := held) m Tryz.underlying2 w5
  have := trod_struct_mk (enc := enc) (w := W) (base := base) (spare := spare) (held := held) (n := m + 1) (cs := [.int .i64 a0, .int .i64 a1, .int .i64 a2, .int .i64 a3, .int .i64 a4, .int .i64 a5])
    (xs := [(.lit (.int .i64 a0), []), (.lit (.int .i64 a1), []), (.lit (.int .i64 a2), []), (.lit (.int .i64 a3), []), (.lit (.int .i64 a4), []), (.lit (.int .i64 a5), [])]) Tryz.underlying70 (by rw [cells_of_meas]; rfl)
    (by simp [cells_of_int, cells_of_int64, i0, i1, i2, i3, i4, i5])
  simpa using this
set_option maxRecDepth 100000 in
theorem open_meas {v : Value} {d : DataW H} {p : List MemPlace} (hv : Value.okWide Tryz.prog W .any b0 70 v) (h : DataW.Trod enc Tryz.prog W base spare held 70 v d p) :
    ∃ a0 a1 a2 a3 a4 a5 : Int, v = .agg #[.int .i64 a0, .int .i64 a1, .int .i64 a2, .int .i64 a3, .int .i64 a4, .int .i64 a5] ∧ d = .agg [.lit (.int .i64 a0), .lit (.int .i64 a1), .lit (.int .i64 a2), .lit (.int .i64 a3), .lit (.int .i64 a4), .lit (.int .i64 a5)] ∧ p = [] ∧ (Lit.int .i64 a0).wf = true ∧ (Lit.int .i64 a1).wf = true ∧ (Lit.int .i64 a2).wf = true ∧ (Lit.int .i64 a3).wf = true ∧ (Lit.int .i64 a4).wf = true ∧ (Lit.int .i64 a5).wf = true := by
  obtain ⟨cs, rfl, hsz⟩ := okWide_struct Tryz.underlying70 hv
  obtain ⟨l⟩ := cs
  match l, hsz.trans cells_of_meas with
  | [c0, c1, c2, c3, c4, c5], _ =>
    obtain ⟨fuel, hf⟩ := h
    have hf' : DataW.trod enc Tryz.prog W base spare held fuel 70 [c0, c1, c2, c3, c4, c5] = some (d, p) := hf
    obtain ⟨a0, a1, a2, a3, a4, a5, rfl, rfl, rfl, rfl, rfl, rfl, hy, w0, w1, w2, w3, w4, w5⟩ := trod_meas hf'
    simp only [Prod.mk.injEq] at hy
    exact ⟨a0, a1, a2, a3, a4, a5, rfl, hy.1, hy.2, w0, w1, w2, w3, w4, w5⟩
set_option maxRecDepth 100000 in
theorem shut_meas {a0 a1 a2 a3 a4 a5 : Int} (w0 : (Lit.int .i64 a0).wf = true) (w1 : (Lit.int .i64 a1).wf = true) (w2 : (Lit.int .i64 a2).wf = true) (w3 : (Lit.int .i64 a3).wf = true) (w4 : (Lit.int .i64 a4).wf = true) (w5 : (Lit.int .i64 a5).wf = true) :
    DataW.Trod enc Tryz.prog W base spare held 70 (.agg #[.int .i64 a0, .int .i64 a1, .int .i64 a2, .int .i64 a3, .int .i64 a4, .int .i64 a5]) (.agg [.lit (.int .i64 a0), .lit (.int .i64 a1), .lit (.int .i64 a2), .lit (.int .i64 a3), .lit (.int .i64 a4), .lit (.int .i64 a5)]) [] :=
  ⟨2, trod_meas_mk (enc := enc) (W := W) (base := base) (spare := spare) (held := held) 0 w0 w1 w2 w3 w4 w5⟩
set_option maxRecDepth 100000 in
theorem trod_point {n : Nat} {c0 c1 : Value} {y : DataW H × List MemPlace} (h : DataW.trod enc Tryz.prog W base spare held n 26 [c0, c1] = some y) :
    ∃ a0 a1 : Int, c0 = .int .i64 a0 ∧ c1 = .int .i64 a1 ∧ y = (.agg [.lit (.int .i64 a0), .lit (.int .i64 a1)], []) ∧ (Lit.int .i64 a0).wf = true ∧ (Lit.int .i64 a1).wf = true := by
  obtain ⟨xs, m, _, hx, _, hlen, hg⟩ := DataW.trod_struct Tryz.underlying26 h
  match xs, hlen with
  | [y0, y1], _ =>
    have h0 : DataW.trod enc Tryz.prog W base spare held m 2 (([c0, c1].drop 0).take (Tryz.prog.cellsOf 2)) = some y0 := hg 0 _ rfl
    rw [cells_of_int64] at h0
    have g0 : DataW.trod enc Tryz.prog W base spare held m 2 [c0] = some y0 := h0
    have h1 : DataW.trod enc Tryz.prog W base spare held m 2 (([c0, c1].drop 1).take (Tryz.prog.cellsOf 2)) = some y1 := hg 1 _ rfl
    rw [cells_of_int64] at h1
    have g1 : DataW.trod enc Tryz.prog W base spare held m 2 [c1] = some y1 := h1
    obtain ⟨a0, e0, r0, w0⟩ := DataW.trod_int Tryz.underlying2 g0
    obtain rfl : c0 = .int .i64 a0 := by simpa using e0
    obtain ⟨a1, e1, r1, w1⟩ := DataW.trod_int Tryz.underlying2 g1
    obtain rfl : c1 = .int .i64 a1 := by simpa using e1
    subst r0 r1
    exact ⟨a0, a1, rfl, rfl, hx, w0, w1⟩
set_option maxRecDepth 100000 in
theorem trod_point_mk {a0 a1 : Int} (m : Nat) (w0 : (Lit.int .i64 a0).wf = true) (w1 : (Lit.int .i64 a1).wf = true) :
    DataW.trod enc Tryz.prog W base spare held (m + 2) 26 [.int .i64 a0, .int .i64 a1] = some (.agg [.lit (.int .i64 a0), .lit (.int .i64 a1)], []) := by
  have i0 := trod_int_mk (enc := enc) (w := W) (base := base) (spare := spare) (held := held) m Tryz.underlying2 w0
  have i1 := trod_int_mk (enc := enc) (w := W) (base := base) (spare := spare) (held := held) m Tryz.underlying2 w1
  have := trod_struct_mk (enc := enc) (w := W) (base := base) (spare := spare) (held := held) (n := m + 1) (cs := [.int .i64 a0, .int .i64 a1])
    (xs := [(.lit (.int .i64 a0), []), (.lit (.int .i64 a1), [])]) Tryz.underlying26 (by rw [cells_of_point]; rfl)
    (by simp [cells_of_int64, i0, i1])
  simpa using this
set_option maxRecDepth 100000 in
theorem open_point {v : Value} {d : DataW H} {p : List MemPlace} (hv : Value.okWide Tryz.prog W .any b0 26 v) (h : DataW.Trod enc Tryz.prog W base spare held 26 v d p) :
    ∃ a0 a1 : Int, v = .agg #[.int .i64 a0, .int .i64 a1] ∧ d = .agg [.lit (.int .i64 a0), .lit (.int .i64 a1)] ∧ p = [] ∧ (Lit.int .i64 a0).wf = true ∧ (Lit.int .i64 a1).wf = true := by
  obtain ⟨cs, rfl, hsz⟩ := okWide_struct Tryz.underlying26 hv
  obtain ⟨l⟩ := cs
  match l, hsz.trans cells_of_point with
  | [c0, c1], _ =>
    obtain ⟨fuel, hf⟩ := h
    have hf' : DataW.trod enc Tryz.prog W base spare held fuel 26 [c0, c1] = some (d, p) := hf
    obtain ⟨a0, a1, rfl, rfl, hy, w0, w1⟩ := trod_point hf'
    simp only [Prod.mk.injEq] at hy
    exact ⟨a0, a1, rfl, hy.1, hy.2, w0, w1⟩
set_option maxRecDepth 100000 in
theorem shut_point {a0 a1 : Int} (w0 : (Lit.int .i64 a0).wf = true) (w1 : (Lit.int .i64 a1).wf = true) :
    DataW.Trod enc Tryz.prog W base spare held 26 (.agg #[.int .i64 a0, .int .i64 a1]) (.agg [.lit (.int .i64 a0), .lit (.int .i64 a1)]) [] :=
  ⟨2, trod_point_mk (enc := enc) (W := W) (base := base) (spare := spare) (held := held) 0 w0 w1⟩
instance : Inhabited Ms := ⟨ms0⟩
set_option maxRecDepth 100000 in
/-- a parameter that is a slice of measurements -/
theorem open_list {v : Value} {d : DataW H} {p : List MemPlace} (hv : Value.okWide Tryz.prog W .any b0 22 v) (h : DataW.Trod enc Tryz.prog W 0 (fun _ => true) true 22 v d p) :
    ∃ l : List Ms, LstAt l v W := by
  have hok := hv
  simp only [Value.okWide, Tryz.underlying22, Cell.okWide] at hok
  obtain ⟨fuel, hf⟩ := h
  obtain ⟨ao, len, cap, rfl⟩ := okWide_slice Tryz.underlying22 hv
  rcases Go.Deep.open_slice Tryz.underlying22 hf with ⟨hc, _⟩ | ⟨a, len', cap', m, n, D, Pl, hc, _, hlc, _, hm, _, hi⟩
  · have hc' : [Value.slice ao len cap] = [Value.slice none 0 0] := hc
    exact ⟨[], .inl ⟨List.cons.inj hc' |>.1, rfl⟩⟩
  · have hc0 : [Value.slice ao len cap] = [Value.slice (some a) len' cap'] := hc
    have hc' := (List.cons.inj hc0).1
    clear hc0
    cases hc'
    simp only [if_true] at hm
    subst hm
    have hhas : len ≤ m ∧ (m : Int) ≤ IntKind.i64.max ∧ W.has Tryz.prog .any b0 a 70 m := by simpa [Cell.ok, Tryz.underlying22] using hok
    obtain ⟨_, hmax, _, hsp, row, cells, hsh, _⟩ := hhas
    have hlt : a.block < W.heap.size := by
      unfold World.shape? at hsh
      split at hsh
      · rename_i q
        exact (Array.getElem?_eq_some_iff.1 q).1
      · cases hsh
    have key : ∀ i, i < len → ∃ x : Ms, W.cell? ⟨a.block, a.off + i * 6, none⟩ = some (.int .i64 x.s) ∧ W.cell? ⟨a.block, a.off + i * 6 + 1, none⟩ = some (.int .i64 x.a) ∧ W.cell? ⟨a.block, a.off + i * 6 + 2, none⟩ = some (.int .i64 x.b) ∧ W.cell? ⟨a.block, a.off + i * 6 + 3, none⟩ = some (.int .i64 x.z) ∧ W.cell? ⟨a.block, a.off + i * 6 + 4, none⟩ = some (.int .i64 x.d) ∧ W.cell? ⟨a.block, a.off + i * 6 + 5, none⟩ = some (.int .i64 x.w) := by
      intro i hil
      obtain ⟨cs, hcs, ht⟩ := hi i (by omega)
      rw [cells_of_meas] at hcs
      obtain ⟨_, hl, hat⟩ := World.cells?_some hcs
      match cs, hl with
      | [c0, c1, c2, c3, c4, c5], _ =>
        obtain ⟨a0, a1, a2, a3, a4, a5, rfl, rfl, rfl, rfl, rfl, rfl, _⟩ := trod_meas ht
        have ad : ∀ j, (a.add (i * 6)).add j = ⟨a.block, a.off + i * 6 + j, none⟩ := fun j => by
          rw [Go.Deep.add_add]
          unfold Addr.add
          obtain ⟨ab, af, asp⟩ := a
          simp only at hsp
          subst hsp
          split
          · rename_i e
            simp only [Addr.mk.injEq, and_true, true_and]
            omega
          · simp only [Addr.mk.injEq, and_true, true_and]
            omega
        refine ⟨⟨a0, a1, a2, a3, a4, a5⟩, ?_, ?_, ?_, ?_, ?_, ?_⟩
        · have := hat 0 (by omega); rw [ad] at this; exact this
        · have := hat 1 (by omega); rw [ad] at this; exact this
        · have := hat 2 (by omega); rw [ad] at this; exact this
        · have := hat 3 (by omega); rw [ad] at this; exact this
        · have := hat 4 (by omega); rw [ad] at this; exact this
        · have := hat 5 (by omega); rw [ad] at this; exact this
    obtain ⟨f, hf⟩ := Go.Deep.choose_lt key
    have hlen : ((List.range len).map f).length = len := by simp
    have hn : ∀ i, i < len → nth ((List.range len).map f) i = f i := fun i hil => by
      unfold nth
      rw [List.getD_eq_getElem?_getD, List.getElem?_map, List.getElem?_range hil]
      rfl
    obtain ⟨ab, af, asp⟩ := a
    simp only at hsp
    subst hsp
    refine ⟨(List.range len).map f, .inr ⟨ab, af, m, by rw [hlen], by rw [hlen]; exact hlc, by simp [IntKind.max, IntKind.signed, IntKind.bits] at hmax; omega, hlt, ?_, ?_, ?_, ?_, ?_, ?_⟩⟩
    all_goals
      intro i hil
      rw [hlen] at hil
      rw [hn i hil]
    · exact (hf i hil).1
    · exact (hf i hil).2.1
    · exact (hf i hil).2.2.1
    · exact (hf i hil).2.2.2.1
    · exact (hf i hil).2.2.2.2.1
    · exact (hf i hil).2.2.2.2.2
end
end Go.Proofs.YtplgdlooglnpmaaGreat
namespace Go.Proofs.YtplgdlooglnpmaaGreat
set_option linter.unusedVariables false
/-- the words of a number -/
def hiW (x : Int) : Int := x / 18446744073709551616
def loW (x : Int) : Int := x % 18446744073709551616
structure FitW (x : Int) : Prop where
  lo : -170141183460469231731687303715884105728 ≤ x
  hi : x < 170141183460469231731687303715884105728
theorem lo_rng (x : Int) : 0 ≤ loW x ∧ loW x < 18446744073709551616 := by unfold loW; omega
theorem hi_rng {x : Int} (h : FitW x) : -9223372036854775808 ≤ hiW x ∧ hiW x < 9223372036854775808 := by
  obtain ⟨a, b⟩ := h
  unfold hiW; omega
theorem hi_neg (x : Int) : (hiW x < 0) ↔ x < 0 := by unfold hiW; omega
def absW (x : Int) : Int := if x < 0 then -x else x
theorem absW_nonneg (x : Int) : 0 ≤ absW x := by unfold absW; split <;> omega
theorem absW_mul (a b : Int) : a * b = if decide (a < 0) != decide (b < 0) then -(absW a * absW b) else absW a * absW b := by
  unfold absW
  by_cases ha : a < 0 <;> by_cases hb : b < 0 <;> simp [ha, hb, Int.neg_mul, Int.mul_neg]
theorem mul_u {x y : Int} (hx0 : 0 ≤ x) (hx : x ≤ 9223372036854775808) (hy0 : 0 ≤ y) (hy : y ≤ 9223372036854775808) : 0 ≤ x * y ∧ x * y ≤ 85070591730234615865843651857942052864 := by
  refine ⟨Int.mul_nonneg hx0 hy0, ?_⟩
  have h1 := Int.mul_le_mul_of_nonneg_right hx hy0
  have h2 := Int.mul_le_mul_of_nonneg_left hy (show (0 : Int) ≤ 9223372036854775808 by omega)
  omega
theorem mul_fit {a b : Int} (ha0 : -9223372036854775808 ≤ a) (ha : a ≤ 9223372036854775807) (hb0 : -9223372036854775808 ≤ b) (hb : b ≤ 9223372036854775807) : FitW (a * b) := by
  have h := mul_u (absW_nonneg a) (show absW a ≤ 9223372036854775808 by unfold absW; split <;> omega) (absW_nonneg b) (show absW b ≤ 9223372036854775808 by unfold absW; split <;> omega)
  rw [absW_mul]
  refine ⟨?_, ?_⟩ <;> split <;> omega
/-- one bit more -/
theorem div_one {M b D : Nat} (hb : b < 2) (hD : 0 < D) (h : D ≤ 2 * (M % D) + b) : (2 * M + b) / D = 2 * (M / D) + 1 ∧ (2 * M + b) % D = 2 * (M % D) + b - D := by
  have hr := Nat.mod_lt M hD
  have hM := Nat.div_add_mod M D
  generalize M / D = q at *
  generalize M % D = r at *
  subst hM
  have e : 2 * (D * q + r) + b = D * (2 * q + 1) + (2 * r + b - D) := by
    rw [Nat.mul_add D, Nat.mul_left_comm D 2 q]; omega
  rw [e, Nat.mul_add_div hD, Nat.div_eq_of_lt (by omega), Nat.mul_add_mod, Nat.mod_eq_of_lt (by omega)]
  exact ⟨rfl, rfl⟩
theorem div_zero {M b D : Nat} (hb : b < 2) (hD : 0 < D) (h : ¬ D ≤ 2 * (M % D) + b) : (2 * M + b) / D = 2 * (M / D) ∧ (2 * M + b) % D = 2 * (M % D) + b := by
  have hM := Nat.div_add_mod M D
  generalize M / D = q at *
  generalize M % D = r at *
  subst hM
  have e : 2 * (D * q + r) + b = D * (2 * q) + (2 * r + b) := by
    rw [Nat.mul_left_comm D 2 q]; omega
  rw [e, Nat.mul_add_div hD, Nat.div_eq_of_lt (by omega), Nat.mul_add_mod, Nat.mod_eq_of_lt (by omega)]
  exact ⟨rfl, rfl⟩
theorem bit_at (N i : Nat) : N / 2 ^ i = 2 * (N / 2 ^ (i + 1)) + N / 2 ^ i % 2 := by
  have e : N / 2 ^ (i + 1) = N / 2 ^ i / 2 := by rw [Nat.pow_succ, Nat.div_div_eq_div_mul]
  rw [e]
  omega
theorem bit_lo {N i : Nat} (h : i < 64) : N % 18446744073709551616 / 2 ^ i % 2 = N / 2 ^ i % 2 := by
  have e : (18446744073709551616 : Nat) = 2 ^ i * 2 ^ (64 - i) := by
    rw [← Nat.pow_add, show i + (64 - i) = 64 by omega]
  rw [e, Nat.mod_mul_right_div_self, Nat.mod_mod_of_dvd]
  exact ⟨2 ^ (63 - i), by rw [Nat.mul_comm, ← Nat.pow_succ, show 64 - i = 63 - i + 1 by omega]⟩
theorem bit_hi {N i : Nat} (h : 64 ≤ i) : N / 18446744073709551616 / 2 ^ (i - 64) % 2 = N / 2 ^ i % 2 := by
  have e : (2 : Nat) ^ i = 18446744073709551616 * 2 ^ (i - 64) := by
    rw [show (18446744073709551616 : Nat) = 2 ^ 64 by decide, ← Nat.pow_add, show 64 + (i - 64) = i by omega]
  rw [e, Nat.div_div_eq_div_mul]
/-- what the bits above i leave -/
theorem top_small {N i : Nat} (h : N < 340282366920938463463374607431768211456) : N / 2 ^ (i + 1) < 170141183460469231731687303715884105728 := by
  have e : N / 2 ^ (i + 1) = N / 2 / 2 ^ i := by rw [Nat.pow_succ, Nat.mul_comm, Nat.div_div_eq_div_mul]
  have := Nat.div_le_self (N / 2) (2 ^ i)
  omega
end Go.Proofs.YtplgdlooglnpmaaGreat
namespace Go.Proofs.YtplgdlooglnpmaaGreat
set_option linter.unusedVariables false
open Go.RowKit
/-- the cells of block b hold these values, and may be written -/
structure Blk (vs : List Value) (b : Nat) (W : World) : Prop where
  lt : b < W.heap.size
  c : ∀ i v, vs[i]? = some v → W.cell? ⟨b, i, none⟩ = some v
  f : ∀ i v, vs[i]? = some v → W.frozen? ⟨b, i, none⟩ = false
theorem Blk.below {vs : List Value} {b : Nat} {W w' : World} (h : Blk vs b W) (hb : Below W.heap.size W w') : Blk vs b w' :=
  ⟨Nat.lt_of_lt_of_le h.lt hb.size, fun i v e => (hb.cell (p := ⟨b, i, none⟩) h.lt).trans (h.c i v e), fun i v e => (hb.frozen (p := ⟨b, i, none⟩) h.lt).trans (h.f i v e)⟩
theorem Blk.same {vs : List Value} {b : Nat} {W w' : World} (h : Blk vs b W) (hk : w'.heap[b]? = W.heap[b]?) (hs : W.heap.size ≤ w'.heap.size) : Blk vs b w' :=
  ⟨Nat.lt_of_lt_of_le h.lt hs, fun i v e => (World.cell?_of_block (w := W) (a := ⟨b, i, none⟩) hk).trans (h.c i v e), fun i v e => (World.frozen?_of_block (w := W) (a := ⟨b, i, none⟩) hk).trans (h.f i v e)⟩
theorem Blk.alloc {vs : List Value} {b : Nat} {W : World} (h : Blk vs b W) (o : Obj) : Blk vs b (W.alloc o) := h.below ((Below.refl _ _).alloc (Nat.le_refl _) o)
theorem Blk.new (vs : Array Value) (w : World) (t : TypeId) : Blk vs.toList w.heap.size (w.alloc (.cells vs t)) :=
  ⟨by simp, fun i v e => by
      rw [World.cell?_alloc_at _ _ _ _ rfl]
      simpa using e, fun i v e => by go_simp⟩
theorem Blk.of {vs : Array Value} {b : Nat} {w : World} {t : TypeId} (e : b = w.heap.size) : Blk vs.toList b (w.alloc (.cells vs t)) := by subst e; exact Blk.new vs w t
theorem blk_other {vs : List Value} {b n j : Nat} {W : World} (h : Blk vs b W) (hn : n ≠ b) (u : Value) : Blk vs b (W.setCell ⟨n, j, none⟩ u) :=
  h.same (Below.heap_setCell _ _ _ _ (Ne.symm hn)) (by simp [World.setCell])
theorem blk_set {vs : List Value} {b j : Nat} {W : World} (h : Blk vs b W) (hj : j < vs.length) (u : Value) : Blk (vs.set j u) b (W.setCell ⟨b, j, none⟩ u) := by
  refine ⟨by have := h.lt; simpa [World.setCell] using this, fun i v e => ?_, fun i v e => ?_⟩
  · by_cases q : i = j
    · subst q
      rw [List.getElem?_set_self hj] at e
      cases e
      exact World.cell?_setCell_same' W _ _ (by rw [h.c i _ (List.getElem?_eq_getElem hj)]; rfl)
    · rw [List.getElem?_set_ne (fun e => q e.symm)] at e
      rw [World.cell?_setCell_other]
      · exact h.c i v e
      · intro e'; injection e' with _ e' _; exact q e'.symm
  · rw [World.frozen?_setCell]
    by_cases q : i = j
    · subst q
      exact h.f i _ (List.getElem?_eq_getElem hj)
    · rw [List.getElem?_set_ne (fun e => q e.symm)] at e
      exact h.f i v e
/-- a new block of a region whose order is drawn: laid before a call, kept by later ones, written at last -/
theorem kv_new {w W w9 : World} {vs : Array Value} {t : TypeId} (h : Below w.heap.size w W) (hc : Below (W.alloc (.cells vs t)).heap.size (W.alloc (.cells vs t)) w9) :
    w.heap.size ≤ W.heap.size ∧ Blk vs.toList W.heap.size w9 := ⟨h.size, (Blk.new vs W t).below hc⟩
theorem kv_old {w W w9 : World} {vs : List Value} {b : Nat} (h : w.heap.size ≤ b ∧ Blk vs b W) (hc : Below W.heap.size W w9) : w.heap.size ≤ b ∧ Blk vs b w9 := ⟨h.1, h.2.below hc⟩
theorem far2 {m b c : Nat} {W : World} (h : m ≤ c) (hb : b < m) (u v : Value) (i : Nat) : ((W.setCell ⟨c, 0, none⟩ u).setCell ⟨c, 1, none⟩ v).cell? ⟨b, i, none⟩ = W.cell? ⟨b, i, none⟩ :=
  have hne : c ≠ b := by omega
  (World.cell?_setCell_far _ _ _ _ hne).trans (World.cell?_setCell_far _ _ _ _ hne)
theorem below_drew_alloc (w : World) (o : Obj) : Below w.heap.size w (w.alloc o).drew :=
  have h := (Below.refl w.heap.size w).alloc (Nat.le_refl _) o
  ⟨h.os, h.tape, h.output, h.size, h.block⟩
theorem kv_drew {w w9 : World} {vs : Array Value} {t : TypeId} (hc : Below (w.alloc (.cells vs t)).drew.heap.size (w.alloc (.cells vs t)).drew w9) :
    w.heap.size ≤ w.heap.size ∧ Blk vs.toList w.heap.size w9 :=
  ⟨Nat.le_refl _, ((Blk.new vs w t).same (w' := (w.alloc (.cells vs t)).drew) rfl (Nat.le_refl _)).below hc⟩
end Go.Proofs.YtplgdlooglnpmaaGreat
namespace Go.Proofs.YtplgdlooglnpmaaGreat
set_option linter.unusedVariables false
open Go.RowKit
theorem bset2 {B n : Nat} {w w1 : World} (h : Below B w w1) (hB : B ≤ n) (u v : Value) : Below B w ((w1.setCell ⟨n, 0, none⟩ u).setCell ⟨n, 1, none⟩ v) :=
  (h.setCell (p := ⟨n, 0, none⟩) hB u).setCell (p := ⟨n, 1, none⟩) hB v
theorem ret_iw {k : IntKind} {a b : Int} (h : a = b) : Ending.returned (.int k a) = .returned (.int k b) := by rw [h]
/-- the value of a number of 128 bits -/
def wv (x : Int) : Value := .agg #[.int .i64 (hiW x), .int .u64 (loW x)]
theorem add64 (x y c : Int) (hx : 0 ≤ x) (hy : 0 ≤ y) (hc0 : 0 ≤ c) (hc : c ≤ 1) (w : World) : (callFunc 121 #[.int .u64 x, .int .u64 y, .int .u64 c]).run Tryz.prog w =
    .ok (.value (.tuple #[.int .u64 ((x + y + c) % 18446744073709551616), .int .u64 ((x + y + c) / 18446744073709551616)])) w := by
  obtain ⟨x, rfl⟩ := Int.eq_ofNat_of_zero_le hx
  obtain ⟨y, rfl⟩ := Int.eq_ofNat_of_zero_le hy
  obtain ⟨c, rfl⟩ := Int.eq_ofNat_of_zero_le hc0
  refine (Tryz.bits_Add64 x y c (by omega) w).trans ?_
  congr 5 <;> omega
/-- the borrow -/
def bor (x y b : Int) : Int := if x < y + b then 1 else 0
theorem bor_rng (x y b : Int) : 0 ≤ bor x y b ∧ bor x y b ≤ 1 := by unfold bor; split <;> omega
theorem sub64 (x y b : Int) (hx : 0 ≤ x) (hy : 0 ≤ y) (hy' : y < 18446744073709551616) (hb0 : 0 ≤ b) (hb : b ≤ 1) (w : World) : (callFunc 107 #[.int .u64 x, .int .u64 y, .int .u64 b]).run Tryz.prog w =
    .ok (.value (.tuple #[.int .u64 ((x - y - b) % 18446744073709551616), .int .u64 (bor x y b)])) w := by
  unfold bor
  obtain ⟨x, rfl⟩ := Int.eq_ofNat_of_zero_le hx
  obtain ⟨y, rfl⟩ := Int.eq_ofNat_of_zero_le hy
  obtain ⟨b, rfl⟩ := Int.eq_ofNat_of_zero_le hb0
  have e1 : (((x + 18446744073709551616 - y - b) % 18446744073709551616 : Nat) : Int) = ((x : Int) - y - b) % 18446744073709551616 := by omega
  have e2 : ((if x < y + b then 1 else 0 : Nat) : Int) = if (x : Int) < y + b then 1 else 0 := by split <;> split <;> omega
  rw [← e1, ← e2]
  exact Tryz.bits_Sub64 x y b (by omega) w
theorem wabs_any (a : Int) (w : World) (h0 : -9223372036854775808 ≤ a) (h1 : a ≤ 9223372036854775807) :
    Calls Tryz.prog 86 #[.int .i64 a] w fun e w' => e = .returned (.int .u64 (absW a)) ∧ w = w' := by
  by_cases h : a < 0
  · have g : decide (a < 0) = true := by simpa using h
    go_enter Tryz.func86, Tryz.ntmps86
    go_wp2
    go_ret
    refine ⟨ret_iw ?_, rfl⟩
    unfold absW
    rw [if_pos (by omega)]
    simp only [IntKind.wrap_u64]
    omega
  · have g : decide (a < 0) = false := by simpa using h
    go_enter Tryz.func86, Tryz.ntmps86
    go_wp2
    go_ret
    refine ⟨ret_iw ?_, rfl⟩
    unfold absW
    rw [if_neg (by omega)]
theorem mul64_int (x y : Int) (hx0 : 0 ≤ x) (hx : x < 18446744073709551616) (hy0 : 0 ≤ y) (hy : y < 18446744073709551616) (w : World) :
    Calls Tryz.prog 85 #[.int .u64 x, .int .u64 y] w fun e w' => e = .returned (.tuple #[.int .u64 (hiW (x * y)), .int .u64 (loW (x * y))]) ∧ w = w' := by
  obtain ⟨x, rfl⟩ := Int.eq_ofNat_of_zero_le hx0
  obtain ⟨y, rfl⟩ := Int.eq_ofNat_of_zero_le hy0
  refine (Tryz.bits_Mul64 x y (by omega) (by omega) w).mono fun e w' ⟨he, hw⟩ => ⟨?_, hw.symm⟩
  rw [he]
  unfold hiW loW
  rw [← Int.natCast_mul]
  rfl
def sgn (neg : Bool) (n : Int) : Int := if neg = true then -n else n
set_option maxHeartbeats 4000000 in
theorem join_any (n : Int) (neg : Bool) (w : World) (h0 : 0 ≤ n) (h1 : n < 170141183460469231731687303715884105728) :
    Calls Tryz.prog 87 #[.agg #[.int .u64 (hiW n), .int .u64 (loW n)], .bool neg] w fun e w' => e = .returned (.tuple #[wv (sgn neg n), .bool true]) ∧ Below w.heap.size w w' := by
  have a0 : 0 ≤ hiW n := by unfold hiW; omega
  have a1 : hiW n < 9223372036854775808 := by unfold hiW; omega
  obtain ⟨b0, b1⟩ := lo_rng n
  cases neg
  · have g : decide ((9223372036854775808 : Int) ≤ hiW n) = false := by simp; omega
    have e1 : IntKind.i64.wrap (hiW n) = hiW n := IntWalk.i64_in _ (by omega)
    go_enter Tryz.func87, Tryz.ntmps87
    go_wp2
    refine bodyPost_ret (v := .tuple #[.agg #[.int .i64 (hiW n), .int .u64 (loW n)], .bool true]) (by simp [results, Tryz.results87, go_sem]) rfl ⟨rfl, ?_⟩
    exact ((Below.refl _ _).alloc (Nat.le_refl _) _).alloc (by simp) _
  · have g1 : decide ((9223372036854775808 : Int) < hiW n) = false := by simp; omega
    have g2 : (hiW n == 9223372036854775808) = false := by simp; omega
    have S1 := fun w => sub64 0 (loW n) 0 (by omega) b0 b1 (by omega) (by omega) w
    have S2 := fun w => sub64 0 (hiW n) (bor 0 (loW n) 0) (by omega) a0 (by omega) (bor_rng _ _ _).1 (bor_rng _ _ _).2 w
    have E1 : (0 - loW n - 0) % 18446744073709551616 = loW (-n) := by unfold loW; omega
    have E2 : IntKind.i64.wrap ((0 - hiW n - bor 0 (loW n) 0) % 18446744073709551616) = hiW (-n) := by
      unfold bor hiW loW
      simp only [IntKind.wrap, IntKind.bits, IntKind.signed]
      split <;> simp <;> omega
    rw [E1] at S1
    generalize bor 0 (loW n) 0 = bo at *
    generalize (0 - hiW n - bo) % 18446744073709551616 = hh at *
    go_enter Tryz.func87, Tryz.ntmps87
    go_wp2_with (first | simp only [S1] | simp only [S2])
    refine bodyPost_ret (v := .tuple #[.agg #[.int .i64 (hiW (-n)), .int .u64 (loW (-n))], .bool true]) (by simp [results, Tryz.results87, go_sem]) rfl ⟨rfl, ?_⟩
    exact ((Below.refl _ _).alloc (Nat.le_refl _) _).alloc (by simp) _
set_option maxHeartbeats 4000000 in
set_option maxRecDepth 100000 in
theorem wmul_any (a b : Int) (w : World) (ha0 : -9223372036854775808 ≤ a) (ha1 : a ≤ 9223372036854775807) (hb0 : -9223372036854775808 ≤ b) (hb1 : b ≤ 9223372036854775807) :
    Calls Tryz.prog 55 #[.int .i64 a, .int .i64 b] w fun e w' => e = .returned (wv (a * b)) ∧ Below w.heap.size w w' := by
  have A1 : absW a ≤ 9223372036854775808 := by unfold absW; split <;> omega
  have B1 : absW b ≤ 9223372036854775808 := by unfold absW; split <;> omega
  obtain ⟨m0, m1⟩ := mul_u (absW_nonneg a) A1 (absW_nonneg b) B1
  have M := Lib.hid fun w => mul64_int (absW a) (absW b) (absW_nonneg a) (by omega) (absW_nonneg b) (by omega) w
  have AA := Lib.hid fun w => wabs_any a w ha0 ha1
  have AB := Lib.hid fun w => wabs_any b w hb0 hb1
  have E := Lib.hid (absW_mul a b)
  have J := Lib.hid fun w => join_any (absW a * absW b) (decide (a < 0) != decide (b < 0)) w m0 (by omega)
  generalize absW a * absW b = p at *
  have K0 := Lib.hid (Blk.new #[.int .i64 0, .int .u64 0] w 49)
  have HB0 := Lib.hid ((Below.refl w.heap.size w).alloc (Nat.le_refl _) (.cells #[.int .i64 0, .int .u64 0] 49))
  obtain ⟨sg, gs⟩ : ∃ sg, (decide (a < 0) == decide (b < 0)) = sg := ⟨_, rfl⟩
  have E2 : a * b = sgn (!sg) p := by rw [E.out, ← gs]; rfl
  have J2 : Hid (∀ w, Calls Tryz.prog 87 #[.agg #[.int .u64 (hiW p), .int .u64 (loW p)], .bool (!sg)] w fun e w' => e = .returned (.tuple #[wv (sgn (!sg) p), .bool true]) ∧ Below w.heap.size w w') := by rw [← gs]; exact J
  rw [E2]
  clear E E2 J
  obtain ⟨r, hr⟩ : ∃ r, sgn (!sg) p = r := ⟨_, rfl⟩
  rw [hr] at J2 ⊢
  go_enter Tryz.func55, Tryz.ntmps55
  go_wp2_with fail
  generalize w.alloc (.cells #[.int .i64 0, .int .u64 0] 49) = w0 at *
  refine (AA.out _).mono ?_
  rintro e w1 ⟨rfl, rfl⟩
  go_wp2_with fail
  refine (AB.out _).mono ?_
  rintro e w1 ⟨rfl, rfl⟩
  go_wp2_with fail
  refine (M.out _).mono ?_
  rintro e w1 ⟨rfl, rfl⟩
  go_wp2_with fail
  refine (J2.out _).mono ?_
  rintro e w1 ⟨rfl, hb1⟩
  have K1 := K0.out.below hb1
  have HB1 := Lib.hid (HB0.out.trans (hb1.mono HB0.out.size))
  unfold wv
  have c0 := K1.c 0 _ rfl
  have c1 := K1.c 1 _ rfl
  have f0 := K1.f 0 _ rfl
  have f1 := K1.f 1 _ rfl
  have z0 := K1.lt
  have HK1 := Lib.hid K1
  clear hb1 K1 gs hr
  go_wp2
  have K2 := (blk_set (blk_set HK1.out (j := 0) (by simp) (.int .i64 (hiW r))) (j := 1) (by simp) (.int .u64 (loW r))).alloc (.cells #[.int .i64 (hiW r), .int .u64 (loW r)] 49)
  have d0 := K2.c 0 _ rfl
  have d1 := K2.c 1 _ rfl
  refine bodyPost_ret (v := .agg #[.int .i64 (hiW r), .int .u64 (loW r)]) (by simp [results, Tryz.results55, go_sem, d0, d1]) rfl ⟨rfl, ?_⟩
  exact (bset2 HB1.out (Nat.le_refl _) _ _).alloc (by have := HB1.out.size; simp [World.setCell]; omega) _
theorem add_hi {x y : Int} (h : FitW (x + y)) :
    IntKind.i64.wrap ((IntKind.u64.wrap (hiW x) + IntKind.u64.wrap (hiW y) + (loW x + loW y + 0) / 18446744073709551616) % 18446744073709551616) = hiW (x + y) := by
  obtain ⟨a, b⟩ := h
  unfold hiW loW
  simp only [IntKind.wrap, IntKind.bits, IntKind.signed]
  simp
  omega
theorem add_lo (x y : Int) : (loW x + loW y + 0) % 18446744073709551616 = loW (x + y) := by unfold loW; omega
set_option maxHeartbeats 4000000 in
set_option maxRecDepth 100000 in
theorem wadd_any (x y : Int) (w : World) (hx : FitW x) (hy : FitW y) (hs : FitW (x + y)) :
    Calls Tryz.prog 84 #[wv x, wv y] w fun e w' => e = .returned (.tuple #[wv (x + y), .bool true]) ∧ Below w.heap.size w w' := by
  obtain ⟨p0, p1⟩ := lo_rng x
  obtain ⟨q0, q1⟩ := lo_rng y
  have S1 := fun w => add64 (loW x) (loW y) 0 p0 q0 (by omega) (by omega) w
  have S2 := fun w => add64 (IntKind.u64.wrap (hiW x)) (IntKind.u64.wrap (hiW y)) ((loW x + loW y + 0) / 18446744073709551616) (by rw [IntKind.wrap_u64]; omega) (by rw [IntKind.wrap_u64]; omega) (by omega) (by omega) w
  have E1 := add_hi hs
  rw [add_lo x y] at S1
  have C1 : (decide (hiW x < 0) == decide (hiW y < 0)) = false ∨ ((decide (hiW x < 0) == decide (hiW y < 0)) = true ∧ (decide (hiW (x + y) < 0) == decide (hiW x < 0)) = true) := by
    obtain ⟨a, b⟩ := hs
    by_cases h1 : x < 0 <;> by_cases h2 : y < 0 <;> simp [hi_neg, h1, h2] <;> omega
  generalize (loW x + loW y + 0) / 18446744073709551616 = c at *
  generalize (IntKind.u64.wrap (hiW x) + IntKind.u64.wrap (hiW y) + c) % 18446744073709551616 = hh at *
  have HS := Lib.hid hs
  clear hx hy hs
  unfold wv
  rcases C1 with g | ⟨g, g'⟩
  all_goals
    go_enter Tryz.func84, Tryz.ntmps84
    go_wp2_with (first | simp only [S1] | simp only [S2])
    refine bodyPost_ret (v := .tuple #[.agg #[.int .i64 (hiW (x + y)), .int .u64 (loW (x + y))], .bool true]) (by simp [results, Tryz.results84, go_sem]) rfl ⟨rfl, ?_⟩
    exact (((Below.refl _ _).alloc (Nat.le_refl _) _).alloc (by simp) _).alloc (by simp; try omega) _
set_option maxHeartbeats 4000000 in
theorem wint_any (x : Int) (w : World) (h0 : -9223372036854775808 ≤ x) (h1 : x < 9223372036854775808) :
    Calls Tryz.prog 81 #[wv x] w fun e w' => e = .returned (.tuple #[.int .i64 x, .bool true]) ∧ Below w.heap.size w w' := by
  have E1 : IntKind.i64.wrap (loW x) = x := by unfold loW; simp [IntKind.wrap, IntKind.bits, IntKind.signed]; omega
  have g : (hiW x == x / 9223372036854775808) = true := by unfold hiW; simp; omega
  unfold wv
  go_enter Tryz.func81, Tryz.ntmps81
  go_wp2
  go_ret2
  exact ⟨rfl, (Below.refl _ _).alloc (Nat.le_refl _) _⟩
theorem wint_out (x : Int) (w : World) (hx : FitW x) (h : x < -9223372036854775808 ∨ 9223372036854775808 ≤ x) :
    Calls Tryz.prog 81 #[wv x] w fun e w' => e = .returned (.tuple #[.int .i64 0, .bool false]) ∧ Below w.heap.size w w' := by
  obtain ⟨t, ht⟩ : ∃ t, IntKind.i64.wrap (loW x) = t := ⟨_, rfl⟩
  have g : (hiW x == t / 9223372036854775808) = false := by
    obtain ⟨a, b⟩ := hx
    rw [← ht]
    unfold hiW loW; simp [IntKind.wrap, IntKind.bits, IntKind.signed]; omega
  unfold wv
  go_enter Tryz.func81, Tryz.ntmps81
  go_wp2
  go_ret2
  exact ⟨rfl, (Below.refl _ _).alloc (Nat.le_refl _) _⟩
end Go.Proofs.YtplgdlooglnpmaaGreat
namespace Go.Proofs.YtplgdlooglnpmaaGreat
set_option linter.unusedVariables false
open Go.RowKit
set_option maxHeartbeats 4000000 in
theorem wof_any (a : Int) (w : World) (h0 : -9223372036854775808 ≤ a) (h1 : a ≤ 9223372036854775807) :
    Calls Tryz.prog 80 #[.int .i64 a] w fun e w' => e = .returned (wv a) ∧ Below w.heap.size w w' := by
  have E1 : a / 9223372036854775808 = hiW a := by unfold hiW; omega
  have E2 : IntKind.u64.wrap a = loW a := by rw [IntKind.wrap_u64]; rfl
  go_enter Tryz.func80, Tryz.ntmps80
  go_wp2
  refine bodyPost_ret (v := .agg #[.int .i64 (hiW a), .int .u64 (loW a)]) (by simp [results, Tryz.results80, go_sem]) rfl ⟨rfl, ?_⟩
  exact (Below.refl _ _).alloc (Nat.le_refl _) _
theorem sub_hi {x y : Int} (h : FitW (x - y)) :
    IntKind.i64.wrap ((IntKind.u64.wrap (hiW x) - IntKind.u64.wrap (hiW y) - bor (loW x) (loW y) 0) % 18446744073709551616) = hiW (x - y) := by
  obtain ⟨a, b⟩ := h
  rw [IntKind.wrap_u64, IntKind.wrap_u64]
  have e : ∀ z : Int, IntKind.i64.wrap (z % 18446744073709551616) = if 9223372036854775808 ≤ z % 18446744073709551616 then z % 18446744073709551616 - 18446744073709551616 else z % 18446744073709551616 := by
    intro z
    simp [IntKind.wrap, IntKind.bits, IntKind.signed]
  rw [e]
  unfold bor hiW loW
  by_cases c : x % 18446744073709551616 < y % 18446744073709551616 + 0
  · rw [if_pos c]
    split <;> omega
  · rw [if_neg c]
    split <;> omega
theorem sub_lo (x y : Int) : (loW x - loW y - 0) % 18446744073709551616 = loW (x - y) := by unfold loW; omega
set_option maxHeartbeats 4000000 in
set_option maxRecDepth 100000 in
theorem wsub_any (x y : Int) (w : World) (hx : FitW x) (hy : FitW y) (hs : FitW (x - y)) :
    Calls Tryz.prog 76 #[wv x, wv y] w fun e w' => e = .returned (.tuple #[wv (x - y), .bool true]) ∧ Below w.heap.size w w' := by
  obtain ⟨p0, p1⟩ := lo_rng x
  obtain ⟨q0, q1⟩ := lo_rng y
  have S1 := fun w => sub64 (loW x) (loW y) 0 p0 q0 q1 (by omega) (by omega) w
  have S2 := fun w => sub64 (IntKind.u64.wrap (hiW x)) (IntKind.u64.wrap (hiW y)) (bor (loW x) (loW y) 0) (by rw [IntKind.wrap_u64]; omega) (by rw [IntKind.wrap_u64]; omega) (by rw [IntKind.wrap_u64]; omega) (bor_rng _ _ _).1 (bor_rng _ _ _).2 w
  have E1 := sub_hi hs
  rw [sub_lo x y] at S1
  have C1 : (decide (hiW x < 0) == decide (hiW y < 0)) = true ∨ ((decide (hiW x < 0) == decide (hiW y < 0)) = false ∧ (decide (hiW (x - y) < 0) == decide (hiW x < 0)) = true) := by
    obtain ⟨a, b⟩ := hs
    by_cases h1 : x < 0 <;> by_cases h2 : y < 0 <;> simp [hi_neg, h1, h2] <;> omega
  generalize bor (loW x) (loW y) 0 = c at *
  generalize (IntKind.u64.wrap (hiW x) - IntKind.u64.wrap (hiW y) - c) % 18446744073709551616 = hh at *
  clear hx hy hs
  unfold wv
  rcases C1 with g | ⟨g, g'⟩
  all_goals
    go_enter Tryz.func76, Tryz.ntmps76
    go_wp2_with (first | simp only [S1] | simp only [S2])
    refine bodyPost_ret (v := .tuple #[.agg #[.int .i64 (hiW (x - y)), .int .u64 (loW (x - y))], .bool true]) (by simp [results, Tryz.results76, go_sem]) rfl ⟨rfl, ?_⟩
    exact (((Below.refl _ _).alloc (Nat.le_refl _) _).alloc (by simp) _).alloc (by simp; try omega) _
end Go.Proofs.YtplgdlooglnpmaaGreat
namespace Go.Proofs.YtplgdlooglnpmaaGreat
set_option linter.unusedVariables false
theorem or_word {x b : Int} (h0 : 0 ≤ x) (h1 : x < 18446744073709551616) (hb0 : 0 ≤ b) (hb : b < 2) :
    bits .or .u64 (IntKind.u64.wrap (x * 2)) b = (x * 2) % 18446744073709551616 + b := by
  obtain ⟨x, rfl⟩ := Int.eq_ofNat_of_zero_le h0
  obtain ⟨b, rfl⟩ := Int.eq_ofNat_of_zero_le hb0
  rw [show IntKind.u64.wrap ((x : Int) * 2) = ((2 * x % 18446744073709551616 : Nat) : Int) by rw [IntKind.wrap_u64]; omega,
    bits_or_u64_nat _ _ (by omega) (by omega), or_bit x b (by omega)]
  omega
theorem tw_hi {r b : Int} (h0 : 0 ≤ r) (h1 : r < 170141183460469231731687303715884105728) (hb0 : 0 ≤ b) (hb : b < 2) :
    bits .or .u64 (IntKind.u64.wrap (hiW r * 2)) (loW r / 9223372036854775808) = hiW (2 * r + b) := by
  have a0 : 0 ≤ hiW r := by unfold hiW; omega
  have a1 : hiW r < 9223372036854775808 := by unfold hiW; omega
  obtain ⟨c0, c1⟩ := lo_rng r
  rw [or_word a0 (by omega) (by omega) (by omega)]
  unfold hiW loW at *
  omega
theorem tw_lo {r b : Int} (h0 : 0 ≤ r) (hb0 : 0 ≤ b) (hb : b < 2) : bits .or .u64 (IntKind.u64.wrap (loW r * 2)) b = loW (2 * r + b) := by
  obtain ⟨c0, c1⟩ := lo_rng r
  rw [or_word c0 c1 hb0 hb]
  unfold loW at *
  omega
/-- what is left of the dividend above bit k, and its quotient and remainder -/
def qD (N D k : Nat) : Nat := N / 2 ^ k / D
def rD (N D k : Nat) : Nat := N / 2 ^ k % D
def bD (N k : Nat) : Nat := N / 2 ^ k % 2
theorem bD_lt (N k : Nat) : bD N k < 2 := Nat.mod_lt _ (by decide)
theorem qr_top {N D : Nat} (h : N < 340282366920938463463374607431768211456) : qD N D 128 = 0 ∧ rD N D 128 = 0 := by
  have e : N / 2 ^ 128 = 0 := Nat.div_eq_of_lt (by omega)
  unfold qD rD
  rw [e]
  simp
theorem qr_one {N D k : Nat} (hD : 0 < D) (h : D ≤ 2 * rD N D (k + 1) + bD N k) : qD N D k = 2 * qD N D (k + 1) + 1 ∧ rD N D k = 2 * rD N D (k + 1) + bD N k - D := by
  unfold qD rD at *
  rw [bit_at N k]
  exact div_one (bD_lt N k) hD h
theorem qr_zero {N D k : Nat} (hD : 0 < D) (h : ¬ D ≤ 2 * rD N D (k + 1) + bD N k) : qD N D k = 2 * qD N D (k + 1) ∧ rD N D k = 2 * rD N D (k + 1) + bD N k := by
  unfold qD rD at *
  rw [bit_at N k]
  exact div_zero (bD_lt N k) hD h
theorem qr_end (N D : Nat) : qD N D 0 = N / D ∧ rD N D 0 = N % D := by
  unfold qD rD
  simp
theorem rD_lt (N k : Nat) {D : Nat} (h : 0 < D) : rD N D k < D := Nat.mod_lt _ h
theorem qD_lt {N D k : Nat} (h : N < 340282366920938463463374607431768211456) : qD N D (k + 1) < 170141183460469231731687303715884105728 :=
  Nat.lt_of_le_of_lt (Nat.div_le_self _ _) (top_small h)
theorem bit_lo' {N i : Nat} (h : i < 64) : loW (N : Int) / (2 ^ i : Nat) % 2 = (bD N i : Int) := by
  have e : loW (N : Int) = ((N % 18446744073709551616 : Nat) : Int) := by unfold loW; omega
  rw [e]
  unfold bD
  rw [← bit_lo h]
  rfl
theorem bit_hi' {N i : Nat} (h : 64 ≤ i) : hiW (N : Int) / (2 ^ (i - 64) : Nat) % 2 = (bD N i : Int) := by
  have e : hiW (N : Int) = ((N / 18446744073709551616 : Nat) : Int) := by unfold hiW; omega
  rw [e]
  unfold bD
  rw [← bit_hi h]
  rfl
/-- two sizes compared word by word -/
def cmpI (x y : Int) : Int := if x < y then -1 else if y < x then 1 else 0
theorem cmp_words {x y : Int} : cmpI x y = if hiW x = hiW y then cmpI (loW x) (loW y) else cmpI (hiW x) (hiW y) := by
  unfold cmpI hiW loW
  split <;> split <;> (try split) <;> (try split) <;> (try split) <;> omega
end Go.Proofs.YtplgdlooglnpmaaGreat
namespace Go.Proofs.YtplgdlooglnpmaaGreat
set_option linter.unusedVariables false
open Go.RowKit
/-- the value of a size -/
def usz (n : Int) : Value := .agg #[.int .u64 (hiW n), .int .u64 (loW n)]
theorem retb {a b : Bool} (h : a = b) : Ending.returned (.bool a) = .returned (.bool b) := by rw [h]
set_option maxHeartbeats 4000000 in
theorem wsplit_any (x : Int) (w : World) (h : FitW x) :
    Calls Tryz.prog 129 #[wv x] w fun e w' => e = .returned (.tuple #[usz (absW x), .bool (decide (x < 0))]) ∧ Below w.heap.size w w' := by
  obtain ⟨b0, b1⟩ := lo_rng x
  obtain ⟨a0, a1⟩ := hi_rng h
  unfold wv usz
  by_cases q : x < 0
  · have g : decide (0 ≤ hiW x) = false := by have := (hi_neg x).2 q; simp; omega
    have g' : decide (hiW x < 0) = true := by have := (hi_neg x).2 q; simp; omega
    have EX : decide (x < 0) = true := by simpa using q
    have S1 := fun w => sub64 0 (loW x) 0 (by omega) b0 b1 (by omega) (by omega) w
    have S2 := fun w => sub64 0 (IntKind.u64.wrap (hiW x)) (bor 0 (loW x) 0) (by omega) (by rw [IntKind.wrap_u64]; omega) (by rw [IntKind.wrap_u64]; omega) (bor_rng _ _ _).1 (bor_rng _ _ _).2 w
    have E1 : (0 - loW x - 0) % 18446744073709551616 = loW (absW x) := by unfold absW loW; split <;> omega
    have E2 : (0 - IntKind.u64.wrap (hiW x) - bor 0 (loW x) 0) % 18446744073709551616 = hiW (absW x) := by
      obtain ⟨f0, f1⟩ := h
      rw [IntKind.wrap_u64]
      unfold bor hiW loW absW
      split <;> (try split) <;> omega
    rw [E1] at S1
    rw [E2] at S2
    rw [EX]
    generalize bor 0 (loW x) 0 = bo at *
    clear E1 E2 EX h q
    generalize absW x = r at *
    go_enter Tryz.func129, Tryz.ntmps129
    go_wp2_with (first | simp only [S1] | simp only [S2])
    refine bodyPost_ret (v := .tuple #[.agg #[.int .u64 (hiW r), .int .u64 (loW r)], .bool true]) (by simp [results, Tryz.results129, go_sem]) rfl ⟨rfl, ?_⟩
    exact ((Below.refl _ _).alloc (Nat.le_refl _) _).alloc (by simp) _
  · have g : decide (0 ≤ hiW x) = true := by have := hi_neg x; simp; omega
    have g' : decide (hiW x < 0) = false := by have := hi_neg x; simp; omega
    have EX : decide (x < 0) = false := by simpa using q
    have EA : absW x = x := by unfold absW; rw [if_neg q]
    have E1 : IntKind.u64.wrap (hiW x) = hiW x := by have := hi_neg x; rw [IntKind.wrap_u64]; omega
    rw [EX, EA]
    clear EX EA h q
    go_enter Tryz.func129, Tryz.ntmps129
    go_wp2
    refine bodyPost_ret (v := .tuple #[.agg #[.int .u64 (hiW x), .int .u64 (loW x)], .bool false]) (by simp [results, Tryz.results129, go_sem]) rfl ⟨rfl, ?_⟩
    exact ((Below.refl _ _).alloc (Nat.le_refl _) _).alloc (by simp) _
set_option maxHeartbeats 4000000 in
theorem wzero_any (n : Int) (w : World) :
    Calls Tryz.prog 130 #[usz n] w fun e w' => e = .returned (.bool (decide (n = 0))) ∧ Below w.heap.size w w' := by
  unfold usz
  by_cases h : hiW n = 0
  · have g : (hiW n == 0) = true := by simpa using h
    by_cases k : loW n = 0
    · have g' : (loW n == 0) = true := by simpa using k
      have E := Lib.hid (show decide (n = 0) = true by unfold hiW loW at *; simp; omega)
      clear h k
      go_enter Tryz.func130, Tryz.ntmps130
      go_wp2
      go_ret
      exact ⟨retb E.out.symm, (Below.refl _ _).alloc (Nat.le_refl _) _⟩
    · have g' : (loW n == 0) = false := by simpa using k
      have E := Lib.hid (show decide (n = 0) = false by unfold hiW loW at *; simp; omega)
      clear h k
      go_enter Tryz.func130, Tryz.ntmps130
      go_wp2
      go_ret
      exact ⟨retb E.out.symm, (Below.refl _ _).alloc (Nat.le_refl _) _⟩
  · have g : (hiW n == 0) = false := by simpa using h
    have E := Lib.hid (show decide (n = 0) = false by unfold hiW at *; simp; omega)
    clear h
    go_enter Tryz.func130, Tryz.ntmps130
    go_wp2
    go_ret
    exact ⟨retb E.out.symm, (Below.refl _ _).alloc (Nat.le_refl _) _⟩
theorem isnan_u (x : Int) (w : World) : Calls Tryz.prog 148 #[.int .u64 x] w fun e w' => e = .returned (.bool false) ∧ w = w' := by
  have g : (x == x) = true := by simp
  go_enter Tryz.func148, Tryz.ntmps148
  go_wp2
  go_ret
  exact ⟨rfl, rfl⟩
set_option maxHeartbeats 4000000 in
theorem compare_u (x y : Int) (w : World) : Calls Tryz.prog 145 #[.int .u64 x, .int .u64 y] w fun e w' => e = .returned (.int .i64 (cmpI x y)) ∧ w = w' := by
  rcases Int.lt_trichotomy x y with h | h | h
  · have g : decide (x < y) = true := by simpa using h
    have E := Lib.hid (show cmpI x y = -1 by unfold cmpI; rw [if_pos h])
    clear h
    go_enter Tryz.func145, Tryz.ntmps145
    go_wp2_with (go_at_call 148; refine (isnan_u _ _).mono ?_; rintro e w2 ⟨rfl, rfl⟩)
    go_ret
    exact ⟨ret_iw E.out.symm, rfl⟩
  · subst h
    have g : decide (x < x) = false := by simp
    have E := Lib.hid (show cmpI x x = 0 by unfold cmpI; rw [if_neg (by omega), if_neg (by omega)])
    go_enter Tryz.func145, Tryz.ntmps145
    go_wp2_with (go_at_call 148; refine (isnan_u _ _).mono ?_; rintro e w2 ⟨rfl, rfl⟩)
    go_ret
    exact ⟨ret_iw E.out.symm, rfl⟩
  · have g : decide (x < y) = false := by simp; omega
    have g' : decide (y < x) = true := by simpa using h
    have E := Lib.hid (show cmpI x y = 1 by unfold cmpI; rw [if_neg (by omega), if_pos (by omega)])
    clear h
    go_enter Tryz.func145, Tryz.ntmps145
    go_wp2_with (go_at_call 148; refine (isnan_u _ _).mono ?_; rintro e w2 ⟨rfl, rfl⟩)
    go_ret
    exact ⟨ret_iw E.out.symm, rfl⟩
set_option maxHeartbeats 4000000 in
theorem wcmp_any (x y : Int) (w : World) :
    Calls Tryz.prog 132 #[usz x, usz y] w fun e w' => e = .returned (.int .i64 (cmpI x y)) ∧ Below w.heap.size w w' := by
  unfold usz
  by_cases h : hiW x = hiW y
  · have g : (hiW x == hiW y) = true := by simpa using h
    have g' : (hiW x != hiW y) = false := by simpa using h
    have E := Lib.hid (show cmpI x y = cmpI (loW x) (loW y) by rw [cmp_words, if_pos h])
    have C := Lib.hid fun w => compare_u (loW x) (loW y) w
    generalize cmpI (loW x) (loW y) = c at *
    generalize hiW x = a at *
    generalize hiW y = b at *
    clear h
    go_enter Tryz.func132, Tryz.ntmps132
    go_wp2_with (go_at_call 145; refine (C.out _).mono ?_; rintro e w2 ⟨rfl, rfl⟩)
    go_ret
    exact ⟨ret_iw E.out.symm, ((Below.refl _ _).alloc (Nat.le_refl _) _).alloc (by simp) _⟩
  · have g : (hiW x == hiW y) = false := by simpa using h
    have g' : (hiW x != hiW y) = true := by simpa using h
    have E := Lib.hid (show cmpI x y = cmpI (hiW x) (hiW y) by rw [cmp_words, if_neg h])
    have C := Lib.hid fun w => compare_u (hiW x) (hiW y) w
    generalize cmpI (hiW x) (hiW y) = c at *
    generalize hiW x = a at *
    generalize hiW y = b at *
    clear h
    go_enter Tryz.func132, Tryz.ntmps132
    go_wp2_with (go_at_call 145; refine (C.out _).mono ?_; rintro e w2 ⟨rfl, rfl⟩)
    go_ret
    exact ⟨ret_iw E.out.symm, ((Below.refl _ _).alloc (Nat.le_refl _) _).alloc (by simp) _⟩
set_option maxHeartbeats 4000000 in
theorem wtwice_any (r b : Int) (w : World) (h0 : 0 ≤ r) (h1 : r < 170141183460469231731687303715884105728) (hb0 : 0 ≤ b) (hb : b < 2) :
    Calls Tryz.prog 144 #[usz r, .int .u64 b] w fun e w' => e = .returned (usz (2 * r + b)) ∧ Below w.heap.size w w' := by
  have T1 := tw_hi h0 h1 hb0 hb
  have T2 := tw_lo (r := r) h0 hb0 hb
  unfold usz
  generalize hiW (2 * r + b) = c at *
  generalize loW (2 * r + b) = d at *
  go_enter Tryz.func144, Tryz.ntmps144
  go_wp2
  refine bodyPost_ret (v := .agg #[.int .u64 c, .int .u64 d]) (by simp [results, Tryz.results144, go_sem]) rfl ⟨rfl, ?_⟩
  exact ((Below.refl _ _).alloc (Nat.le_refl _) _).alloc (by simp) _
set_option maxHeartbeats 4000000 in
theorem wless_any (s t : Int) (w : World) (h0 : 0 ≤ t) (h1 : t ≤ s) (h2 : s < 340282366920938463463374607431768211456) :
    Calls Tryz.prog 133 #[usz s, usz t] w fun e w' => e = .returned (usz (s - t)) ∧ Below w.heap.size w w' := by
  obtain ⟨p0, p1⟩ := lo_rng s
  obtain ⟨q0, q1⟩ := lo_rng t
  have S1 := fun w => sub64 (loW s) (loW t) 0 p0 q0 q1 (by omega) (by omega) w
  have S2 := fun w => sub64 (hiW s) (hiW t) (bor (loW s) (loW t) 0) (by unfold hiW; omega) (by unfold hiW; omega) (by unfold hiW; omega) (bor_rng _ _ _).1 (bor_rng _ _ _).2 w
  have E1 := sub_lo s t
  have E2 : (hiW s - hiW t - bor (loW s) (loW t) 0) % 18446744073709551616 = hiW (s - t) := by
    unfold bor hiW loW
    split <;> omega
  rw [E1] at S1
  rw [E2] at S2
  clear E1 E2
  unfold usz
  generalize bor (loW s) (loW t) 0 = bo at *
  generalize hiW (s - t) = c at *
  generalize loW (s - t) = d at *
  go_enter Tryz.func133, Tryz.ntmps133
  go_wp2_with (first | simp only [S1] | simp only [S2])
  refine bodyPost_ret (v := .agg #[.int .u64 c, .int .u64 d]) (by simp [results, Tryz.results133, go_sem]) rfl ⟨rfl, ?_⟩
  exact (((Below.refl _ _).alloc (Nat.le_refl _) _).alloc (by simp) _).alloc (by simp; try omega) _
end Go.Proofs.YtplgdlooglnpmaaGreat
