/-
  Layer 43's levels where the aircraft is elsewhere, and where the bounds grow. No program in sight.
-/
import Derived.Test.YtplgdlooglnpmaaProtPlain
namespace Go.Proofs.Ytplgdlooglnpmaa
set_option linter.unusedVariables false

def shM (dx dy : Int) (m : Ms) : Ms := { m with z := m.z + (m.a * dx + m.b * dy) }
theorem wo_map {g : Ms → Ms} (hg : ∀ m, (g m).s = m.s) (l : List Ms) (k : Int) : woL (l.map g) k = (woL l k).map g := by
  unfold woL
  rw [List.filter_map]
  congr 1
  refine List.filter_congr fun m _ => ?_
  simp [notS, hg]
theorem src_map {g : Ms → Ms} (hg : ∀ m, (g m).s = m.s) (l : List Ms) : srcL (l.map g) = srcL l := by
  refine asc_uniq _ _ (srcL_lt _) (srcL_lt _) fun x => ?_
  rw [mem_srcL, mem_srcL]
  constructor
  · rintro ⟨m, hm, rfl⟩
    obtain ⟨m', hm', rfl⟩ := List.mem_map.1 hm
    exact ⟨m', hm', (hg m').symm⟩
  · rintro ⟨m, hm, rfl⟩
    exact ⟨g m, List.mem_map_of_mem hm, hg m⟩
section shift
variable (dx dy : Int) (l : List Ms)
theorem sh_XX : nXX (l.map (shM dx dy)) = nXX l := sum_map _ _ _
theorem sh_XY : nXY (l.map (shM dx dy)) = nXY l := sum_map _ _ _
theorem sh_YY : nYY (l.map (shM dx dy)) = nYY l := sum_map _ _ _
theorem sh_XZ : nXZ (l.map (shM dx dy)) = nXZ l + (nXX l * dx + nXY l * dy) := by
  unfold nXZ nXX nXY
  rw [sum_map]
  induction l with
  | nil => simp [sumL]
  | cons m r ih =>
    simp only [sumL, ih]
    unfold shM
    simp only
    grind
theorem sh_YZ : nYZ (l.map (shM dx dy)) = nYZ l + (nXY l * dx + nYY l * dy) := by
  unfold nYZ nYY nXY
  rw [sum_map]
  induction l with
  | nil => simp [sumL]
  | cons m r ih =>
    simp only [sumL, ih]
    unfold shM
    simp only
    grind
theorem sh_det : detN (l.map (shM dx dy)) = detN l := by unfold detN; rw [sh_XX, sh_XY, sh_YY]
theorem sh_solX : solX (l.map (shM dx dy)) = solX l + detN l * dx := by
  unfold solX detN
  rw [sh_XY, sh_YY, sh_XZ, sh_YZ]
  grind
theorem sh_solY : solY (l.map (shM dx dy)) = solY l + detN l * dy := by
  unfold solY detN
  rw [sh_XX, sh_XY, sh_XZ, sh_YZ]
  grind
theorem sh_noiX : noiX (l.map (shM dx dy)) = noiX l := by
  unfold noiX
  rw [sum_map, sh_XY, sh_YY]
  rfl
theorem sh_noiY : noiY (l.map (shM dx dy)) = noiY l := by
  unfold noiY
  rw [sum_map, sh_XY, sh_XX]
  rfl
end shift
theorem near_shift {x d t : Int} (hd : 0 < d) : nearW (x + d * t) d = nearW x d + t := by
  unfold nearW
  have e : 2 * (x + d * t) + d = 2 * x + d + t * (2 * d) := by grind
  rw [e, Int.add_mul_ediv_right _ _ (by omega)]
theorem apart_shift (p x d t : Int) : apartI (p + t) (x + d * t) d = apartI p x d := by
  unfold apartI
  have e : (p + t) * d - (x + d * t) = p * d - x := by grind
  rw [e]
theorem sh_reach (dx dy cx cy : Int) (l : List Ms) : reachF (cx + dx) (cy + dy) (l.map (shM dx dy)) = reachF cx cy l := by
  unfold reachF
  rw [sh_det, sh_solX, sh_solY, sh_noiX, sh_noiY, apart_shift, apart_shift]
/-- what the law IntegrityShifts looks at -/
theorem shifts {l : List Ms} (dx dy : Int) (h : LevOk l) :
    (levF (l.map (shM dx dy))).2 = 1 ∨ (levF (l.map (shM dx dy))).2 = 2 ∨ ((levF (l.map (shM dx dy))).2 = 0 ∧ (levF (l.map (shM dx dy))).1 = ⟨(levF l).1.cx + dx, (levF l).1.cy + dy, (levF l).1.x, (levF l).1.y⟩) := by
  obtain ⟨hc, hd, _, _⟩ := sol_chk h.sol
  have hdp : 0 < detN l := by
    have := det_nonneg _ (chk_w hc)
    omega
  have ex : cenX (l.map (shM dx dy)) = cenX l + dx := by unfold cenX; rw [sh_solX, sh_det, near_shift hdp]
  have ey : cenY (l.map (shM dx dy)) = cenY l + dy := by unfold cenY; rw [sh_solY, sh_det, near_shift hdp]
  have hl : (l.map (shM dx dy)).length ≤ 16 := by rw [List.length_map]; exact (chkL_ok hc).1
  have hs : ∀ m, (shM dx dy m).s = m.s := fun _ => rfl
  by_cases hc' : chkL (l.map (shM dx dy)) = 0
  · have hsol : solE (l.map (shM dx dy)) = 0 ∨ solE (l.map (shM dx dy)) = 2 := by
      unfold solE
      rw [if_pos hc', sh_det, if_neg hd]
      split
      · exact .inl rfl
      · exact .inr rfl
    rcases hsol with h0 | h2
    · right; right
      have er : ∀ k, reachF (cenX (l.map (shM dx dy))) (cenY (l.map (shM dx dy))) (woL (l.map (shM dx dy)) k) = reachF (cenX l) (cenY l) (woL l k) := fun k => by
        rw [wo_map hs, ex, ey, sh_reach]
      have ok : LevOk (l.map (shM dx dy)) := by
        refine ⟨h0, fun k hk => ?_, fun k hk => ?_⟩
        · rw [src_map hs] at hk
          rw [wo_map hs, sh_det]
          exact h.rank k hk
        · rw [src_map hs] at hk
          rw [er]
          exact h.fit k hk
      rw [lev_val ok, lev_val h, src_map hs]
      refine ⟨rfl, ?_⟩
      simp only [er]
      rw [ex, ey]
    · right; left
      unfold levF
      rw [if_neg (by omega)]
      exact h2
  · left
    have h1 : chkL (l.map (shM dx dy)) = 1 := by
      unfold chkL at hc' ⊢
      rw [if_neg (by omega)] at hc' ⊢
      split at hc'
      · exact absurd rfl hc'
      · rename_i g
        rw [if_neg g]
    have hs1 : solE (l.map (shM dx dy)) = 1 := by unfold solE; rw [if_neg hc', h1]
    unfold levF
    rw [if_neg (by omega)]
    exact hs1
/-- bounds that grow -/
structure GrM (m m' : Ms) : Prop where
  s : m'.s = m.s
  a : m'.a = m.a
  b : m'.b = m.b
  z : m'.z = m.z
  w : m'.w = m.w
  le : m.d ≤ m'.d
  mx : m'.d ≤ 4294967296
inductive GrL : List Ms → List Ms → Prop
  | nil : GrL [] []
  | cons {m m' : Ms} {r r' : List Ms} : GrM m m' → GrL r r' → GrL (m :: r) (m' :: r')
theorem GrL.sum {l l' : List Ms} (h : GrL l l') {f g : Ms → Int} (e : ∀ m m', m ∈ l → GrM m m' → f m = g m') : sumL f l = sumL g l' := by
  induction h with
  | nil => rfl
  | cons hm hr ih =>
    simp only [sumL]
    rw [e _ _ List.mem_cons_self hm, ih fun m m' hx => e m m' (List.mem_cons_of_mem _ hx)]
theorem GrL.sum_le {l l' : List Ms} (h : GrL l l') {f g : Ms → Int} (e : ∀ m m', m ∈ l → GrM m m' → f m ≤ g m') : sumL f l ≤ sumL g l' := by
  induction h with
  | nil => exact Int.le_refl _
  | cons hm hr ih =>
    simp only [sumL]
    have h1 := e _ _ List.mem_cons_self hm
    have h2 := ih fun m m' hx => e m m' (List.mem_cons_of_mem _ hx)
    omega
theorem GrL.len {l l' : List Ms} (h : GrL l l') : l'.length = l.length := by
  induction h with
  | nil => rfl
  | cons _ _ ih => simp only [List.length_cons, ih]
theorem GrL.wo {l l' : List Ms} (h : GrL l l') (k : Int) : GrL (woL l k) (woL l' k) := by
  induction h with
  | nil => exact .nil
  | cons hm hr ih =>
    rename_i m m' r r'
    unfold woL at *
    rw [List.filter_cons, List.filter_cons]
    have e : notS k m' = notS k m := by unfold notS; rw [hm.s]
    rw [e]
    split
    · exact .cons hm ih
    · exact ih
theorem GrL.mem {l l' : List Ms} (h : GrL l l') {m' : Ms} (hm : m' ∈ l') : ∃ m ∈ l, GrM m m' := by
  induction h with
  | nil => cases hm
  | cons g hr ih =>
    rcases List.mem_cons.1 hm with rfl | hm
    · exact ⟨_, List.mem_cons_self, g⟩
    · obtain ⟨m, h1, h2⟩ := ih hm
      exact ⟨m, List.mem_cons_of_mem _ h1, h2⟩
theorem GrL.mem' {l l' : List Ms} (h : GrL l l') {m : Ms} (hm : m ∈ l) : ∃ m' ∈ l', GrM m m' := by
  induction h with
  | nil => cases hm
  | cons g hr ih =>
    rcases List.mem_cons.1 hm with rfl | hm
    · exact ⟨_, List.mem_cons_self, g⟩
    · obtain ⟨m, h1, h2⟩ := ih hm
      exact ⟨m, List.mem_cons_of_mem _ h1, h2⟩
theorem GrL.src {l l' : List Ms} (h : GrL l l') : srcL l' = srcL l := by
  refine asc_uniq _ _ (srcL_lt _) (srcL_lt _) fun x => ?_
  rw [mem_srcL, mem_srcL]
  constructor
  · rintro ⟨m', hm, rfl⟩
    obtain ⟨m, h1, h2⟩ := h.mem hm
    exact ⟨m, h1, h2.s.symm⟩
  · rintro ⟨m, hm, rfl⟩
    obtain ⟨m', h1, h2⟩ := h.mem' hm
    exact ⟨m', h1, h2.s⟩
theorem GrL.chk {l l' : List Ms} (h : GrL l l') (hc : chkL l = 0) : chkL l' = 0 := by
  refine chkL_of (by rw [h.len]; exact (chkL_ok hc).1) fun m' hm => ?_
  obtain ⟨m, h1, g⟩ := h.mem hm
  have o := (chkL_ok hc).2 m h1
  have d0 := o.d0
  have le := g.le
  exact ⟨by rw [g.s]; exact o.s0, by rw [g.s]; exact o.s1, by rw [g.a]; exact o.a0, by rw [g.a]; exact o.a1, by rw [g.b]; exact o.b0, by rw [g.b]; exact o.b1, by rw [g.a, g.b]; exact o.nz, by rw [g.z]; exact o.z0, by rw [g.z]; exact o.z1, by omega, g.mx, by rw [g.w]; exact o.w0, by rw [g.w]; exact o.w1⟩
theorem GrL.nrm {l l' : List Ms} (h : GrL l l') : nXX l' = nXX l ∧ nXY l' = nXY l ∧ nYY l' = nYY l ∧ nXZ l' = nXZ l ∧ nYZ l' = nYZ l := by
  refine ⟨(h.sum fun m m' _ g => ?_).symm, (h.sum fun m m' _ g => ?_).symm, (h.sum fun m m' _ g => ?_).symm, (h.sum fun m m' _ g => ?_).symm, (h.sum fun m m' _ g => ?_).symm⟩
  · rw [g.w, g.a]
  · rw [g.w, g.a, g.b]
  · rw [g.w, g.b]
  · rw [g.w, g.a, g.z]
  · rw [g.w, g.b, g.z]
theorem absZ_nonneg (x : Int) : 0 ≤ absZ x := by unfold absZ; split <;> omega
theorem GrL.noi {l l' : List Ms} (h : GrL l l') (hw : ∀ m ∈ l, 0 ≤ m.w) : noiX l ≤ noiX l' ∧ noiY l ≤ noiY l' := by
  obtain ⟨e1, e2, e3, _, _⟩ := h.nrm
  unfold noiX noiY
  rw [e1, e2, e3]
  refine ⟨h.sum_le fun m m' hm g => ?_, h.sum_le fun m m' hm g => ?_⟩
  · rw [g.w, g.a, g.b]
    exact Int.mul_le_mul_of_nonneg_left g.le (Int.mul_nonneg (hw m hm) (absZ_nonneg _))
  · rw [g.w, g.a, g.b]
    exact Int.mul_le_mul_of_nonneg_left g.le (Int.mul_nonneg (hw m hm) (absZ_nonneg _))
theorem ceil_le {x y d : Int} (hd : 0 < d) (h : x ≤ y) : ceilI x d ≤ ceilI y d := by
  have e : ∀ v, ceilI v d = -(-v / d) := fun v => by unfold ceilI; rfl
  rw [e, e]
  have := Int.ediv_le_ediv hd (show -y ≤ -x by omega)
  omega
/-- what the law IntegrityGrows looks at -/
theorem grows {l l' : List Ms} (g : GrL l l') (h : LevOk l) :
    (levF l').2 = 2 ∨ ((levF l').2 = 0 ∧ (levF l').1.cx = (levF l).1.cx ∧ (levF l').1.cy = (levF l).1.cy ∧ (levF l).1.x ≤ (levF l').1.x ∧ (levF l).1.y ≤ (levF l').1.y) := by
  obtain ⟨hc, hd, p1, p2⟩ := sol_chk h.sol
  have eq : ∀ {k k' : List Ms}, GrL k k' → detN k' = detN k ∧ solX k' = solX k ∧ solY k' = solY k := fun hk => by
    obtain ⟨e1, e2, e3, e4, e5⟩ := hk.nrm
    unfold detN solX solY
    rw [e1, e2, e3, e4, e5]
    exact ⟨rfl, rfl, rfl⟩
  obtain ⟨d1, d2, d3⟩ := eq g
  have ex : cenX l' = cenX l := by unfold cenX; rw [d1, d2]
  have ey : cenY l' = cenY l := by unfold cenY; rw [d1, d3]
  have hsol : solE l' = 0 := by
    have := h.sol
    unfold solE at this ⊢
    rw [if_pos hc] at this
    rw [if_pos (g.chk hc), d1, ex, ey]
    exact this
  have rank : ¬ (srcL l').any (rankB l') = true := by
    intro q
    obtain ⟨k, hk, e⟩ := List.any_eq_true.1 q
    rw [g.src] at hk
    have := of_decide_eq_true e
    rw [(eq (g.wo k)).1] at this
    exact h.rank k hk this
  by_cases hwd : (srcL l').any (wideB l') = true
  · left
    unfold levF
    rw [if_pos hsol, if_neg rank, if_pos hwd]
  · right
    have ok : LevOk l' := ⟨hsol, fun k hk q => rank (List.any_eq_true.2 ⟨k, hk, decide_eq_true q⟩), fun k hk => by
      by_cases q : (reachF (cenX l') (cenY l') (woL l' k)).2 = 0
      · exact q
      · exact absurd (List.any_eq_true.2 ⟨k, hk, decide_eq_true q⟩) hwd⟩
    have mono : ∀ k ∈ srcL l, (reachF (cenX l) (cenY l) (woL l k)).1.1 ≤ (reachF (cenX l') (cenY l') (woL l' k)).1.1 ∧ (reachF (cenX l) (cenY l) (woL l k)).1.2 ≤ (reachF (cenX l') (cenY l') (woL l' k)).1.2 := by
      intro k hk
      have f0 := h.fit k hk
      have f1 := ok.fit k (by rw [g.src]; exact hk)
      have a0 := pair_ok (x := apartI (cenX l) (solX (woL l k)) (detN (woL l k)) + noiX (woL l k)) (y := apartI (cenY l) (solY (woL l k)) (detN (woL l k)) + noiY (woL l k)) (d := detN (woL l k)) f0
      have a1 := pair_ok (x := apartI (cenX l') (solX (woL l' k)) (detN (woL l' k)) + noiX (woL l' k)) (y := apartI (cenY l') (solY (woL l' k)) (detN (woL l' k)) + noiY (woL l' k)) (d := detN (woL l' k)) f1
      have b0 : (reachF (cenX l) (cenY l) (woL l k)).1 = _ := a0
      have b1 : (reachF (cenX l') (cenY l') (woL l' k)).1 = _ := a1
      rw [b0, b1]
      obtain ⟨w1, w2, w3⟩ := eq (g.wo k)
      have hw : ∀ m ∈ woL l k, 0 ≤ m.w := fun m hm => chk_w hc m (List.mem_filter.1 hm).1
      have hdk : 0 < detN (woL l k) := by
        have := det_nonneg _ hw
        have := h.rank k hk
        omega
      obtain ⟨n1, n2⟩ := (g.wo k).noi hw
      rw [w1, w2, w3, ex, ey]
      exact ⟨ceil_le hdk (by omega), ceil_le hdk (by omega)⟩
    rw [lev_val ok, lev_val h, g.src]
    exact ⟨rfl, ex, ey, max_mono fun k hk => (mono k hk).1, max_mono fun k hk => (mono k hk).2⟩
end Go.Proofs.Ytplgdlooglnpmaa
