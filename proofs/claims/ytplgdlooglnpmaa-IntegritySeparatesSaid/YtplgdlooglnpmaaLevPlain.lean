/-
  Layer 43 in plain words: solutions, boxes and protection levels. No program in sight.
-/
import Derived.Test.YtplgdlooglnpmaaSumPlain
import Derived.Test.YtplgdlooglnpmaaFixPlain
import Derived.Test.YtplgdlooglnpmaaMeasOwn43
import Derived.Test.YtplgdlooglnpmaaSrcPlain
namespace Go.Proofs.Ytplgdlooglnpmaa
set_option linter.unusedVariables false

/-- the integer nearest to x / d, upwards at a tie -/
def nearW (x d : Int) : Int := (2 * x + d) / (2 * d)
def pOk (v : Int) : Bool := decide (-2000000 ≤ v ∧ v ≤ 2000000)
def cenX (l : List Ms) : Int := nearW (solX l) (detN l)
def cenY (l : List Ms) : Int := nearW (solY l) (detN l)
/-- the error of the solution -/
def solE (l : List Ms) : Int := if chkL l = 0 then (if detN l = 0 then 14 else if (pOk (cenX l) && pOk (cenY l)) = true then 0 else 2) else chkL l
/-- how far an integer lies from x / d, times d -/
def apartI (p x d : Int) : Int := absZ (p * d - x)
/-- two fractions rounded up, if they are not too great -/
def pairF (x y d : Int) : (Int × Int) × Int := if ceilI x d ≤ 8000000 ∧ ceilI y d ≤ 8000000 then ((ceilI x d, ceilI y d), 0) else ((0, 0), 2)
def reachF (cx cy : Int) (l : List Ms) : (Int × Int) × Int := pairF (apartI cx (solX l) (detN l) + noiX l) (apartI cy (solY l) (detN l) + noiY l) (detN l)
structure BoxI where
  cx : Int
  cy : Int
  x : Int
  y : Int
def box0 : BoxI := ⟨0, 0, 0, 0⟩
def accF (l : List Ms) : BoxI × Int := if solE l = 0 then (if (reachF (cenX l) (cenY l) l).2 = 0 then (⟨cenX l, cenY l, (reachF (cenX l) (cenY l) l).1.1, (reachF (cenX l) (cenY l) l).1.2⟩, 0) else (box0, 2)) else (box0, solE l)
def maxF (f : Int → Int) : List Int → Int
  | [] => 0
  | k :: r => max (f k) (maxF f r)
theorem max_ge (f : Int → Int) {zs : List Int} {k : Int} (h : k ∈ zs) : f k ≤ maxF f zs := by
  induction zs with
  | nil => cases h
  | cons z r ih =>
    simp only [maxF]
    rcases List.mem_cons.1 h with rfl | h
    · omega
    · have := ih h
      omega
theorem max_nonneg (f : Int → Int) (zs : List Int) : 0 ≤ maxF f zs := by
  induction zs with
  | nil => simp [maxF]
  | cons z r ih => simp only [maxF]; omega
theorem max_mono {f g : Int → Int} {zs : List Int} (h : ∀ k ∈ zs, f k ≤ g k) : maxF f zs ≤ maxF g zs := by
  induction zs with
  | nil => exact Int.le_refl _
  | cons z r ih =>
    have h1 := h z List.mem_cons_self
    have h2 := ih fun k hk => h k (List.mem_cons_of_mem _ hk)
    simp only [maxF]
    omega
theorem max_congr {f g : Int → Int} {zs : List Int} (h : ∀ k ∈ zs, f k = g k) : maxF f zs = maxF g zs := by
  induction zs with
  | nil => rfl
  | cons z r ih =>
    simp only [maxF]
    rw [h z List.mem_cons_self, ih fun k hk => h k (List.mem_cons_of_mem _ hk)]
def rankB (l : List Ms) (k : Int) : Bool := decide (detN (woL l k) = 0)
def wideB (l : List Ms) (k : Int) : Bool := decide ((reachF (cenX l) (cenY l) (woL l k)).2 ≠ 0)
def levF (l : List Ms) : BoxI × Int :=
  if solE l = 0 then (if (srcL l).any (rankB l) = true then (box0, 14) else if (srcL l).any (wideB l) = true then (box0, 2) else
    (⟨cenX l, cenY l, maxF (fun k => (reachF (cenX l) (cenY l) (woL l k)).1.1) (srcL l), maxF (fun k => (reachF (cenX l) (cenY l) (woL l k)).1.2) (srcL l)⟩, 0)) else (box0, solE l)
theorem le_ceilI {v d u : Int} (hd : 0 < d) (h : u * d ≤ v) : u ≤ ceilI v d := by
  have e : ceilI v d = -(-v / d) := by unfold ceilI; rfl
  rw [e]
  have h2 : -v / d ≤ -u := by
    have : -v ≤ -u * d := by rw [Int.neg_mul]; omega
    exact Int.ediv_le_of_le_mul hd this
  omega
theorem pair_ok {x y d : Int} (h : (pairF x y d).2 = 0) : (pairF x y d).1 = (ceilI x d, ceilI y d) := by
  unfold pairF at h ⊢
  split
  · rfl
  · rename_i g
    rw [if_neg g] at h
    cases h
/-- the box of the reach holds every point that meets the measurements -/
theorem reach_in {l : List Ms} {cx cy px py : Int} (hd : 0 < detN l) (hw : ∀ m ∈ l, 0 ≤ m.w) (h : ∀ m ∈ l, -m.d ≤ m.a * px + m.b * py - m.z ∧ m.a * px + m.b * py - m.z ≤ m.d) (hr : (reachF cx cy l).2 = 0) :
    px - cx ≤ (reachF cx cy l).1.1 ∧ cx - px ≤ (reachF cx cy l).1.1 ∧ py - cy ≤ (reachF cx cy l).1.2 ∧ cy - py ≤ (reachF cx cy l).1.2 := by
  obtain ⟨n1, n2⟩ := near_sol hw h
  have e := pair_ok (x := apartI cx (solX l) (detN l) + noiX l) (y := apartI cy (solY l) (detN l) + noiY l) (d := detN l) hr
  have e' : (reachF cx cy l).1 = (ceilI (apartI cx (solX l) (detN l) + noiX l) (detN l), ceilI (apartI cy (solY l) (detN l) + noiY l) (detN l)) := e
  rw [e']
  have tri : ∀ (p c X N : Int), absZ (detN l * p - X) ≤ N → (p - c) * detN l ≤ apartI c X (detN l) + N ∧ (c - p) * detN l ≤ apartI c X (detN l) + N := by
    intro p c X N hN
    have e1 : (p - c) * detN l = (detN l * p - X) - (c * detN l - X) := by grind
    have e2 : (c - p) * detN l = (c * detN l - X) - (detN l * p - X) := by grind
    rw [e1, e2]
    unfold apartI
    generalize detN l * p - X = s at *
    generalize c * detN l - X = t at *
    unfold absZ at *
    constructor <;> (split at hN <;> split <;> omega)
  obtain ⟨t1, t2⟩ := tri px cx (solX l) (noiX l) n1
  obtain ⟨t3, t4⟩ := tri py cy (solY l) (noiY l) n2
  exact ⟨le_ceilI hd t1, le_ceilI hd t2, le_ceilI hd t3, le_ceilI hd t4⟩
end Go.Proofs.Ytplgdlooglnpmaa
