/-
  The wind triangle's plain functions: components, ground speeds, tracks, winds by direction. No program in sight.
-/
import Derived.Test.YtdfpbojlimeccaaDoorTrigPlain
import Derived.Test.YtdfpbojlimeccaaDoorSqrtPlain
namespace Go.Proofs.YtdfpbojlimeccaaDoor
set_option linter.unusedVariables false
open Tr Sq

def vldW (e n : Int) : Bool := decide (-400 ≤ e ∧ e ≤ 400 ∧ -400 ≤ n ∧ n ≤ 400)
theorem vldW_iff {e n : Int} : vldW e n = true ↔ (-400 ≤ e ∧ e ≤ 400 ∧ -400 ≤ n ∧ n ≤ 400) := by unfold vldW; simp
theorem vldW_not {e n : Int} : vldW e n = false ↔ ¬ (-400 ≤ e ∧ e ≤ 400 ∧ -400 ≤ n ∧ n ≤ 400) := by unfold vldW; simp
def shf (n : Int) : Int := (n + 524288) / 1048576
def shu (n : Int) : Int := (n + 536870912) / 1073741824
def alongI (c e n : Int) : Int := shf (e * sinI c + n * cosI c)
def acrossI (c e n : Int) : Int := shf (e * cosI c - n * sinI c)

/-- a product with a sine -/
theorem sprod {k s x : Int} (hk : 0 ≤ k) (h1 : -k ≤ x) (h2 : x ≤ k) (h3 : -1073741824 ≤ s) (h4 : s ≤ 1073741824) : -(k * 1073741824) ≤ x * s ∧ x * s ≤ k * 1073741824 := by
  have a : 0 ≤ (k - x) * (1073741824 + s) := Int.mul_nonneg (by omega) (by omega)
  have b : 0 ≤ (k + x) * (1073741824 - s) := Int.mul_nonneg (by omega) (by omega)
  have c : 0 ≤ (k - x) * (1073741824 - s) := Int.mul_nonneg (by omega) (by omega)
  have d : 0 ≤ (k + x) * (1073741824 + s) := Int.mul_nonneg (by omega) (by omega)
  have e1 : (k - x) * (1073741824 + s) = k * 1073741824 + k * s - x * 1073741824 - x * s := by grind
  have e2 : (k + x) * (1073741824 - s) = k * 1073741824 - k * s + x * 1073741824 - x * s := by grind
  have e3 : (k - x) * (1073741824 - s) = k * 1073741824 - k * s - x * 1073741824 + x * s := by grind
  have e4 : (k + x) * (1073741824 + s) = k * 1073741824 + k * s + x * 1073741824 + x * s := by grind
  omega
theorem sprod4 {s x : Int} (h1 : -400 ≤ x) (h2 : x ≤ 400) (h3 : -1073741824 ≤ s) (h4 : s ≤ 1073741824) : -429496729600 ≤ x * s ∧ x * s ≤ 429496729600 := by
  have := sprod (k := 400) (by decide) h1 h2 h3 h4
  omega
theorem along_bd {c e n : Int} (h : vldW e n = true) : -819200 ≤ alongI c e n ∧ alongI c e n ≤ 819200 := by
  obtain ⟨a, b, d, f⟩ := vldW_iff.1 h
  obtain ⟨s1, s2⟩ := sinI_range c
  obtain ⟨c1, c2⟩ := cosI_range c
  have p := sprod4 a b s1 s2
  have q := sprod4 d f c1 c2
  unfold alongI shf
  omega
theorem across_bd {c e n : Int} (h : vldW e n = true) : -819200 ≤ acrossI c e n ∧ acrossI c e n ≤ 819200 := by
  obtain ⟨a, b, d, f⟩ := vldW_iff.1 h
  obtain ⟨s1, s2⟩ := sinI_range c
  obtain ⟨c1, c2⟩ := cosI_range c
  have p := sprod4 a b c1 c2
  have q := sprod4 d f s1 s2
  unfold acrossI shf
  omega

/-- components: along, across, error -/
def partsF (c e n : Int) : Int × Int × Int := if vldW e n = true then (alongI c e n, acrossI c e n, 0) else (0, 0, 1)
/-- ground speed, drift, error -/
def groundF (c t e n : Int) : Int × Int × Int :=
  if vldW e n = true ∧ 1 ≤ t ∧ t ≤ 4000 then
    if t * 1024 ≤ acrossI c e n ∨ t * 1024 ≤ -acrossI c e n then (0, 0, 10)
    else if alongI c e n + isq (t * 1024 * (t * 1024) - acrossI c e n * acrossI c e n) < 1024 then (0, 0, 10)
    else (alongI c e n + isq (t * 1024 * (t * 1024) - acrossI c e n * acrossI c e n), diffI 0 (atanI (-acrossI c e n) (isq (t * 1024 * (t * 1024) - acrossI c e n * acrossI c e n))), 0)
  else (0, 0, 1)
def trackX (h t e : Int) : Int := shf (t * sinI h + e * 1073741824)
def trackY (h t n : Int) : Int := shf (t * cosI h + n * 1073741824)
/-- course, ground speed, error -/
def trackF (h t e n : Int) : Int × Int × Int :=
  if vldW e n = true ∧ 1 ≤ t ∧ t ≤ 4000 then
    if isq (trackX h t e * trackX h t e + trackY h t n * trackY h t n) < 1024 then (0, 0, 10)
    else (atanI (trackX h t e) (trackY h t n), isq (trackX h t e * trackX h t e + trackY h t n * trackY h t n), 0)
  else (0, 0, 1)

/-- what is under the root -/
theorem under_bd {t x : Int} (h1 : 1 ≤ t) (h2 : t ≤ 4000) (h3 : x < t * 1024) (h4 : -x < t * 1024) : 1 ≤ t * 1024 * (t * 1024) - x * x ∧ t * 1024 * (t * 1024) - x * x ≤ 16777216000000 ∧ 0 ≤ t * 1024 * (t * 1024) ∧ t * 1024 * (t * 1024) ≤ 16777216000000 ∧ 0 ≤ x * x ∧ x * x ≤ 16777216000000 := by
  have a := sq_le (a := t * 1024) (b := 4096000) (by omega) (by omega)
  have b := sq_nonneg x
  have c : x * x ≤ (t * 1024 - 1) * (t * 1024 - 1) := by
    rcases Int.le_total 0 x with h | h
    · exact sq_le h (by omega)
    · have := sq_le (a := -x) (b := t * 1024 - 1) (by omega) (by omega)
      rwa [Int.neg_mul_neg] at this
  have e : (t * 1024 - 1) * (t * 1024 - 1) = t * 1024 * (t * 1024) - 2 * (t * 1024) + 1 := by grind
  omega
theorem root_bd {n : Int} (h1 : 1 ≤ n) (h2 : n ≤ 16777216000000) : 1 ≤ isq n ∧ isq n ≤ 4096000 := by
  have a := isq_mono h1 (by omega)
  have b := isq_mono h2 (by decide)
  have c : isq 1 = 1 := by decide
  have d : isq 16777216000000 = 4096000 := by decide
  omega
theorem track_bd {h t e : Int} (h1 : 1 ≤ t) (h2 : t ≤ 4000) (h3 : -400 ≤ e) (h4 : e ≤ 400) : -4505600 ≤ trackX h t e ∧ trackX h t e ≤ 4505600 ∧ -4505600 ≤ trackY h t e ∧ trackY h t e ≤ 4505600 ∧ -4294967296000 ≤ t * sinI h ∧ t * sinI h ≤ 4294967296000 ∧ -4294967296000 ≤ t * cosI h ∧ t * cosI h ≤ 4294967296000 := by
  obtain ⟨s1, s2⟩ := sinI_range h
  obtain ⟨c1, c2⟩ := cosI_range h
  have p := sprod (k := 4000) (by decide) (show -4000 ≤ t by omega) h2 s1 s2
  have q := sprod (k := 4000) (by decide) (show -4000 ≤ t by omega) h2 c1 c2
  unfold trackX trackY shf
  omega

def ordB (lo hi : Int) : Bool := decide (lo ≤ hi ∧ -400 ≤ lo ∧ hi ≤ 400)
def boxB (el eh nl nh : Int) : Bool := ordB el eh && ordB nl nh
def withinB (el eh nl nh e n : Int) : Bool := boxB el eh nl nh && decide (el ≤ e) && decide (e ≤ eh) && decide (nl ≤ n) && decide (n ≤ nh)
theorem boxB_iff {el eh nl nh : Int} : boxB el eh nl nh = true ↔ (el ≤ eh ∧ -400 ≤ el ∧ eh ≤ 400 ∧ nl ≤ nh ∧ -400 ≤ nl ∧ nh ≤ 400) := by
  unfold boxB ordB; simp; omega
theorem withinB_iff {el eh nl nh e n : Int} : withinB el eh nl nh e n = true ↔ (boxB el eh nl nh = true ∧ el ≤ e ∧ e ≤ eh ∧ nl ≤ n ∧ n ≤ nh) := by
  unfold withinB; simp [and_assoc]
def mn4 (a b c d : Int) : Int := min (min (min a b) c) d
def mx4 (a b c d : Int) : Int := max (max (max a b) c) d
def giA0 (c el eh nl nh : Int) : Int := mn4 (alongI c el nl) (alongI c el nh) (alongI c eh nl) (alongI c eh nh)
def giA1 (c el eh nl nh : Int) : Int := mx4 (alongI c el nl) (alongI c el nh) (alongI c eh nl) (alongI c eh nh)
def giC0 (c el eh nl nh : Int) : Int := mn4 (acrossI c el nl) (acrossI c el nh) (acrossI c eh nl) (acrossI c eh nh)
def giC1 (c el eh nl nh : Int) : Int := mx4 (acrossI c el nl) (acrossI c el nh) (acrossI c eh nl) (acrossI c eh nh)
def farI (c0 c1 : Int) : Int := max (absI c0) (absI c1)
def nearI (c0 c1 : Int) : Int := if c0 ≤ 0 ∧ 0 ≤ c1 then 0 else min (absI c0) (absI c1)
/-- the end of GroundIn, from the extremes -/
def giEnd (tl th a0 a1 c0 c1 : Int) : Int × Int × Int :=
  if tl * 1024 ≤ farI c0 c1 then (0, 0, 10)
  else if a0 + isq (tl * 1024 * (tl * 1024) - farI c0 c1 * farI c0 c1) < 1024 then (0, 0, 10)
  else ((a0 + isq (tl * 1024 * (tl * 1024) - farI c0 c1 * farI c0 c1)) / 1024, (a1 + isq (th * 1024 * (th * 1024) - nearI c0 c1 * nearI c0 c1) + 1024 - 1) / 1024, 0)
def giOk (tl th el eh nl nh : Int) : Prop := boxB el eh nl nh = true ∧ 1 ≤ tl ∧ th ≤ 4000 ∧ tl ≤ th
instance (tl th el eh nl nh : Int) : Decidable (giOk tl th el eh nl nh) := inferInstanceAs (Decidable (_ ∧ _))
def groundInF (c tl th el eh nl nh : Int) : Int × Int × Int :=
  if giOk tl th el eh nl nh then giEnd tl th (giA0 c el eh nl nh) (giA1 c el eh nl nh) (giC0 c el eh nl nh) (giC1 c el eh nl nh) else (0, 0, 1)

theorem mn4_bd {lo hi a b c d : Int} (ha : lo ≤ a ∧ a ≤ hi) (hb : lo ≤ b ∧ b ≤ hi) (hc : lo ≤ c ∧ c ≤ hi) (hd : lo ≤ d ∧ d ≤ hi) : lo ≤ mn4 a b c d ∧ mn4 a b c d ≤ hi := by
  unfold mn4
  omega
theorem mx4_bd {lo hi a b c d : Int} (ha : lo ≤ a ∧ a ≤ hi) (hb : lo ≤ b ∧ b ≤ hi) (hc : lo ≤ c ∧ c ≤ hi) (hd : lo ≤ d ∧ d ≤ hi) : lo ≤ mx4 a b c d ∧ mx4 a b c d ≤ hi := by
  unfold mx4
  omega
theorem vld_of_box {el eh nl nh : Int} (h : boxB el eh nl nh = true) : vldW el nl = true ∧ vldW el nh = true ∧ vldW eh nl = true ∧ vldW eh nh = true := by
  have := boxB_iff.1 h
  refine ⟨vldW_iff.2 ?_, vldW_iff.2 ?_, vldW_iff.2 ?_, vldW_iff.2 ?_⟩ <;> omega
theorem gi_bd {c el eh nl nh : Int} (h : boxB el eh nl nh = true) :
    (-819200 ≤ giA0 c el eh nl nh ∧ giA0 c el eh nl nh ≤ 819200) ∧ (-819200 ≤ giA1 c el eh nl nh ∧ giA1 c el eh nl nh ≤ 819200) ∧ (-819200 ≤ giC0 c el eh nl nh ∧ giC0 c el eh nl nh ≤ 819200) ∧ (-819200 ≤ giC1 c el eh nl nh ∧ giC1 c el eh nl nh ≤ 819200) := by
  obtain ⟨h1, h2, h3, h4⟩ := vld_of_box h
  exact ⟨mn4_bd (along_bd h1) (along_bd h2) (along_bd h3) (along_bd h4), mx4_bd (along_bd h1) (along_bd h2) (along_bd h3) (along_bd h4), mn4_bd (across_bd h1) (across_bd h2) (across_bd h3) (across_bd h4), mx4_bd (across_bd h1) (across_bd h2) (across_bd h3) (across_bd h4)⟩
theorem absI_le' {x k : Int} (h0 : -k ≤ x) (h1 : x ≤ k) : 0 ≤ absI x ∧ absI x ≤ k := by unfold absI; split <;> omega
theorem far_bd {c0 c1 : Int} (h0 : -819200 ≤ c0) (h1 : c0 ≤ 819200) (h2 : -819200 ≤ c1) (h3 : c1 ≤ 819200) : 0 ≤ farI c0 c1 ∧ farI c0 c1 ≤ 819200 := by
  have a := absI_le' h0 h1
  have b := absI_le' h2 h3
  unfold farI; omega
theorem near_bd {c0 c1 : Int} (h0 : -819200 ≤ c0) (h1 : c0 ≤ 819200) (h2 : -819200 ≤ c1) (h3 : c1 ≤ 819200) : 0 ≤ nearI c0 c1 ∧ nearI c0 c1 ≤ farI c0 c1 := by
  have a := absI_le' h0 h1
  have b := absI_le' h2 h3
  unfold nearI farI
  split <;> omega
theorem sqle {x : Int} (h0 : 0 ≤ x) (h1 : x ≤ 4096000) : 0 ≤ x * x ∧ x * x ≤ 16777216000000 := ⟨sq_nonneg x, sq_le h0 h1⟩
theorem isq_4m {n : Int} (h : n ≤ 16777216000000) : 0 ≤ isq n ∧ isq n ≤ 4096000 := by
  have b := isq_mono h (by decide)
  have d : isq 16777216000000 = 4096000 := by decide
  exact ⟨isq_nonneg (by omega), by omega⟩
end Go.Proofs.YtdfpbojlimeccaaDoor
