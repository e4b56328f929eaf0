/-
  Speeds from the tables: true and calibrated airspeed, Mach number, the crossover altitude. No program in sight.
-/
import Derived.Test.YtnaokohffelklaaDoorAirPlain
namespace Go.Proofs.YtnaokohffelklaaDoor
set_option linter.unusedVariables false
open Sq

structure AltOk (alt : Int) : Prop where
  lo : -200000 ≤ alt
  hi : alt ≤ 6000000
structure DevOk (dev : Int) : Prop where
  lo : -4000 ≤ dev
  hi : dev ≤ 4000
def ratioI (alt dev : Int) : Int := valI ratT alt * (57630 + dev) / 57630
def tempI (alt dev : Int) : Int := valI tmpT alt + dev
def soundI (alt dev : Int) : Int := isq (388734 * tempI alt dev / 100)
def tasI (cas alt dev : Int) : Int := cas * ratioI alt dev / 1000000
def casI (tas alt dev : Int) : Int := ceilI (tas * 1000000) (ratioI alt dev)
def machI (tas alt dev : Int) : Int := 16000 * tas / soundI alt dev
def ofI (mach alt dev : Int) : Int := ceilI (mach * soundI alt dev) 16000
def machAtI (cas alt dev : Int) : Int := machI (tasI cas alt dev) alt dev

theorem ceil_le {p c x : Int} (hc : 0 < c) : ceilI p c ≤ x ↔ p ≤ x * c := by
  have h := Int.le_ediv_iff_mul_le (a := -x) (b := -p) hc
  rw [Int.neg_mul] at h
  unfold ceilI
  omega
theorem ceil_nonneg {p c : Int} (hc : 0 < c) (hp : 0 ≤ p) : 0 ≤ ceilI p c := by
  have h := Int.ediv_le_ediv hc (show -p ≤ 0 by omega)
  rw [Int.zero_ediv] at h
  unfold ceilI
  omega
/-- rounded up, as the reference writes it -/
theorem ceil_up {p c : Int} (hc : 0 < c) : ceilI p c = (p + c - 1) / c := by
  have a := Int.le_ediv_iff_mul_le (a := ceilI p c) (b := p + c - 1) hc
  have b := (ceil_le (p := p) (c := c) (x := ceilI p c) hc).1 (Int.le_refl _)
  have d := (ceil_le (p := p) (c := c) (x := ceilI p c - 1) hc)
  rw [Int.sub_mul, Int.one_mul] at d
  have e := Int.le_ediv_iff_mul_le (a := ceilI p c + 1) (b := p + c - 1) hc
  rw [Int.add_mul, Int.one_mul] at e
  generalize ceilI p c * c = m at *
  omega

theorem mul_bd {a b la lb ua ub : Int} (h1 : la ≤ a) (h2 : a ≤ ua) (h3 : lb ≤ b) (h4 : b ≤ ub) (ha : 0 ≤ la) (hb : 0 ≤ lb) : la * lb ≤ a * b ∧ a * b ≤ ua * ub :=
  ⟨Int.mul_le_mul h1 h3 hb (by omega), Int.mul_le_mul h2 h4 (by omega) (by omega)⟩
theorem ratio_bd {alt dev : Int} (h : AltOk alt) (d : DevOk dev) : 903976 ≤ ratioI alt dev ∧ ratioI alt dev ≤ 3485308 := by
  have v := rat_bd h.lo h.hi
  have m := mul_bd v.1 v.2 (show 53630 ≤ 57630 + dev by have := d.lo; omega) (show 57630 + dev ≤ 61630 by have := d.hi; omega) (by decide) (by decide)
  unfold ratioI
  generalize valI ratT alt * (57630 + dev) = p at *
  omega
theorem ratio_mono {a b c d : Int} (ha : AltOk a) (hb : AltOk b) (hab : a ≤ b) (hc : DevOk c) (hd : DevOk d) (hcd : c ≤ d) : ratioI a c ≤ ratioI b d := by
  have v := rat_bd ha.lo ha.hi
  have m := Int.mul_le_mul (rat_mono ha.lo hab hb.hi) (show 57630 + c ≤ 57630 + d by omega) (by have := hc.lo; omega) (by have := rat_bd hb.lo hb.hi; omega)
  unfold ratioI
  exact Int.ediv_le_ediv (by decide) m
theorem temp_bd {alt dev : Int} (h : AltOk alt) (d : DevOk dev) : 17665 ≤ tempI alt dev ∧ tempI alt dev ≤ 33211 := by
  have v := tmp_bd h.lo h.hi
  have := d.lo
  have := d.hi
  unfold tempI
  omega
theorem sound_le {s t : Int} (h0 : 17665 ≤ s) (h : s ≤ t) (h1 : t ≤ 33211) : isq (388734 * s / 100) ≤ isq (388734 * t / 100) :=
  isq_mono (by omega) (by omega)
theorem sound_bd {alt dev : Int} (h : AltOk alt) (d : DevOk dev) : 8286 ≤ soundI alt dev ∧ soundI alt dev ≤ 11362 := by
  have v := temp_bd h d
  have a := sound_le (Int.le_refl 17665) v.1 v.2
  have b := sound_le v.1 v.2 (Int.le_refl 33211)
  have e1 : isq (388734 * 17665 / 100) = 8286 := isq_of ⟨by decide, by decide, by decide⟩ (by decide)
  have e2 : isq (388734 * 33211 / 100) = 11362 := isq_of ⟨by decide, by decide, by decide⟩ (by decide)
  unfold soundI
  omega
theorem sound_alt {a b dev : Int} (ha : AltOk a) (hb : AltOk b) (hab : a ≤ b) (d : DevOk dev) : soundI b dev ≤ soundI a dev := by
  have v := temp_bd hb d
  have w := temp_bd ha d
  have := tmp_anti ha.lo hab hb.hi
  exact sound_le v.1 (by unfold tempI; omega) w.2
theorem sound_dev {alt c d : Int} (ha : AltOk alt) (hc : DevOk c) (hd : DevOk d) (hcd : c ≤ d) : soundI alt c ≤ soundI alt d := by
  have v := temp_bd ha hc
  have w := temp_bd ha hd
  exact sound_le v.1 (by unfold tempI; omega) w.2
theorem tas_bd {cas alt dev : Int} (h0 : 0 ≤ cas) (h1 : cas ≤ 1000) (h : AltOk alt) (d : DevOk dev) : 0 ≤ tasI cas alt dev ∧ tasI cas alt dev ≤ 3485 := by
  have v := ratio_bd h d
  have m := mul_bd h0 h1 v.1 v.2 (by decide) (by decide)
  unfold tasI
  generalize cas * ratioI alt dev = p at *
  omega
theorem tas_mono {s t a b c d : Int} (hs : 0 ≤ s) (hst : s ≤ t) (ha : AltOk a) (hb : AltOk b) (hab : a ≤ b) (hc : DevOk c) (hd : DevOk d) (hcd : c ≤ d) : tasI s a c ≤ tasI t b d := by
  have v := ratio_bd ha hc
  have m := Int.mul_le_mul hst (ratio_mono ha hb hab hc hd hcd) (by omega) (by omega)
  unfold tasI
  exact Int.ediv_le_ediv (by decide) m
theorem le_tas {t cas alt dev : Int} (h : AltOk alt) (d : DevOk dev) : t ≤ tasI cas alt dev ↔ casI t alt dev ≤ cas := by
  have v := ratio_bd h d
  unfold tasI casI
  rw [Int.le_ediv_iff_mul_le (by decide), ceil_le (by omega)]
theorem le_mach {m tas alt dev : Int} (h : AltOk alt) (d : DevOk dev) : m ≤ machI tas alt dev ↔ ofI m alt dev ≤ tas := by
  have v := sound_bd h d
  unfold machI ofI
  rw [Int.le_ediv_iff_mul_le (by omega), ceil_le (by decide), Int.mul_comm 16000]
theorem mach_bd {tas alt dev : Int} (h0 : 0 ≤ tas) (h1 : tas ≤ 4000) (h : AltOk alt) (d : DevOk dev) : 0 ≤ machI tas alt dev ∧ machI tas alt dev ≤ 64000000 := by
  have v := sound_bd h d
  unfold machI
  refine ⟨Int.ediv_nonneg (by omega) (by omega), ?_⟩
  have := Int.ediv_le_self (soundI alt dev) (show 0 ≤ 16000 * tas by omega)
  omega
/-- the Mach number at a calibrated airspeed does not fall with the altitude -/
theorem machAt_up {cas a b dev : Int} (h0 : 0 ≤ cas) (ha : AltOk a) (hb : AltOk b) (hab : a ≤ b) (d : DevOk dev) : machAtI cas a dev ≤ machAtI cas b dev := by
  have t := tas_mono h0 (Int.le_refl cas) ha hb hab d d (Int.le_refl dev)
  have s := sound_alt ha hb hab d
  have v := sound_bd ha d
  have w := sound_bd hb d
  have r := ratio_bd ha d
  have n : 0 ≤ tasI cas a dev := by
    unfold tasI
    exact Int.ediv_nonneg (Int.mul_nonneg h0 (by omega)) (by decide)
  unfold machAtI machI
  rw [Int.le_ediv_iff_mul_le (by omega)]
  have q := Int.ediv_mul_le (16000 * tasI cas a dev) (show soundI a dev ≠ 0 by omega)
  have p := Int.mul_le_mul_of_nonneg_left s (show 0 ≤ 16000 * tasI cas a dev / soundI a dev from Int.ediv_nonneg (by omega) (by omega))
  omega
theorem of_mono {m n a c d : Int} (h0 : 0 ≤ m) (hmn : m ≤ n) (ha : AltOk a) (hc : DevOk c) (hd : DevOk d) (hcd : c ≤ d) : ofI m a c ≤ ofI n a d := by
  have v := sound_bd ha hc
  have w := sound_bd ha hd
  have p := Int.mul_le_mul hmn (sound_dev ha hc hd hcd) (by omega) (by omega)
  unfold ofI
  rw [ceil_le (by decide)]
  have := (ceil_le (p := n * soundI a d) (c := 16000) (x := ceilI (n * soundI a d) 16000) (by decide)).1 (Int.le_refl _)
  omega

/-- k is the least altitude with at least this Mach number; one above the greatest altitude if there is none -/
structure IsCross (cas mach dev k : Int) : Prop where
  lo : -200000 ≤ k
  hi : k ≤ 6000001
  at' : k ≤ 6000000 → mach ≤ machAtI cas k dev
  below : ∀ alt, -200000 ≤ alt → alt < k → machAtI cas alt dev < mach
theorem IsCross.uniq {cas mach dev k l : Int} (h : IsCross cas mach dev k) (g : IsCross cas mach dev l) : k = l := by
  rcases Int.lt_trichotomy k l with e | e | e
  · have a := g.below k h.lo e
    have b := h.at' (by have := g.hi; omega)
    omega
  · exact e
  · have a := h.below l g.lo e
    have b := g.at' (by have := h.hi; omega)
    omega
/-- an altitude reaches the Mach number exactly if it is at least the crossover altitude -/
theorem IsCross.iff {cas mach dev k alt : Int} (h : IsCross cas mach dev k) (h0 : 0 ≤ cas) (ha : AltOk alt) (d : DevOk dev) : mach ≤ machAtI cas alt dev ↔ k ≤ alt := by
  constructor
  · intro m
    refine Int.not_lt.1 fun e => ?_
    have := h.below alt ha.lo e
    omega
  · intro e
    have a := h.at' (by have := ha.hi; omega)
    have b := machAt_up h0 (a := k) (b := alt) ⟨h.lo, by have := ha.hi; omega⟩ ha e d
    omega
/-- halving the interval from lo to hi -/
def halve (P : Int → Bool) : Nat → Int → Int → Int
  | 0, lo, hi => lo
  | n + 1, lo, hi => if lo < hi then (if P (lo + (hi - lo) / 2) then halve P n lo (lo + (hi - lo) / 2) else halve P n (lo + (hi - lo) / 2 + 1) hi) else lo
theorem halve_is (P : Int → Bool) : ∀ (n : Nat) (lo hi : Int), hi - lo < 2 ^ n → lo ≤ hi →
    (∀ a b, lo ≤ a → a ≤ b → b < hi → P a = true → P b = true) →
    lo ≤ halve P n lo hi ∧ halve P n lo hi ≤ hi ∧ (halve P n lo hi < hi → P (halve P n lo hi) = true) ∧ ∀ a, lo ≤ a → a < halve P n lo hi → P a = false
  | 0, lo, hi, h, hl, m => by
    have : lo = hi := by simp at h; omega
    subst this
    unfold halve
    exact ⟨by omega, by omega, fun e => absurd e (by omega), fun a _ _ => by omega⟩
  | n + 1, lo, hi, h, hl, m => by
    have h' : hi - lo < 2 * 2 ^ n := by
      have e : (2 : Int) ^ (n + 1) = 2 * 2 ^ n := by rw [Int.pow_succ]; omega
      rw [← e]; exact h
    generalize hp : (2 : Int) ^ n = p at *
    unfold halve
    split
    · generalize hm : lo + (hi - lo) / 2 = c
      have c1 : lo ≤ c := by omega
      have c2 : c < hi := by omega
      split
      · rename_i hc
        obtain ⟨a, b, d, e⟩ := halve_is P n lo c (by rw [hp]; omega) c1 (fun x y hx hy hz => m x y hx hy (by omega))
        refine ⟨a, by omega, fun q => ?_, e⟩
        by_cases z : halve P n lo c < c
        · exact d z
        · rw [show halve P n lo c = c by omega]; exact hc
      · rename_i hc
        obtain ⟨a, b, d, e⟩ := halve_is P n (c + 1) hi (by rw [hp]; omega) (by omega) (fun x y hx hy hz => m x y (by omega) hy hz)
        refine ⟨by omega, b, d, fun x hx hy => ?_⟩
        by_cases z : c + 1 ≤ x
        · exact e x z hy
        · cases f : P x
          · rfl
          · exact absurd (m x c hx (by omega) c2 f) hc
    · exact ⟨by omega, by omega, fun e => absurd e (by omega), fun a _ _ => by omega⟩
def crossI (cas mach dev : Int) : Int := halve (fun alt => decide (mach ≤ machAtI cas alt dev)) 23 (-200000) 6000001
theorem cross_is {cas mach dev : Int} (h0 : 0 ≤ cas) (d : DevOk dev) : IsCross cas mach dev (crossI cas mach dev) := by
  obtain ⟨a, b, c, e⟩ := halve_is (fun alt => decide (mach ≤ machAtI cas alt dev)) 23 (-200000) 6000001 (by decide) (by decide) (fun x y hx hy hz f => by
    have f := of_decide_eq_true f
    have := machAt_up (cas := cas) h0 (a := x) (b := y) ⟨hx, by omega⟩ ⟨by omega, by omega⟩ hy d
    exact decide_eq_true (by omega))
  refine ⟨a, b, fun q => ?_, fun alt ha hb => ?_⟩
  · exact of_decide_eq_true (c (by show crossI cas mach dev < 6000001; omega))
  · have := of_decide_eq_false (e alt ha hb)
    omega
end Go.Proofs.YtnaokohffelklaaDoor
