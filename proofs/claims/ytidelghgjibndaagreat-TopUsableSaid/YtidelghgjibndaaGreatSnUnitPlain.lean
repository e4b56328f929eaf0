/-
  Of the text UnitPlain: what is wanted here.
-/
import Derived.Test.YtidelghgjibndaaGreatSnTrigPlain
namespace Go.Proofs.YtidelghgjibndaaGreat.S41.Un
set_option linter.unusedVariables false
open Tr
/-- the cosine polynomial, scaled by 12! q^12 -/
def PC (a : Int) : Int := 6166453679514784713346296569327669722582720322542921798413521291561896476074567555380541645478042759867472021198843788992462732074511626039516043673600000000000000000000000000000000000000000000000000000000000000 + (-7246949108575251350143260091417005645903811637883345938025869840037565185746958009798562384475514654128105527844245590560864107397390249408593920000000000000000000000000000000000000000000000000000) * a^2 + 1419461766080870473898846428837439007848308010130875256572535668240672215427063708933843995847859736405302328881573469749086726335972245504000000000000000000000000000000000000000000 * a^4 + (-111212134937238282615772721561047188219831028345028818510180752048514392433056633437765155470830914453015905783436171125822976866385920000000000000000000000000000000) * a^6 + 4667817679526498473688304933925744235395296018209030399220428819540652596620464616007819509895445225471282172746473982979473408000000000000000000000 * a^8 + (-121904884899015991505161539053844952535976924070959612758022977196567258464555913296244444816376362055522429560962710241280000000000) * a^10 + 2170685529745407717472598842690998049156415771960250545058348924936429448524466613770616926750801748987827688574976 * a^12
/-- the sine polynomial, scaled by 12! q^12 -/
def PS (a : Int) : Int := 298958110764134471762558935495772185929673873243653262121431612056278484953307513404298233434499822277489562471470111905154196550139140890813267968000000000000000000000000000000000000000000000000000000000 * a + (-117114002466863692186172918191116567615539638919714114737312618302690279904377216330357666874171546417179069911632355803773130386903582061363200000000000000000000000000000000000000000000000) * a^3 + 13763489679625716049949565783356699710034595633768644565783861873964768694327515468506147295694481230062252753585300329378842429362274304000000000000000000000000000000000000 * a^5 + (-770245207441242556362197838880267611204901895128034562535065131834001826454754234562156756168569424671786866664715606728148569292800000000000000000000000000) * a^7 + 25144687465242914070345381529571428337532285212344758645156856040007769757665470846850483214953932938764643869322535040450560000000000000000 * a^9 + (-537283236280361108215242076132670222180193570296228354522532541149218987246196484755808424658461881619846456234370662400000) * a^11
theorem pow_bd {a b : Int} (h0 : 0 ≤ a) (h1 : a ≤ b) : ∀ k : Nat, 0 ≤ a ^ k ∧ a ^ k ≤ b ^ k
  | 0 => by simp
  | k + 1 => by
    obtain ⟨x, y⟩ := pow_bd h0 h1 k
    rw [Int.pow_succ, Int.pow_succ]
    exact ⟨Int.mul_nonneg x h0, Int.mul_le_mul y h1 h0 (by omega)⟩
theorem binoms (a : Int) : (a + 1) ^ 2 = a ^ 2 + 2 * a + 1 ∧ (a + 1) ^ 3 = a ^ 3 + 3 * a ^ 2 + 3 * a + 1 ∧ (a + 1) ^ 4 = a ^ 4 + 4 * a ^ 3 + 6 * a ^ 2 + 4 * a + 1 ∧ (a + 1) ^ 5 = a ^ 5 + 5 * a ^ 4 + 10 * a ^ 3 + 10 * a ^ 2 + 5 * a + 1 ∧ (a + 1) ^ 6 = a ^ 6 + 6 * a ^ 5 + 15 * a ^ 4 + 20 * a ^ 3 + 15 * a ^ 2 + 6 * a + 1 ∧ (a + 1) ^ 7 = a ^ 7 + 7 * a ^ 6 + 21 * a ^ 5 + 35 * a ^ 4 + 35 * a ^ 3 + 21 * a ^ 2 + 7 * a + 1 ∧ (a + 1) ^ 8 = a ^ 8 + 8 * a ^ 7 + 28 * a ^ 6 + 56 * a ^ 5 + 70 * a ^ 4 + 56 * a ^ 3 + 28 * a ^ 2 + 8 * a + 1 ∧ (a + 1) ^ 9 = a ^ 9 + 9 * a ^ 8 + 36 * a ^ 7 + 84 * a ^ 6 + 126 * a ^ 5 + 126 * a ^ 4 + 84 * a ^ 3 + 36 * a ^ 2 + 9 * a + 1 ∧ (a + 1) ^ 10 = a ^ 10 + 10 * a ^ 9 + 45 * a ^ 8 + 120 * a ^ 7 + 210 * a ^ 6 + 252 * a ^ 5 + 210 * a ^ 4 + 120 * a ^ 3 + 45 * a ^ 2 + 10 * a + 1 ∧ (a + 1) ^ 11 = a ^ 11 + 11 * a ^ 10 + 55 * a ^ 9 + 165 * a ^ 8 + 330 * a ^ 7 + 462 * a ^ 6 + 462 * a ^ 5 + 330 * a ^ 4 + 165 * a ^ 3 + 55 * a ^ 2 + 11 * a + 1 ∧ (a + 1) ^ 12 = a ^ 12 + 12 * a ^ 11 + 66 * a ^ 10 + 220 * a ^ 9 + 495 * a ^ 8 + 792 * a ^ 7 + 924 * a ^ 6 + 792 * a ^ 5 + 495 * a ^ 4 + 220 * a ^ 3 + 66 * a ^ 2 + 12 * a + 1 := by
  refine ⟨?_, ?_, ?_, ?_, ?_, ?_, ?_, ?_, ?_, ?_, ?_⟩ <;> grind
theorem stepC {a : Int} (h0 : 0 ≤ a) (h1 : a ≤ 16200000) : -166489124539862454235402800887913629414162940373494989475516101008022365790486779020187351806638977425407423010234213791404873662653432528872038932213634870134752091298989425508259515596800000000000000000000000000000000000000000 ≤ 4841163514704337570822828774462369 * PC (a + 1) - (4841163514704331881383251225537631 * PC a - 234706230432618459955200000 * PS a) ∧ 4841163514704337570822828774462369 * PC (a + 1) - (4841163514704331881383251225537631 * PC a - 234706230432618459955200000 * PS a) ≤ 166489124539862454235402800887913629414162940373494989475516101008022365790486779020187351806638977425407423010234213791404873662653432528872038932213634870134752091298989425508259515596800000000000000000000000000000000000000000 := by
  obtain ⟨b2, b3, b4, b5, b6, b7, b8, b9, b10, b11, b12⟩ := binoms a
  obtain ⟨l2, u2⟩ := pow_bd h0 h1 2
  obtain ⟨l3, u3⟩ := pow_bd h0 h1 3
  obtain ⟨l4, u4⟩ := pow_bd h0 h1 4
  obtain ⟨l5, u5⟩ := pow_bd h0 h1 5
  obtain ⟨l6, u6⟩ := pow_bd h0 h1 6
  obtain ⟨l7, u7⟩ := pow_bd h0 h1 7
  obtain ⟨l8, u8⟩ := pow_bd h0 h1 8
  obtain ⟨l9, u9⟩ := pow_bd h0 h1 9
  obtain ⟨l10, u10⟩ := pow_bd h0 h1 10
  obtain ⟨l11, u11⟩ := pow_bd h0 h1 11
  obtain ⟨l12, u12⟩ := pow_bd h0 h1 12
  unfold PC PS
  simp only [b2, b4, b6, b8, b10, b12]
  have e2 : (16200000:Int) ^ 2 = 262440000000000 := by decide
  rw [e2] at u2
  generalize a ^ 2 = m2 at *
  have e3 : (16200000:Int) ^ 3 = 4251528000000000000000 := by decide
  rw [e3] at u3
  generalize a ^ 3 = m3 at *
  have e4 : (16200000:Int) ^ 4 = 68874753600000000000000000000 := by decide
  rw [e4] at u4
  generalize a ^ 4 = m4 at *
  have e5 : (16200000:Int) ^ 5 = 1115771008320000000000000000000000000 := by decide
  rw [e5] at u5
  generalize a ^ 5 = m5 at *
  have e6 : (16200000:Int) ^ 6 = 18075490334784000000000000000000000000000000 := by decide
  rw [e6] at u6
  generalize a ^ 6 = m6 at *
  have e7 : (16200000:Int) ^ 7 = 292822943423500800000000000000000000000000000000000 := by decide
  rw [e7] at u7
  generalize a ^ 7 = m7 at *
  have e8 : (16200000:Int) ^ 8 = 4743731683460712960000000000000000000000000000000000000000 := by decide
  rw [e8] at u8
  generalize a ^ 8 = m8 at *
  have e9 : (16200000:Int) ^ 9 = 76848453272063549952000000000000000000000000000000000000000000000 := by decide
  rw [e9] at u9
  generalize a ^ 9 = m9 at *
  have e10 : (16200000:Int) ^ 10 = 1244944943007429509222400000000000000000000000000000000000000000000000000 := by decide
  rw [e10] at u10
  generalize a ^ 10 = m10 at *
  have e11 : (16200000:Int) ^ 11 = 20168108076720358049402880000000000000000000000000000000000000000000000000000000 := by decide
  rw [e11] at u11
  generalize a ^ 11 = m11 at *
  have e12 : (16200000:Int) ^ 12 = 326723350842869800400326656000000000000000000000000000000000000000000000000000000000000 := by decide
  rw [e12] at u12
  generalize a ^ 12 = m12 at *
  clear b2 e2 b3 e3 b4 e4 b5 e5 b6 e6 b7 e7 b8 e8 b9 e9 b10 e10 b11 e11 b12 e12
  omega
theorem stepS {a : Int} (h0 : 0 ≤ a) (h1 : a ≤ 16200000) : -166489124539862454235402800887913629414162940373494989475516101008022365790486779020187351806638977425407423010234213791404873662653432528872038932213634870134752091298989425508259515596800000000000000000000000000000000000000000 ≤ 4841163514704337570822828774462369 * PS (a + 1) - (4841163514704331881383251225537631 * PS a + 234706230432618459955200000 * PC a) ∧ 4841163514704337570822828774462369 * PS (a + 1) - (4841163514704331881383251225537631 * PS a + 234706230432618459955200000 * PC a) ≤ 166489124539862454235402800887913629414162940373494989475516101008022365790486779020187351806638977425407423010234213791404873662653432528872038932213634870134752091298989425508259515596800000000000000000000000000000000000000000 := by
  obtain ⟨b2, b3, b4, b5, b6, b7, b8, b9, b10, b11, b12⟩ := binoms a
  obtain ⟨l2, u2⟩ := pow_bd h0 h1 2
  obtain ⟨l3, u3⟩ := pow_bd h0 h1 3
  obtain ⟨l4, u4⟩ := pow_bd h0 h1 4
  obtain ⟨l5, u5⟩ := pow_bd h0 h1 5
  obtain ⟨l6, u6⟩ := pow_bd h0 h1 6
  obtain ⟨l7, u7⟩ := pow_bd h0 h1 7
  obtain ⟨l8, u8⟩ := pow_bd h0 h1 8
  obtain ⟨l9, u9⟩ := pow_bd h0 h1 9
  obtain ⟨l10, u10⟩ := pow_bd h0 h1 10
  obtain ⟨l11, u11⟩ := pow_bd h0 h1 11
  obtain ⟨l12, u12⟩ := pow_bd h0 h1 12
  unfold PC PS
  simp only [b3, b5, b7, b9, b11]
  have e2 : (16200000:Int) ^ 2 = 262440000000000 := by decide
  rw [e2] at u2
  generalize a ^ 2 = m2 at *
  have e3 : (16200000:Int) ^ 3 = 4251528000000000000000 := by decide
  rw [e3] at u3
  generalize a ^ 3 = m3 at *
  have e4 : (16200000:Int) ^ 4 = 68874753600000000000000000000 := by decide
  rw [e4] at u4
  generalize a ^ 4 = m4 at *
  have e5 : (16200000:Int) ^ 5 = 1115771008320000000000000000000000000 := by decide
  rw [e5] at u5
  generalize a ^ 5 = m5 at *
  have e6 : (16200000:Int) ^ 6 = 18075490334784000000000000000000000000000000 := by decide
  rw [e6] at u6
  generalize a ^ 6 = m6 at *
  have e7 : (16200000:Int) ^ 7 = 292822943423500800000000000000000000000000000000000 := by decide
  rw [e7] at u7
  generalize a ^ 7 = m7 at *
  have e8 : (16200000:Int) ^ 8 = 4743731683460712960000000000000000000000000000000000000000 := by decide
  rw [e8] at u8
  generalize a ^ 8 = m8 at *
  have e9 : (16200000:Int) ^ 9 = 76848453272063549952000000000000000000000000000000000000000000000 := by decide
  rw [e9] at u9
  generalize a ^ 9 = m9 at *
  have e10 : (16200000:Int) ^ 10 = 1244944943007429509222400000000000000000000000000000000000000000000000000 := by decide
  rw [e10] at u10
  generalize a ^ 10 = m10 at *
  have e11 : (16200000:Int) ^ 11 = 20168108076720358049402880000000000000000000000000000000000000000000000000000000 := by decide
  rw [e11] at u11
  generalize a ^ 11 = m11 at *
  have e12 : (16200000:Int) ^ 12 = 326723350842869800400326656000000000000000000000000000000000000000000000000000000000000 := by decide
  rw [e12] at u12
  generalize a ^ 12 = m12 at *
  clear b2 e2 b3 e3 b4 e4 b5 e5 b6 e6 b7 e7 b8 e8 b9 e9 b10 e10 b11 e11 b12 e12
  omega
def zx : Rat := 4841163514704331881383251225537631 / 4841163514704337570822828774462369
def zy : Rat := 234706230432618459955200000 / 4841163514704337570822828774462369
theorem z_norm : zx * zx + zy * zy = 1 := by decide +kernel
/-- the powers of the rotation by one unit -/
def XY : Nat → Rat × Rat
  | 0 => (1, 0)
  | n + 1 => (zx * (XY n).1 - zy * (XY n).2, zx * (XY n).2 + zy * (XY n).1)
def X (a : Int) : Rat := (XY a.natAbs).1
def Y (a : Int) : Rat := if 0 ≤ a then (XY a.natAbs).2 else -(XY a.natAbs).2
theorem X_neg (a : Int) : X (-a) = X a := by unfold X; rw [Int.natAbs_neg]
theorem Y_zero : Y 0 = 0 := rfl
theorem X_zero : X 0 = 1 := rfl
theorem Y_neg (a : Int) : Y (-a) = -Y a := by
  unfold Y
  rw [Int.natAbs_neg]
  by_cases h : a = 0
  · subst h; simp [XY]
  · by_cases h1 : 0 ≤ a
    · rw [if_pos h1, if_neg (by omega)]
    · rw [if_neg h1, if_pos (by omega)]; grind
theorem X_nat (n : Nat) : X n = (XY n).1 := by unfold X; simp
theorem Y_nat (n : Nat) : Y n = (XY n).2 := by unfold Y; simp
theorem succ_nat (n : Nat) : X (n + 1 : Int) = zx * X n - zy * Y n ∧ Y (n + 1 : Int) = zx * Y n + zy * X n := by
  have e : ((n : Int) + 1) = ((n + 1 : Nat) : Int) := by omega
  rw [e, X_nat, Y_nat, X_nat, Y_nat]
  exact ⟨rfl, rfl⟩
theorem X_succ (a : Int) : X (a + 1) = zx * X a - zy * Y a := by
  rcases Int.le_total 0 a with h | h
  · obtain ⟨n, rfl⟩ := Int.eq_ofNat_of_zero_le h
    exact (succ_nat n).1
  · by_cases h0 : a = 0
    · subst h0; exact (succ_nat 0).1
    · obtain ⟨n, hn⟩ := Int.eq_ofNat_of_zero_le (show 0 ≤ -(a + 1) by omega)
      have e1 : a + 1 = -(n : Int) := by omega
      have e2 : a = -((n : Int) + 1) := by omega
      obtain ⟨s1, s2⟩ := succ_nat n
      rw [e1, e2, X_neg, X_neg, Y_neg, s1, s2]
      have := z_norm
      generalize zx = c at *; generalize zy = s at *; generalize X n = x at *; generalize Y n = y at *
      grind
theorem Y_succ (a : Int) : Y (a + 1) = zx * Y a + zy * X a := by
  rcases Int.le_total 0 a with h | h
  · obtain ⟨n, rfl⟩ := Int.eq_ofNat_of_zero_le h
    exact (succ_nat n).2
  · by_cases h0 : a = 0
    · subst h0; exact (succ_nat 0).2
    · obtain ⟨n, hn⟩ := Int.eq_ofNat_of_zero_le (show 0 ≤ -(a + 1) by omega)
      have e1 : a + 1 = -(n : Int) := by omega
      have e2 : a = -((n : Int) + 1) := by omega
      obtain ⟨s1, s2⟩ := succ_nat n
      rw [e1, e2, Y_neg, Y_neg, X_neg, s1, s2]
      have := z_norm
      generalize zx = c at *; generalize zy = s at *; generalize X n = x at *; generalize Y n = y at *
      grind
theorem X_pred (a : Int) : X (a - 1) = zx * X a + zy * Y a := by
  have h1 := X_succ (a - 1)
  have h2 := Y_succ (a - 1)
  rw [Int.sub_add_cancel] at h1 h2
  rw [h1, h2]
  have := z_norm
  generalize zx = c at *; generalize zy = s at *; generalize X (a - 1) = x at *; generalize Y (a - 1) = y at *
  grind
theorem Y_pred (a : Int) : Y (a - 1) = zx * Y a - zy * X a := by
  have h1 := X_succ (a - 1)
  have h2 := Y_succ (a - 1)
  rw [Int.sub_add_cancel] at h1 h2
  rw [h1, h2]
  have := z_norm
  generalize zx = c at *; generalize zy = s at *; generalize X (a - 1) = x at *; generalize Y (a - 1) = y at *
  grind
theorem add_nat (a : Int) : ∀ n : Nat, X (a + n) = X a * X n - Y a * Y n ∧ Y (a + n) = Y a * X n + X a * Y n
  | 0 => by
    rw [show a + ((0 : Nat) : Int) = a by omega, show ((0 : Nat) : Int) = 0 by rfl, X_zero, Y_zero]; constructor <;> grind
  | n + 1 => by
    obtain ⟨h1, h2⟩ := add_nat a n
    rw [show a + ((n + 1 : Nat) : Int) = (a + n) + 1 by omega, show ((n + 1 : Nat) : Int) = (n : Int) + 1 by omega, X_succ, Y_succ, X_succ, Y_succ, h1, h2]
    constructor <;> grind
theorem sub_nat (a : Int) : ∀ n : Nat, X (a - n) = X a * X n + Y a * Y n ∧ Y (a - n) = Y a * X n - X a * Y n
  | 0 => by
    rw [show a - ((0 : Nat) : Int) = a by omega, show ((0 : Nat) : Int) = 0 by rfl, X_zero, Y_zero]; constructor <;> grind
  | n + 1 => by
    obtain ⟨h1, h2⟩ := sub_nat a n
    rw [show a - ((n + 1 : Nat) : Int) = (a - n) - 1 by omega, show ((n + 1 : Nat) : Int) = (n : Int) + 1 by omega, X_pred, Y_pred, X_succ, Y_succ, h1, h2]
    constructor <;> grind
theorem add_both (a b : Int) : X (a + b) = X a * X b - Y a * Y b ∧ Y (a + b) = Y a * X b + X a * Y b := by
  rcases Int.le_total 0 b with h | h
  · obtain ⟨n, rfl⟩ := Int.eq_ofNat_of_zero_le h
    exact add_nat a n
  · obtain ⟨n, hn⟩ := Int.eq_ofNat_of_zero_le (show 0 ≤ -b by omega)
    obtain rfl : b = -(n : Int) := by omega
    obtain ⟨h1, h2⟩ := sub_nat a n
    rw [← Int.sub_eq_add_neg, h1, h2, X_neg, Y_neg]
    constructor <;> grind
theorem X_add (a b : Int) : X (a + b) = X a * X b - Y a * Y b := (add_both a b).1
theorem Y_add (a b : Int) : Y (a + b) = Y a * X b + X a * Y b := (add_both a b).2
theorem X_sub (a b : Int) : X (a - b) = X a * X b + Y a * Y b := by
  rw [Int.sub_eq_add_neg, X_add, X_neg, Y_neg]; grind
theorem Y_sub (a b : Int) : Y (a - b) = Y a * X b - X a * Y b := by
  rw [Int.sub_eq_add_neg, Y_add, X_neg, Y_neg]; grind
theorem norm (a : Int) : X a * X a + Y a * Y a = 1 := by
  have h := X_sub a a
  rw [Int.sub_self, X_zero] at h
  exact h.symm
theorem sq_nonneg (x : Rat) : 0 ≤ x * x := by
  rcases Rat.le_total (a := 0) (b := x) with h | h
  · exact Rat.mul_nonneg h h
  · have := Rat.mul_nonneg (a := -x) (b := -x) (by grind) (by grind)
    grind
theorem unit_bd {x y : Rat} (h : x * x + y * y = 1) : -1 ≤ x ∧ x ≤ 1 := by
  have hy := sq_nonneg y
  have hx : x * x ≤ 1 := by grind
  constructor
  · rcases Rat.le_total (a := -1) (b := x) with g | g
    · exact g
    · have := Rat.mul_nonneg (a := -1 - x) (b := -1 - x) (by grind) (by grind)
      grind
  · rcases Rat.le_total (a := x) (b := 1) with g | g
    · exact g
    · have := Rat.mul_nonneg (a := x - 1) (b := x - 1) (by grind) (by grind)
      grind
theorem X_bd (a : Int) : -1 ≤ X a ∧ X a ≤ 1 := unit_bd (norm a)
theorem Y_bd (a : Int) : -1 ≤ Y a ∧ Y a ≤ 1 := unit_bd (x := Y a) (y := X a) (by have := norm a; grind)
/-- a product of a number of size 1 and a small one -/
theorem mul_small {u v e : Rat} (h0 : -1 ≤ u) (h1 : u ≤ 1) (h2 : -e ≤ v) (h3 : v ≤ e) : -e ≤ u * v ∧ u * v ≤ e := by
  have a := Rat.mul_nonneg (a := 1 - u) (b := e - v) (by grind) (by grind)
  have b := Rat.mul_nonneg (a := 1 + u) (b := e + v) (by grind) (by grind)
  have c := Rat.mul_nonneg (a := 1 - u) (b := e + v) (by grind) (by grind)
  have d := Rat.mul_nonneg (a := 1 + u) (b := e - v) (by grind) (by grind)
  constructor <;> grind
def Cq (a : Int) : Rat := (PC a : Rat) / 6166453679514784713346296569327669722582720322542921798413521291561896476074567555380541645478042759867472021198843788992462732074511626039516043673600000000000000000000000000000000000000000000000000000000000000
def Sq (a : Int) : Rat := (PS a : Rat) / 6166453679514784713346296569327669722582720322542921798413521291561896476074567555380541645478042759867472021198843788992462732074511626039516043673600000000000000000000000000000000000000000000000000000000000000
def eps : Rat := 5577 / 1000000000000000000000
theorem cast_le {a b : Int} (h : a ≤ b) : (a : Rat) ≤ (b : Rat) := Rat.intCast_le_intCast.2 h
theorem stepCq {a : Int} (h0 : 0 ≤ a) (h1 : a ≤ 16200000) : -eps ≤ Cq (a + 1) - (zx * Cq a - zy * Sq a) ∧ Cq (a + 1) - (zx * Cq a - zy * Sq a) ≤ eps := by
  obtain ⟨l, u⟩ := stepC h0 h1
  have l := cast_le l
  have u := cast_le u
  simp only [Rat.intCast_mul, Rat.intCast_sub, Rat.intCast_neg, Rat.intCast_ofNat] at l u
  unfold Cq Sq zx zy eps
  generalize (PC (a + 1) : Rat) = x at *
  generalize (PC a : Rat) = y at *
  generalize (PS a : Rat) = z at *
  constructor <;> grind
theorem stepSq {a : Int} (h0 : 0 ≤ a) (h1 : a ≤ 16200000) : -eps ≤ Sq (a + 1) - (zx * Sq a + zy * Cq a) ∧ Sq (a + 1) - (zx * Sq a + zy * Cq a) ≤ eps := by
  obtain ⟨l, u⟩ := stepS h0 h1
  have l := cast_le l
  have u := cast_le u
  simp only [Rat.intCast_mul, Rat.intCast_sub, Rat.intCast_add, Rat.intCast_neg, Rat.intCast_ofNat] at l u
  unfold Cq Sq zx zy eps
  generalize (PS (a + 1) : Rat) = x at *
  generalize (PC a : Rat) = y at *
  generalize (PS a : Rat) = z at *
  constructor <;> grind
def Fx (a : Int) : Rat := X a * Cq a + Y a * Sq a
def Fy (a : Int) : Rat := X a * Sq a - Y a * Cq a
theorem PC0 : PC 0 = 6166453679514784713346296569327669722582720322542921798413521291561896476074567555380541645478042759867472021198843788992462732074511626039516043673600000000000000000000000000000000000000000000000000000000000000 := by decide +kernel
theorem PS0 : PS 0 = 0 := by decide +kernel
theorem C0 : Cq 0 = 1 := by
  unfold Cq
  rw [PC0, Rat.intCast_ofNat]
  grind
theorem S0 : Sq 0 = 0 := by
  unfold Sq
  rw [PS0]
  grind
theorem F_step {a : Int} (h0 : 0 ≤ a) (h1 : a ≤ 16200000) : (-(2 * eps) ≤ Fx (a + 1) - Fx a ∧ Fx (a + 1) - Fx a ≤ 2 * eps) ∧ (-(2 * eps) ≤ Fy (a + 1) - Fy a ∧ Fy (a + 1) - Fy a ≤ 2 * eps) := by
  obtain ⟨l1, u1⟩ := stepCq h0 h1
  obtain ⟨l2, u2⟩ := stepSq h0 h1
  obtain ⟨a1, a2⟩ := X_bd (a + 1)
  obtain ⟨a3, a4⟩ := Y_bd (a + 1)
  have n := z_norm
  have e1 := X_succ a
  have e2 := Y_succ a
  have p1 := mul_small a1 a2 l1 u1
  have p2 := mul_small a1 a2 l2 u2
  have p3 := mul_small a3 a4 l1 u1
  have p4 := mul_small a3 a4 l2 u2
  have i1 : Fx (a + 1) - Fx a = X (a + 1) * (Cq (a + 1) - (zx * Cq a - zy * Sq a)) + Y (a + 1) * (Sq (a + 1) - (zx * Sq a + zy * Cq a)) := by
    unfold Fx
    rw [e1, e2]
    generalize Cq (a + 1) = c1 at *; generalize Sq (a + 1) = s1 at *
    generalize Cq a = c at *; generalize Sq a = s at *
    generalize X a = x at *; generalize Y a = y at *
    generalize zx = u at *; generalize zy = v at *
    clear p1 p2 p3 p4 l1 u1 l2 u2 a1 a2 a3 a4 e1 e2
    grind
  have i2 : Fy (a + 1) - Fy a = X (a + 1) * (Sq (a + 1) - (zx * Sq a + zy * Cq a)) - Y (a + 1) * (Cq (a + 1) - (zx * Cq a - zy * Sq a)) := by
    unfold Fy
    rw [e1, e2]
    generalize Cq (a + 1) = c1 at *; generalize Sq (a + 1) = s1 at *
    generalize Cq a = c at *; generalize Sq a = s at *
    generalize X a = x at *; generalize Y a = y at *
    generalize zx = u at *; generalize zy = v at *
    clear p1 p2 p3 p4 l1 u1 l2 u2 a1 a2 a3 a4 e1 e2
    grind
  rw [i1, i2]
  generalize X (a + 1) * (Cq (a + 1) - (zx * Cq a - zy * Sq a)) = q1 at *
  generalize X (a + 1) * (Sq (a + 1) - (zx * Sq a + zy * Cq a)) = q2 at *
  generalize Y (a + 1) * (Cq (a + 1) - (zx * Cq a - zy * Sq a)) = q3 at *
  generalize Y (a + 1) * (Sq (a + 1) - (zx * Sq a + zy * Cq a)) = q4 at *
  clear i1 i2 l1 u1 l2 u2 e1 e2 n
  refine ⟨⟨?_, ?_⟩, ?_, ?_⟩ <;> grind
theorem F0 : Fx 0 = 1 ∧ Fy 0 = 0 := by
  unfold Fx Fy
  rw [C0, S0, X_zero, Y_zero]
  constructor <;> grind
theorem F_bd (n : Nat) (h : n ≤ 16200000) : (-((n : Rat) * (2 * eps)) ≤ Fx n - 1 ∧ Fx n - 1 ≤ (n : Rat) * (2 * eps)) ∧ (-((n : Rat) * (2 * eps)) ≤ Fy n ∧ Fy n ≤ (n : Rat) * (2 * eps)) := by
  induction n with
  | zero =>
    rw [show ((0 : Nat) : Int) = 0 from rfl, F0.1, F0.2, show ((0 : Nat) : Rat) = 0 by simp]
    generalize eps = e
    refine ⟨⟨?_, ?_⟩, ?_, ?_⟩ <;> grind
  | succ n ih =>
    obtain ⟨⟨a1, a2⟩, a3, a4⟩ := ih (by omega)
    obtain ⟨⟨b1, b2⟩, b3, b4⟩ := F_step (a := (n : Int)) (by omega) (by omega)
    rw [show ((n + 1 : Nat) : Int) = (n : Int) + 1 by omega]
    have e : ((n + 1 : Nat) : Rat) = (n : Rat) + 1 := by simp
    rw [e]
    clear e ih h
    generalize Fx ((n : Int) + 1) = f1 at *
    generalize Fy ((n : Int) + 1) = f2 at *
    generalize Fx (n : Int) = f3 at *
    generalize Fy (n : Int) = f4 at *
    generalize (n : Rat) = m at *
    generalize eps = e at *
    refine ⟨⟨?_, ?_⟩, ?_, ?_⟩ <;> grind
/-- the polynomials are within 5e-10 of the rotation -/
def tol : Rat := 37 / 100000000000
theorem near_poly {a : Int} (h0 : 0 ≤ a) (h1 : a ≤ 16200000) : (-tol ≤ Cq a - X a ∧ Cq a - X a ≤ tol) ∧ (-tol ≤ Sq a - Y a ∧ Sq a - Y a ≤ tol) := by
  obtain ⟨n, rfl⟩ := Int.eq_ofNat_of_zero_le h0
  obtain ⟨⟨a1, a2⟩, a3, a4⟩ := F_bd n (by omega)
  have hn : (n : Rat) ≤ 16200000 := by
    have := cast_le (a := (n : Int)) (b := 16200000) (by omega)
    rw [Rat.intCast_natCast] at this
    simpa using this
  have hn0 : (0 : Rat) ≤ n := by
    have := cast_le (a := 0) (b := (n : Int)) (by omega)
    rw [Rat.intCast_natCast] at this
    simpa using this
  have i1 : Cq n = X n * Fx n - Y n * Fy n := by
    have := norm n
    unfold Fx Fy
    grind
  have i2 : Sq n = Y n * Fx n + X n * Fy n := by
    have := norm n
    unfold Fx Fy
    grind
  obtain ⟨x1, x2⟩ := X_bd n
  obtain ⟨y1, y2⟩ := Y_bd n
  have p1 := mul_small x1 x2 a1 a2
  have p2 := mul_small x1 x2 a3 a4
  have p3 := mul_small y1 y2 a1 a2
  have p4 := mul_small y1 y2 a3 a4
  have hm : (n : Rat) * (2 * eps) * 2 ≤ tol := by unfold eps tol; grind
  have j1 : Cq n - X n = X n * (Fx n - 1) - Y n * Fy n := by rw [i1]; grind
  have j2 : Sq n - Y n = Y n * (Fx n - 1) + X n * Fy n := by rw [i2]; grind
  rw [j1, j2]
  clear i1 i2 j1 j2 a1 a2 a3 a4 x1 x2 y1 y2
  generalize (n : Rat) * (2 * eps) = m at *
  refine ⟨⟨?_, ?_⟩, ?_, ?_⟩ <;> grind
open Tr
/-- half a unit of 2^-31 -/
def hh : Rat := 1 / 4294967296
def nm (n : Int) : Rat := (n : Rat) / 2147483648
/-- the scaled product, normed -/
theorem mul_nm (x y : Int) : -hh ≤ nm (mulI x y) - nm x * nm y ∧ nm (mulI x y) - nm x * nm y ≤ hh := by
  have l : 2147483648 * mulI x y ≤ x * y + 1073741824 := by unfold mulI; omega
  have u : x * y + 1073741824 ≤ 2147483648 * mulI x y + 2147483648 := by unfold mulI; omega
  have l := cast_le l
  have u := cast_le u
  simp only [Rat.intCast_mul, Rat.intCast_add, Rat.intCast_ofNat] at l u
  unfold nm hh
  generalize (mulI x y : Rat) = m at *
  generalize (x : Rat) = x at *
  generalize (y : Rat) = y at *
  constructor <;> grind
theorem div_nm (x : Int) {n : Int} (h0 : 0 < n) (h2 : 2 * (n / 2) = n) : -hh * n ≤ nm ((x + n / 2) / n) * n - nm x ∧ nm ((x + n / 2) / n) * n - nm x ≤ hh * n := by
  have l : 2 * n * ((x + n / 2) / n) ≤ 2 * x + n := by have := Int.mul_ediv_self_le (x := x + n / 2) (k := n) (by omega); rw [Int.mul_assoc]; omega
  have u : 2 * x + n ≤ 2 * n * ((x + n / 2) / n) + 2 * n := by have := Int.lt_mul_ediv_self_add (x := x + n / 2) (k := n) h0; rw [Int.mul_assoc]; omega
  have l := cast_le l
  have u := cast_le u
  simp only [Rat.intCast_mul, Rat.intCast_add, Rat.intCast_ofNat] at l u
  unfold nm hh
  generalize (((x + n / 2) / n : Int) : Rat) = m at *
  generalize (x : Rat) = x at *
  generalize (n : Rat) = n at *
  constructor <;> grind
theorem nm_range {x : Int} (h0 : 0 ≤ x) (h1 : x ≤ 2147483648) : 0 ≤ nm x ∧ nm x ≤ 1 := by
  have l := cast_le h0
  have u := cast_le h1
  simp only [Rat.intCast_ofNat] at l u
  unfold nm
  generalize (x : Rat) = x at *
  constructor <;> grind
theorem prod_bd {a b : Rat} (h0 : 0 ≤ a) (h1 : a ≤ 1) (h2 : 0 ≤ b) (h3 : b ≤ 1) : 0 ≤ a * b ∧ a * b ≤ 1 := by
  have p := Rat.mul_nonneg h0 h2
  have q := Rat.mul_nonneg (a := 1 - a) (b := b) (by grind) h2
  constructor <;> grind
/-- a product of two near numbers -/
theorem prod_near {u w r ρ e f : Rat} (u0 : 0 ≤ u) (u1 : u ≤ 1) (r0 : 0 ≤ ρ) (r1 : ρ ≤ 1) (a0 : -e ≤ u - w) (a1 : u - w ≤ e) (b0 : -f ≤ r - ρ) (b1 : r - ρ ≤ f) :
    -(e + f) ≤ u * r - w * ρ ∧ u * r - w * ρ ≤ e + f := by
  have p := mul_small (u := u) (by grind) u1 b0 b1
  have q := mul_small (u := ρ) (by grind) r1 a0 a1
  have i : u * r - w * ρ = u * (r - ρ) + ρ * (u - w) := by grind
  rw [i]
  constructor <;> grind
theorem hh_pos : 0 ≤ hh := by unfold hh; grind
/-- one step of a series: the error stays small -/
theorem nst_near {u r : Int} {w ρ e : Rat} {n : Int} (k : Rat) (h6 : 2 ≤ n) (h2 : 2 * (n / 2) = n) (u0 : 0 ≤ u) (u1 : u ≤ 2147483648) (r0 : 0 ≤ ρ) (r1 : ρ ≤ 1)
    (a0 : -(3 * hh) ≤ nm u - w) (a1 : nm u - w ≤ 3 * hh) (b0 : -(2 * hh) ≤ nm r - ρ) (b1 : nm r - ρ ≤ 2 * hh) (hk : k * n = w * ρ) (he : 6 * hh + hh * n ≤ e * n) :
    -e ≤ nm (nst n u r) - (1 - k) ∧ nm (nst n u r) - (1 - k) ≤ e := by
  obtain ⟨v0, v1⟩ := nm_range u0 u1
  obtain ⟨p0, p1⟩ := prod_near v0 v1 r0 r1 a0 a1 b0 b1
  obtain ⟨m0, m1⟩ := mul_nm u r
  obtain ⟨d0, d1⟩ := div_nm (mulI u r) (show 0 < n by omega) h2
  have hn : (2 : Rat) ≤ n := by have := cast_le h6; simpa using this
  have i : nm (nst n u r) = 1 - nm ((mulI u r + n / 2) / n) := by
    unfold nm nst
    rw [Rat.intCast_sub, Rat.intCast_ofNat]
    grind
  rw [i]
  generalize nm ((mulI u r + n / 2) / n) = x at *
  generalize nm (mulI u r) = y at *
  generalize nm u * nm r = z at *
  generalize hK : w * ρ = K at *
  have f0 : -(e * n) ≤ (x - k) * n := by grind
  have f1 : (x - k) * n ≤ e * n := by grind
  have g0 : -e ≤ x - k := by
    rcases Rat.le_total (a := -e) (b := x - k) with h | h
    · exact h
    · have := Rat.mul_nonneg (a := -e - (x - k)) (b := (n : Rat) - 1) (by grind) (by grind)
      grind
  have g1 : x - k ≤ e := by
    rcases Rat.le_total (a := x - k) (b := e) with h | h
    · exact h
    · have := Rat.mul_nonneg (a := (x - k) - e) (b := (n : Rat) - 1) (by grind) (by grind)
      grind
  constructor <;> grind
def ang (a : Int) : Rat := 1686629713 / 34789235097600000 * (a : Rat)
theorem ang_bd {a : Int} (h0 : 0 ≤ a) (h1 : a ≤ 16200000) : 0 ≤ ang a ∧ ang a ≤ 79 / 100 := by
  have l := cast_le h0
  have u := cast_le h1
  simp only [Rat.intCast_ofNat] at l u
  unfold ang
  generalize (a : Rat) = x at *
  constructor <;> grind
theorem arg_near {a : Int} (h0 : 0 ≤ a) (h1 : a ≤ 16200000) : -hh ≤ nm (argT a) - ang a ∧ nm (argT a) - ang a ≤ hh := by
  have l : 64800000 * argT a ≤ a * 6746518852 + 32400000 := by unfold argT; omega
  have u : a * 6746518852 ≤ 64800000 * argT a + 32400000 := by unfold argT; omega
  have l := cast_le l
  have u := cast_le u
  simp only [Rat.intCast_mul, Rat.intCast_add, Rat.intCast_ofNat] at l u
  unfold nm hh ang
  generalize (argT a : Rat) = t at *
  generalize (a : Rat) = x at *
  constructor <;> grind
theorem fst_nst (n u : Int) : fst1 n u = nst n u 2147483648 := by
  unfold fst1 nst mulI
  rw [show (u * 2147483648 + 1073741824) / 2147483648 = u by omega]
theorem nm_one : nm 2147483648 = 1 := by decide +kernel
theorem rho_bd {w ρ : Rat} {n : Rat} (hn : 0 ≤ n) (h0 : 0 ≤ w) (h1 : w ≤ 1) (r0 : 0 ≤ ρ) (r1 : ρ ≤ 1) (k : Rat) (hk : k * n = w * ρ) (h2 : 2 ≤ n) : 0 ≤ 1 - k ∧ 1 - k ≤ 1 := by
  obtain ⟨p0, p1⟩ := prod_bd h0 h1 r0 r1
  generalize w * ρ = z at *
  have k0 : 0 ≤ k := by
    rcases Rat.le_total (a := 0) (b := k) with h | h
    · exact h
    · have := Rat.mul_nonneg (a := -k) (b := n - 1) (by grind) (by grind)
      grind
  have k1 : k ≤ 1 := by
    rcases Rat.le_total (a := k) (b := 1) with h | h
    · exact h
    · have := Rat.mul_nonneg (a := k - 1) (b := n - 1) (by grind) (by grind)
      grind
  constructor <;> grind
/-- the two series, nested -/
def rS (w : Rat) : Rat := (1 - w * (1 - w * (1 - w * (1 - w * (1 - w * 1 / 110) / 72) / 42) / 20) / 6)
def rC (w : Rat) : Rat := (1 - w * (1 - w * (1 - w * (1 - w * (1 - w * 1 / 90) / 56) / 30) / 12) / 2)
theorem rS_near {u : Int} {w : Rat} (u0 : 0 ≤ u) (u1 : u ≤ 2147483648) (w0 : 0 ≤ w) (w1 : w ≤ 1) (a0 : -(3 * hh) ≤ nm u - w) (a1 : nm u - w ≤ 3 * hh) : -(2 * hh) ≤ nm (sinR u) - rS w ∧ nm (sinR u) - rS w ≤ 2 * hh := by
  have hp := hh_pos
  have s0 := nst_near (u := u) (r := 2147483648) (w := w) (ρ := 1) (e := 2 * hh) (n := 110) (w * 1 / 110) (by decide) (by decide) u0 u1 (by grind) (by grind) a0 a1 (by rw [nm_one]; grind) (by rw [nm_one]; grind) (by rw [Rat.intCast_ofNat]; grind) (by rw [Rat.intCast_ofNat]; grind)
  have q0 := rho_bd (w := w) (ρ := 1) (n := 110) (by grind) w0 w1 (by grind) (by grind) (w * 1 / 110) (by grind) (by grind)
  have s1 := nst_near (u := u) (r := (nst 110 u 2147483648)) (w := w) (ρ := (1 - w * 1 / 110)) (e := 2 * hh) (n := 72) (w * (1 - w * 1 / 110) / 72) (by decide) (by decide) u0 u1 q0.1 q0.2 a0 a1 s0.1 s0.2 (by rw [Rat.intCast_ofNat]; grind) (by rw [Rat.intCast_ofNat]; grind)
  have q1 := rho_bd (w := w) (ρ := (1 - w * 1 / 110)) (n := 72) (by grind) w0 w1 q0.1 q0.2 (w * (1 - w * 1 / 110) / 72) (by grind) (by grind)
  have s2 := nst_near (u := u) (r := (nst 72 u (nst 110 u 2147483648))) (w := w) (ρ := (1 - w * (1 - w * 1 / 110) / 72)) (e := 2 * hh) (n := 42) (w * (1 - w * (1 - w * 1 / 110) / 72) / 42) (by decide) (by decide) u0 u1 q1.1 q1.2 a0 a1 s1.1 s1.2 (by rw [Rat.intCast_ofNat]; grind) (by rw [Rat.intCast_ofNat]; grind)
  have q2 := rho_bd (w := w) (ρ := (1 - w * (1 - w * 1 / 110) / 72)) (n := 42) (by grind) w0 w1 q1.1 q1.2 (w * (1 - w * (1 - w * 1 / 110) / 72) / 42) (by grind) (by grind)
  have s3 := nst_near (u := u) (r := (nst 42 u (nst 72 u (nst 110 u 2147483648)))) (w := w) (ρ := (1 - w * (1 - w * (1 - w * 1 / 110) / 72) / 42)) (e := 2 * hh) (n := 20) (w * (1 - w * (1 - w * (1 - w * 1 / 110) / 72) / 42) / 20) (by decide) (by decide) u0 u1 q2.1 q2.2 a0 a1 s2.1 s2.2 (by rw [Rat.intCast_ofNat]; grind) (by rw [Rat.intCast_ofNat]; grind)
  have q3 := rho_bd (w := w) (ρ := (1 - w * (1 - w * (1 - w * 1 / 110) / 72) / 42)) (n := 20) (by grind) w0 w1 q2.1 q2.2 (w * (1 - w * (1 - w * (1 - w * 1 / 110) / 72) / 42) / 20) (by grind) (by grind)
  have s4 := nst_near (u := u) (r := (nst 20 u (nst 42 u (nst 72 u (nst 110 u 2147483648))))) (w := w) (ρ := (1 - w * (1 - w * (1 - w * (1 - w * 1 / 110) / 72) / 42) / 20)) (e := 2 * hh) (n := 6) (w * (1 - w * (1 - w * (1 - w * (1 - w * 1 / 110) / 72) / 42) / 20) / 6) (by decide) (by decide) u0 u1 q3.1 q3.2 a0 a1 s3.1 s3.2 (by rw [Rat.intCast_ofNat]; grind) (by rw [Rat.intCast_ofNat]; grind)
  have q4 := rho_bd (w := w) (ρ := (1 - w * (1 - w * (1 - w * (1 - w * 1 / 110) / 72) / 42) / 20)) (n := 6) (by grind) w0 w1 q3.1 q3.2 (w * (1 - w * (1 - w * (1 - w * (1 - w * 1 / 110) / 72) / 42) / 20) / 6) (by grind) (by grind)
  unfold sinR rS
  rw [fst_nst]
  exact s4
theorem rC_near {u : Int} {w : Rat} (u0 : 0 ≤ u) (u1 : u ≤ 2147483648) (w0 : 0 ≤ w) (w1 : w ≤ 1) (a0 : -(3 * hh) ≤ nm u - w) (a1 : nm u - w ≤ 3 * hh) : -(4 * hh) ≤ nm (cosR u) - rC w ∧ nm (cosR u) - rC w ≤ 4 * hh := by
  have hp := hh_pos
  have s0 := nst_near (u := u) (r := 2147483648) (w := w) (ρ := 1) (e := 2 * hh) (n := 90) (w * 1 / 90) (by decide) (by decide) u0 u1 (by grind) (by grind) a0 a1 (by rw [nm_one]; grind) (by rw [nm_one]; grind) (by rw [Rat.intCast_ofNat]; grind) (by rw [Rat.intCast_ofNat]; grind)
  have q0 := rho_bd (w := w) (ρ := 1) (n := 90) (by grind) w0 w1 (by grind) (by grind) (w * 1 / 90) (by grind) (by grind)
  have s1 := nst_near (u := u) (r := (nst 90 u 2147483648)) (w := w) (ρ := (1 - w * 1 / 90)) (e := 2 * hh) (n := 56) (w * (1 - w * 1 / 90) / 56) (by decide) (by decide) u0 u1 q0.1 q0.2 a0 a1 s0.1 s0.2 (by rw [Rat.intCast_ofNat]; grind) (by rw [Rat.intCast_ofNat]; grind)
  have q1 := rho_bd (w := w) (ρ := (1 - w * 1 / 90)) (n := 56) (by grind) w0 w1 q0.1 q0.2 (w * (1 - w * 1 / 90) / 56) (by grind) (by grind)
  have s2 := nst_near (u := u) (r := (nst 56 u (nst 90 u 2147483648))) (w := w) (ρ := (1 - w * (1 - w * 1 / 90) / 56)) (e := 2 * hh) (n := 30) (w * (1 - w * (1 - w * 1 / 90) / 56) / 30) (by decide) (by decide) u0 u1 q1.1 q1.2 a0 a1 s1.1 s1.2 (by rw [Rat.intCast_ofNat]; grind) (by rw [Rat.intCast_ofNat]; grind)
  have q2 := rho_bd (w := w) (ρ := (1 - w * (1 - w * 1 / 90) / 56)) (n := 30) (by grind) w0 w1 q1.1 q1.2 (w * (1 - w * (1 - w * 1 / 90) / 56) / 30) (by grind) (by grind)
  have s3 := nst_near (u := u) (r := (nst 30 u (nst 56 u (nst 90 u 2147483648)))) (w := w) (ρ := (1 - w * (1 - w * (1 - w * 1 / 90) / 56) / 30)) (e := 2 * hh) (n := 12) (w * (1 - w * (1 - w * (1 - w * 1 / 90) / 56) / 30) / 12) (by decide) (by decide) u0 u1 q2.1 q2.2 a0 a1 s2.1 s2.2 (by rw [Rat.intCast_ofNat]; grind) (by rw [Rat.intCast_ofNat]; grind)
  have q3 := rho_bd (w := w) (ρ := (1 - w * (1 - w * (1 - w * 1 / 90) / 56) / 30)) (n := 12) (by grind) w0 w1 q2.1 q2.2 (w * (1 - w * (1 - w * (1 - w * 1 / 90) / 56) / 30) / 12) (by grind) (by grind)
  have s4 := nst_near (u := u) (r := (nst 12 u (nst 30 u (nst 56 u (nst 90 u 2147483648))))) (w := w) (ρ := (1 - w * (1 - w * (1 - w * (1 - w * 1 / 90) / 56) / 30) / 12)) (e := 4 * hh) (n := 2) (w * (1 - w * (1 - w * (1 - w * (1 - w * 1 / 90) / 56) / 30) / 12) / 2) (by decide) (by decide) u0 u1 q3.1 q3.2 a0 a1 s3.1 s3.2 (by rw [Rat.intCast_ofNat]; grind) (by rw [Rat.intCast_ofNat]; grind)
  have q4 := rho_bd (w := w) (ρ := (1 - w * (1 - w * (1 - w * (1 - w * 1 / 90) / 56) / 30) / 12)) (n := 2) (by grind) w0 w1 q3.1 q3.2 (w * (1 - w * (1 - w * (1 - w * (1 - w * 1 / 90) / 56) / 30) / 12) / 2) (by grind) (by grind)
  unfold cosR rC
  rw [fst_nst]
  exact s4
theorem Sq_poly (a : Int) : Sq a = ang a * rS (ang a * ang a) := by
  unfold Sq PS ang rS
  simp only [Rat.intCast_add, Rat.intCast_mul, Rat.intCast_pow, Rat.intCast_neg, Rat.intCast_ofNat]
  generalize (a : Rat) = x
  grind
theorem Cq_poly (a : Int) : Cq a = rC (ang a * ang a) + (ang a * ang a) * (ang a * ang a) * (ang a * ang a) * ((ang a * ang a) * (ang a * ang a) * (ang a * ang a)) / 479001600 := by
  unfold Cq PC ang rC
  simp only [Rat.intCast_add, Rat.intCast_mul, Rat.intCast_pow, Rat.intCast_neg, Rat.intCast_ofNat]
  generalize (a : Rat) = x
  grind
theorem half_near {m : Int} : -(2 * hh) ≤ (((m + 1) / 2 : Int) : Rat) / 1073741824 - nm m ∧ (((m + 1) / 2 : Int) : Rat) / 1073741824 - nm m ≤ 2 * hh := by
  have l : 2 * ((m + 1) / 2) ≤ m + 1 := by omega
  have u : m ≤ 2 * ((m + 1) / 2) := by omega
  have l := cast_le l
  have u := cast_le u
  simp only [Rat.intCast_mul, Rat.intCast_add, Rat.intCast_ofNat] at l u
  unfold nm hh
  generalize (((m + 1) / 2 : Int) : Rat) = t at *
  generalize (m : Rat) = x at *
  constructor <;> grind
/-- on the first octant the integer sine and cosine are within 3 of the rotation's -/
theorem octant {a : Int} (h0 : 0 ≤ a) (h1 : a ≤ 16200000) :
    (-3 ≤ (sineI a : Rat) - 1073741824 * Y a ∧ (sineI a : Rat) - 1073741824 * Y a ≤ 3) ∧ (-3 ≤ (cosineI a : Rat) - 1073741824 * X a ∧ (cosineI a : Rat) - 1073741824 * X a ≤ 3) := by
  obtain ⟨t0, t1⟩ := argT_range h0 h1
  obtain ⟨g0, g1⟩ := ang_bd h0 h1
  obtain ⟨n0, n1⟩ := arg_near h0 h1
  obtain ⟨⟨k0, k1⟩, k2, k3⟩ := near_poly h0 h1
  have t2 : argT a ≤ 2147483648 := by unfold TM at t1; omega
  obtain ⟨u0, u1⟩ := mulI_self t0 t1
  have u2 : mulI (argT a) (argT a) ≤ 2147483648 := by unfold UM at u1; omega
  obtain ⟨v0, v1⟩ := nm_range t0 t2
  obtain ⟨w0, w1⟩ := prod_bd g0 (show ang a ≤ 1 by grind) g0 (show ang a ≤ 1 by grind)
  obtain ⟨p0, p1⟩ := prod_near v0 v1 g0 (show ang a ≤ 1 by grind) n0 n1 n0 n1
  obtain ⟨m0, m1⟩ := mul_nm (argT a) (argT a)
  have hp := hh_pos
  obtain ⟨a0, a1⟩ : -(3 * hh) ≤ nm (mulI (argT a) (argT a)) - ang a * ang a ∧ nm (mulI (argT a) (argT a)) - ang a * ang a ≤ 3 * hh := by constructor <;> grind
  obtain ⟨s0, s1⟩ := rS_near u0 u2 w0 w1 a0 a1
  obtain ⟨c0, c1⟩ := rC_near u0 u2 w0 w1 a0 a1
  rw [Sq_poly] at k2 k3
  rw [Cq_poly] at k0 k1
  have hw : ang a * ang a ≤ 63 / 100 := by
    have := Rat.mul_nonneg (a := 79 / 100 - ang a) (b := 79 / 100 + ang a) (by grind) (by grind)
    grind
  have hr : 0 ≤ rS (ang a * ang a) ∧ rS (ang a * ang a) ≤ 1 := by
    have q0 := rho_bd (w := ang a * ang a) (ρ := 1) (n := 110) (by grind) w0 w1 (by grind) (by grind) (ang a * ang a * 1 / 110) (by grind) (by grind)
    have q1 := rho_bd (w := ang a * ang a) (n := 72) (by grind) w0 w1 q0.1 q0.2 (ang a * ang a * (1 - ang a * ang a * 1 / 110) / 72) (by grind) (by grind)
    have q2 := rho_bd (w := ang a * ang a) (n := 42) (by grind) w0 w1 q1.1 q1.2 (ang a * ang a * (1 - ang a * ang a * (1 - ang a * ang a * 1 / 110) / 72) / 42) (by grind) (by grind)
    have q3 := rho_bd (w := ang a * ang a) (n := 20) (by grind) w0 w1 q2.1 q2.2 (ang a * ang a * (1 - ang a * ang a * (1 - ang a * ang a * (1 - ang a * ang a * 1 / 110) / 72) / 42) / 20) (by grind) (by grind)
    exact rho_bd (w := ang a * ang a) (n := 6) (by grind) w0 w1 q3.1 q3.2 (ang a * ang a * (1 - ang a * ang a * (1 - ang a * ang a * (1 - ang a * ang a * (1 - ang a * ang a * 1 / 110) / 72) / 42) / 20) / 6) (by grind) (by grind)
  obtain ⟨x0, x1⟩ := mul_nm (argT a) (sinR (mulI (argT a) (argT a)))
  obtain ⟨y0, y1⟩ := prod_near v0 v1 hr.1 hr.2 n0 n1 s0 s1
  obtain ⟨z0, z1⟩ := half_near (m := mulI (argT a) (sinR (mulI (argT a) (argT a))))
  obtain ⟨z2, z3⟩ := half_near (m := cosR (mulI (argT a) (argT a)))
  have e1 : sineI a = (mulI (argT a) (sinR (mulI (argT a) (argT a))) + 1) / 2 := rfl
  have e2 : cosineI a = (cosR (mulI (argT a) (argT a)) + 1) / 2 := rfl
  rw [← e1] at z0 z1
  rw [← e2] at z2 z3
  generalize ang a * ang a = w at *
  -- w^6 ≤ 63/1000
  obtain ⟨b0, b1⟩ : 0 ≤ w * w ∧ w * w ≤ 4 / 10 := by
    have h3 := Rat.mul_nonneg w0 w0
    have h4 := Rat.mul_nonneg (a := 63 / 100 - w) (b := 63 / 100 + w) (by grind) (by grind)
    constructor <;> grind
  obtain ⟨b2, b3⟩ : 0 ≤ w * w * w ∧ w * w * w ≤ 252 / 1000 := by
    have h3 := Rat.mul_nonneg b0 w0
    have h4 := Rat.mul_nonneg (a := 4 / 10 - w * w) (b := w) (by grind) w0
    constructor <;> grind
  obtain ⟨b4, b5⟩ : 0 ≤ w * w * w * (w * w * w) ∧ w * w * w * (w * w * w) ≤ 64 / 1000 := by
    have h3 := Rat.mul_nonneg b2 b2
    have h4 := Rat.mul_nonneg (a := 252 / 1000 - w * w * w) (b := 252 / 1000 + w * w * w) (by grind) (by grind)
    constructor <;> grind
  generalize w * w * w * (w * w * w) = w6 at *
  generalize rS w = rs at *
  generalize rC w = rc at *
  generalize (sineI a : Rat) = si at *
  generalize (cosineI a : Rat) = ci at *
  generalize nm (mulI (argT a) (sinR (mulI (argT a) (argT a)))) = x2 at *
  generalize nm (argT a) * nm (sinR (mulI (argT a) (argT a))) = x3 at *
  generalize ang a * rs = x4 at *
  generalize nm (cosR (mulI (argT a) (argT a))) = x5 at *
  generalize X a = xx at *
  generalize Y a = yy at *
  clear n0 n1 t0 t1 t2 u0 u1 u2 v0 v1 p0 p1 m0 m1 a0 a1 hr b0 b1 b2 b3 hw w0 w1 g0 g1 s0 s1 e1 e2
  unfold hh tol at *
  refine ⟨⟨?_, ?_⟩, ?_, ?_⟩ <;> grind
theorem PCE : 707106781208422 * 6166453679514784713346296569327669722582720322542921798413521291561896476074567555380541645478042759867472021198843788992462732074511626039516043673600000000000000000000000000000000000000000000000000000000000000 ≤ 1000000000000000 * PC 16200000 ∧ 1000000000000000 * PC 16200000 ≤ 707106781208423 * 6166453679514784713346296569327669722582720322542921798413521291561896476074567555380541645478042759867472021198843788992462732074511626039516043673600000000000000000000000000000000000000000000000000000000000000 := by decide +kernel
theorem PSE : 707106781158133 * 6166453679514784713346296569327669722582720322542921798413521291561896476074567555380541645478042759867472021198843788992462732074511626039516043673600000000000000000000000000000000000000000000000000000000000000 ≤ 1000000000000000 * PS 16200000 ∧ 1000000000000000 * PS 16200000 ≤ 707106781158134 * 6166453679514784713346296569327669722582720322542921798413521291561896476074567555380541645478042759867472021198843788992462732074511626039516043673600000000000000000000000000000000000000000000000000000000000000 := by decide +kernel
theorem CqE : (707106781208422:Rat) / 1000000000000000 ≤ Cq 16200000 ∧ Cq 16200000 ≤ (707106781208423:Rat) / 1000000000000000 := by
  obtain ⟨l, u⟩ := PCE
  have l := cast_le l
  have u := cast_le u
  simp only [Rat.intCast_mul, Rat.intCast_ofNat] at l u
  unfold Cq
  generalize (PC 16200000 : Rat) = x at *
  constructor <;> grind
theorem SqE : (707106781158133:Rat) / 1000000000000000 ≤ Sq 16200000 ∧ Sq 16200000 ≤ (707106781158134:Rat) / 1000000000000000 := by
  obtain ⟨l, u⟩ := PSE
  have l := cast_le l
  have u := cast_le u
  simp only [Rat.intCast_mul, Rat.intCast_ofNat] at l u
  unfold Sq
  generalize (PS 16200000 : Rat) = x at *
  constructor <;> grind
theorem mul_ge {a b c d : Rat} (h0 : 0 ≤ a) (h1 : a ≤ b) (h2 : 0 ≤ c) (h3 : c ≤ d) : a * c ≤ b * d ∧ 0 ≤ a * c := by
  have p := Rat.mul_nonneg h0 h2
  have q := Rat.mul_nonneg (a := b - a) (b := c) (by grind) h2
  have r := Rat.mul_nonneg (a := b) (b := d - c) (by grind) (by grind)
  constructor <;> grind
/-- a quarter turn of the rotation -/
theorem quarterXY : (-(13 / 10000000000) ≤ X 32400000 ∧ X 32400000 ≤ 13 / 10000000000) ∧ (1 - 13 / 10000000000 ≤ Y 32400000 ∧ Y 32400000 ≤ 1) := by
  obtain ⟨⟨k0, k1⟩, k2, k3⟩ := near_poly (a := 16200000) (by decide) (by decide)
  obtain ⟨c0, c1⟩ := CqE
  obtain ⟨s0, s1⟩ := SqE
  have ex := X_add 16200000 16200000
  have ey := Y_add 16200000 16200000
  rw [show (16200000 : Int) + 16200000 = 32400000 by decide] at ex ey
  have hY := (Y_bd 32400000).2
  rw [ey] at hY
  rw [ex, ey]
  clear ex ey
  unfold tol at *
  generalize X 16200000 = x at *
  generalize Y 16200000 = y at *
  generalize Cq 16200000 = c at *
  generalize Sq 16200000 = s at *
  have a0 : (707106780838421:Rat) / 1000000000000000 ≤ x := by grind
  have a1 : x ≤ (707106781578423:Rat) / 1000000000000000 := by grind
  have b0 : (707106780788132:Rat) / 1000000000000000 ≤ y := by grind
  have b1 : y ≤ (707106781528134:Rat) / 1000000000000000 := by grind
  clear k0 k1 k2 k3 c0 c1 s0 s1
  have px : 0 ≤ x := by grind
  have py : 0 ≤ y := by grind
  have m1 := (mul_ge (a := (707106780838421:Rat) / 1000000000000000) (by decide +kernel) a0 (by decide +kernel) a0).1
  have m2 := (mul_ge (a := x) px a1 px a1).1
  have m3 := (mul_ge (a := (707106780788132:Rat) / 1000000000000000) (by decide +kernel) b0 (by decide +kernel) b0).1
  have m4 := (mul_ge (a := y) py b1 py b1).1
  have m5 := (mul_ge (a := (707106780788132:Rat) / 1000000000000000) (by decide +kernel) b0 (by decide +kernel) a0).1
  rw [show (707106780838421:Rat) / 1000000000000000 * ((707106780838421:Rat) / 1000000000000000) = 499999999507674747891709773241 / 1000000000000000000000000000000 by decide +kernel] at m1
  rw [show (707106781578423:Rat) / 1000000000000000 * ((707106781578423:Rat) / 1000000000000000) = 500000000554195612507299166929 / 1000000000000000000000000000000 by decide +kernel] at m2
  rw [show (707106780788132:Rat) / 1000000000000000 * ((707106780788132:Rat) / 1000000000000000) = 499999999436555362091072049424 / 1000000000000000000000000000000 by decide +kernel] at m3
  rw [show (707106781528134:Rat) / 1000000000000000 * ((707106781528134:Rat) / 1000000000000000) = 500000000483076226632233521956 / 1000000000000000000000000000000 by decide +kernel] at m4
  rw [show (707106780788132:Rat) / 1000000000000000 * ((707106780838421:Rat) / 1000000000000000) = 499999999472115054990126419572 / 1000000000000000000000000000000 by decide +kernel] at m5
  generalize x * x = xx at *
  generalize y * y = yy at *
  have e : x * y = y * x := by grind
  rw [e] at hY ⊢
  clear e
  generalize y * x = xy at *
  refine ⟨⟨?_, ?_⟩, ?_, ?_⟩ <;> grind
/-- an almost whole turn changes little -/
theorem rot_near {p q x y e : Rat} (p0 : 1 - e ≤ p) (p1 : p ≤ 1) (q0 : -e ≤ q) (q1 : q ≤ e) (x0 : -1 ≤ x) (x1 : x ≤ 1) (y0 : -1 ≤ y) (y1 : y ≤ 1) : -(2 * e) ≤ p * x + q * y - x ∧ p * x + q * y - x ≤ 2 * e := by
  have a := mul_small x0 x1 (v := p - 1) (e := e) (by grind) (by grind)
  have b := mul_small y0 y1 q0 q1
  have i : p * x + q * y - x = x * (p - 1) + y * q := by grind
  rw [i]
  constructor <;> grind
def kq : Rat := 13 / 10000000000
theorem qX : -kq ≤ X 32400000 ∧ X 32400000 ≤ kq := by unfold kq; exact quarterXY.1
theorem qY : 1 - kq ≤ Y 32400000 ∧ Y 32400000 ≤ 1 := by unfold kq; exact quarterXY.2
/-- half a turn -/
theorem half_turn : X 64800000 ≤ -(1 - 2 * kq) ∧ -1 ≤ X 64800000 ∧ -(2 * kq) ≤ Y 64800000 ∧ Y 64800000 ≤ 2 * kq := by
  have ex := X_add 32400000 32400000
  have ey := Y_add 32400000 32400000
  rw [show (32400000 : Int) + 32400000 = 64800000 by decide] at ex ey
  obtain ⟨a0, a1⟩ := qX
  obtain ⟨b0, b1⟩ := qY
  have hX := (X_bd 64800000).1
  rw [ex] at hX
  rw [ex, ey]
  clear ex ey
  generalize X 32400000 = x at *
  generalize Y 32400000 = y at *
  have k0 : 0 ≤ kq ∧ kq ≤ 1 / 4 := by unfold kq; constructor <;> grind
  obtain ⟨k0, k1⟩ := k0
  have m1 := mul_small (u := x) (v := x) (e := kq) (by grind) (by grind) a0 a1
  have m2 := mul_small (u := y) (v := x) (e := kq) (by grind) (by grind) a0 a1
  have m3 := mul_small (u := x) (v := x) (e := kq) (by grind) (by grind) a0 a1
  have m4 := (mul_ge (a := 1 - kq) (b := y) (c := 1 - kq) (d := y) (by grind) b0 (by grind) b0).1
  have m5 : x * x ≤ kq * kq := by
    have := Rat.mul_nonneg (a := kq - x) (b := kq + x) (by grind) (by grind)
    grind
  generalize kq = k at *
  refine ⟨?_, ?_, ?_, ?_⟩ <;> grind
theorem whole_turn : 1 - 4 * kq ≤ X 129600000 ∧ X 129600000 ≤ 1 ∧ -(4 * kq) ≤ Y 129600000 ∧ Y 129600000 ≤ 4 * kq := by
  have ex := X_add 64800000 64800000
  have ey := Y_add 64800000 64800000
  rw [show (64800000 : Int) + 64800000 = 129600000 by decide] at ex ey
  obtain ⟨a0, a1, a2, a3⟩ := half_turn
  have hX := (X_bd 129600000).2
  rw [ex] at hX
  rw [ex, ey]
  clear ex ey
  generalize X 64800000 = x at *
  generalize Y 64800000 = y at *
  have k0 : 0 ≤ kq ∧ kq ≤ 1 / 4 := by unfold kq; constructor <;> grind
  obtain ⟨k0, k1⟩ := k0
  have m2 := mul_small (u := x) (v := y) (e := 2 * kq) (by grind) (by grind) a2 a3
  have m4 := (mul_ge (a := 1 - 2 * kq) (b := -x) (c := 1 - 2 * kq) (d := -x) (by grind) (by grind) (by grind) (by grind)).1
  have m5 : y * y ≤ 2 * kq * (2 * kq) := by
    have := Rat.mul_nonneg (a := 2 * kq - y) (b := 2 * kq + y) (by grind) (by grind)
    grind
  generalize kq = k at *
  refine ⟨?_, ?_, ?_, ?_⟩ <;> grind
theorem three_turn : (-(3 * kq) ≤ X 97200000 ∧ X 97200000 ≤ 3 * kq) ∧ (-1 ≤ Y 97200000 ∧ Y 97200000 ≤ -(1 - 3 * kq)) := by
  have ex := X_add 64800000 32400000
  have ey := Y_add 64800000 32400000
  rw [show (64800000 : Int) + 32400000 = 97200000 by decide] at ex ey
  obtain ⟨a0, a1, a2, a3⟩ := half_turn
  obtain ⟨b0, b1⟩ := qX
  obtain ⟨b2, b3⟩ := qY
  have hY := (Y_bd 97200000).1
  rw [ey] at hY
  rw [ex, ey]
  clear ex ey
  generalize X 64800000 = x at *
  generalize Y 64800000 = y at *
  generalize X 32400000 = u at *
  generalize Y 32400000 = v at *
  have k0 : 0 ≤ kq ∧ kq ≤ 1 / 4 := by unfold kq; constructor <;> grind
  obtain ⟨k0, k1⟩ := k0
  have m1 := mul_small (u := x) (v := u) (e := kq) (by grind) (by grind) b0 b1
  have m2 := mul_small (u := v) (v := y) (e := 2 * kq) (by grind) (by grind) a2 a3
  have m3 : -(2 * kq * kq) ≤ y * u ∧ y * u ≤ 2 * kq * kq := by
    have h1 := Rat.mul_nonneg (a := 2 * kq - y) (b := kq - u) (by grind) (by grind)
    have h2 := Rat.mul_nonneg (a := 2 * kq + y) (b := kq + u) (by grind) (by grind)
    have h3 := Rat.mul_nonneg (a := 2 * kq - y) (b := kq + u) (by grind) (by grind)
    have h4 := Rat.mul_nonneg (a := 2 * kq + y) (b := kq - u) (by grind) (by grind)
    constructor <;> grind
  have m4 := (mul_ge (a := 1 - 2 * kq) (b := -x) (c := 1 - kq) (d := v) (by grind) (by grind) (by grind) (by grind)).1
  generalize kq = k at *
  refine ⟨⟨?_, ?_⟩, ?_, ?_⟩ <;> grind
theorem quarter_near {b : Int} (h0 : 0 ≤ b) (h1 : b ≤ 32400000) : -7 ≤ (quarterI b : Rat) - 1073741824 * Y b ∧ (quarterI b : Rat) - 1073741824 * Y b ≤ 7 := by
  unfold quarterI
  by_cases h : b ≤ 16200000
  · rw [if_pos h]
    obtain ⟨⟨a0, a1⟩, _⟩ := octant h0 h
    constructor <;> grind
  · rw [if_neg h]
    obtain ⟨_, a0, a1⟩ := octant (a := 32400000 - b) (by omega) (by omega)
    have e := X_sub 32400000 b
    obtain ⟨c0, c1⟩ := qX
    obtain ⟨c2, c3⟩ := qY
    obtain ⟨x0, x1⟩ := X_bd b
    obtain ⟨y0, y1⟩ := Y_bd b
    have r := rot_near c2 c3 c0 c1 y0 y1 x0 x1
    rw [show Y 32400000 * Y b + X 32400000 * X b = X (32400000 - b) by rw [e]; grind] at r
    clear e c0 c1 c2 c3 x0 x1 y0 y1
    generalize X (32400000 - b) = u at *
    generalize Y b = v at *
    generalize (cosineI (32400000 - b) : Rat) = c at *
    unfold kq at r
    constructor <;> grind
/-- the integer sine is near the rotation's -/
theorem sin_near {b : Int} (h0 : 0 ≤ b) (h1 : b < 129600000) : -19 ≤ (sinI b : Rat) - 1073741824 * Y b ∧ (sinI b : Rat) - 1073741824 * Y b ≤ 19 := by
  have hn : normI b = b := by unfold normI; omega
  unfold sinI
  rw [hn]
  unfold sinB
  obtain ⟨x0, x1⟩ := X_bd b
  obtain ⟨y0, y1⟩ := Y_bd b
  obtain ⟨a0, a1, a2, a3⟩ := half_turn
  obtain ⟨w0, w1, w2, w3⟩ := whole_turn
  by_cases c1 : b ≤ 32400000
  · rw [if_pos c1]
    obtain ⟨q0, q1⟩ := quarter_near h0 c1
    constructor <;> grind
  rw [if_neg c1]
  by_cases c2 : b ≤ 64800000
  · rw [if_pos c2]
    obtain ⟨q0, q1⟩ := quarter_near (b := 64800000 - b) (by omega) (by omega)
    have e := Y_sub 64800000 b
    have r := rot_near (p := -X 64800000) (q := Y 64800000) (e := 2 * kq) (by grind) (by grind) a2 a3 y0 y1 x0 x1
    rw [show -X 64800000 * Y b + Y 64800000 * X b = Y (64800000 - b) by rw [e]; grind] at r
    clear e x0 x1 y0 y1 a0 a1 a2 a3 w0 w1 w2 w3
    generalize Y (64800000 - b) = u at *
    generalize Y b = v at *
    generalize (quarterI (64800000 - b) : Rat) = c at *
    unfold kq at r
    constructor <;> grind
  rw [if_neg c2]
  by_cases c3 : b ≤ 97200000
  · rw [if_pos c3]
    obtain ⟨q0, q1⟩ := quarter_near (b := b - 64800000) (by omega) (by omega)
    have e := Y_sub b 64800000
    have r := rot_near (p := -X 64800000) (q := Y 64800000) (e := 2 * kq) (by grind) (by grind) a2 a3 y0 y1 x0 x1
    rw [show -X 64800000 * Y b + Y 64800000 * X b = -Y (b - 64800000) by rw [e]; grind] at r
    rw [Rat.intCast_neg]
    clear e x0 x1 y0 y1 a0 a1 a2 a3 w0 w1 w2 w3
    generalize Y (b - 64800000) = u at *
    generalize Y b = v at *
    generalize (quarterI (b - 64800000) : Rat) = c at *
    unfold kq at r
    constructor <;> grind
  rw [if_neg c3]
  obtain ⟨q0, q1⟩ := quarter_near (b := 129600000 - b) (by omega) (by omega)
  have e := Y_sub 129600000 b
  have r := rot_near (p := X 129600000) (q := -Y 129600000) (e := 4 * kq) (by grind) (by grind) (by grind) (by grind) y0 y1 x0 x1
  rw [show X 129600000 * Y b + -Y 129600000 * X b = -Y (129600000 - b) by rw [e]; grind] at r
  rw [Rat.intCast_neg]
  clear e x0 x1 y0 y1 a0 a1 a2 a3 w0 w1 w2 w3
  generalize Y (129600000 - b) = u at *
  generalize Y b = v at *
  generalize (quarterI (129600000 - b) : Rat) = c at *
  unfold kq at r
  constructor <;> grind
theorem cos_near {b : Int} (h0 : 0 ≤ b) (h1 : b < 129600000) : -31 ≤ (cosI b : Rat) - 1073741824 * X b ∧ (cosI b : Rat) - 1073741824 * X b ≤ 31 := by
  obtain ⟨x0, x1⟩ := X_bd b
  obtain ⟨y0, y1⟩ := Y_bd b
  unfold cosI
  by_cases c : b < 97200000
  · have ht : turnI b 32400000 = b + 32400000 := by unfold turnI normI; omega
    rw [ht]
    obtain ⟨q0, q1⟩ := sin_near (b := b + 32400000) (by omega) (by omega)
    have e := Y_add b 32400000
    obtain ⟨c0, c1⟩ := qX
    obtain ⟨c2, c3⟩ := qY
    have r := rot_near c2 c3 c0 c1 x0 x1 y0 y1
    rw [show Y 32400000 * X b + X 32400000 * Y b = Y (b + 32400000) by rw [e]; grind] at r
    clear e x0 x1 y0 y1 c0 c1 c2 c3
    generalize Y (b + 32400000) = u at *
    generalize X b = v at *
    generalize (sinI (b + 32400000) : Rat) = c at *
    unfold kq at r
    constructor <;> grind
  · have ht : turnI b 32400000 = b - 97200000 := by unfold turnI normI; omega
    rw [ht]
    obtain ⟨q0, q1⟩ := sin_near (b := b - 97200000) (by omega) (by omega)
    have e := Y_sub b 97200000
    obtain ⟨⟨c0, c1⟩, c2, c3⟩ := three_turn
    have r := rot_near (p := -Y 97200000) (q := X 97200000) (e := 3 * kq) (by grind) (by grind) c0 c1 x0 x1 y0 y1
    rw [show -Y 97200000 * X b + X 97200000 * Y b = Y (b - 97200000) by rw [e]; grind] at r
    clear e x0 x1 y0 y1 c0 c1 c2 c3
    generalize Y (b - 97200000) = u at *
    generalize X b = v at *
    generalize (sinI (b - 97200000) : Rat) = c at *
    unfold kq at r
    constructor <;> grind
/-- the sum of the sizes -/
def sz (y x : Int) : Rat := ((absI y + absI x : Int) : Rat)
theorem sz_bd (y x : Int) : (-sz y x ≤ (y : Rat) ∧ (y : Rat) ≤ sz y x) ∧ (-sz y x ≤ (x : Rat) ∧ (x : Rat) ≤ sz y x) ∧ 0 ≤ sz y x := by
  have h1 : -(absI y + absI x) ≤ y ∧ y ≤ absI y + absI x ∧ -(absI y + absI x) ≤ x ∧ x ≤ absI y + absI x ∧ 0 ≤ absI y + absI x := by unfold absI; split <;> split <;> omega
  obtain ⟨a, b, c, d, e⟩ := h1
  have a := cast_le a
  have b := cast_le b
  have c := cast_le c
  have d := cast_le d
  have e := cast_le e
  unfold sz
  rw [Rat.intCast_neg] at a c
  simp only [Rat.intCast_ofNat] at e
  exact ⟨⟨a, b⟩, ⟨c, d⟩, e⟩
/-- a number of at most the size times a small one -/
theorem sz_mul {u v s e : Rat} (s0 : 0 ≤ s) (a0 : -s ≤ u) (a1 : u ≤ s) (b0 : -e ≤ v) (b1 : v ≤ e) : -(e * s) ≤ u * v ∧ u * v ≤ e * s := by
  have h1 := Rat.mul_nonneg (a := s - u) (b := e - v) (by grind) (by grind)
  have h2 := Rat.mul_nonneg (a := s + u) (b := e + v) (by grind) (by grind)
  have h3 := Rat.mul_nonneg (a := s - u) (b := e + v) (by grind) (by grind)
  have h4 := Rat.mul_nonneg (a := s + u) (b := e - v) (by grind) (by grind)
  constructor <;> grind
/-- the angle a points along (y, x): the cross product is small, the dot product is not -/
def Nr (K d : Rat) (y x a : Int) : Prop := (-(K * sz y x) ≤ (y : Rat) * X a - (x : Rat) * Y a ∧ (y : Rat) * X a - (x : Rat) * Y a ≤ K * sz y x) ∧ d * sz y x ≤ (y : Rat) * Y a + (x : Rat) * X a
/-- from one angle to another -/
theorem Nr_move {K d e : Rat} {y x y' x' a a' : Int} (h : Nr K d y x a) (hs : sz y' x' = sz y x)
    (hc : (-(e * sz y x) ≤ ((y' : Rat) * X a' - (x' : Rat) * Y a') - ((y : Rat) * X a - (x : Rat) * Y a) ∧ ((y' : Rat) * X a' - (x' : Rat) * Y a') - ((y : Rat) * X a - (x : Rat) * Y a) ≤ e * sz y x) ∨
      (-(e * sz y x) ≤ ((y' : Rat) * X a' - (x' : Rat) * Y a') + ((y : Rat) * X a - (x : Rat) * Y a) ∧ ((y' : Rat) * X a' - (x' : Rat) * Y a') + ((y : Rat) * X a - (x : Rat) * Y a) ≤ e * sz y x))
    (hd : -(e * sz y x) ≤ ((y' : Rat) * Y a' + (x' : Rat) * X a') - ((y : Rat) * Y a + (x : Rat) * X a)) : Nr (K + e) (d - e) y' x' a' := by
  obtain ⟨⟨h1, h2⟩, h3⟩ := h
  unfold Nr
  rw [hs]
  generalize (y' : Rat) * X a' - (x' : Rat) * Y a' = c' at *
  generalize (y : Rat) * X a - (x : Rat) * Y a = c at *
  generalize (y' : Rat) * Y a' + (x' : Rat) * X a' = f' at *
  generalize (y : Rat) * Y a + (x : Rat) * X a = f at *
  generalize sz y x = s at *
  rcases hc with ⟨h4, h5⟩ | ⟨h4, h5⟩ <;> refine ⟨⟨?_, ?_⟩, ?_⟩ <;> grind
theorem absI_neg (x : Int) : absI (-x) = absI x := by unfold absI; split <;> split <;> omega
theorem sz_swap (y x : Int) : sz x y = sz y x := by unfold sz; rw [Int.add_comm]
theorem sz_neg1 (y x : Int) : sz (-y) x = sz y x := by unfold sz; rw [absI_neg]
theorem sz_neg2 (y x : Int) : sz y (-x) = sz y x := by unfold sz; rw [absI_neg]
/-- the four reflections -/
theorem refl1 (q : Int) : (-(2 * kq) ≤ X (32400000 - q) - Y q ∧ X (32400000 - q) - Y q ≤ 2 * kq) ∧ (-(2 * kq) ≤ Y (32400000 - q) - X q ∧ Y (32400000 - q) - X q ≤ 2 * kq) := by
  obtain ⟨c0, c1⟩ := qX
  obtain ⟨c2, c3⟩ := qY
  obtain ⟨x0, x1⟩ := X_bd q
  obtain ⟨y0, y1⟩ := Y_bd q
  have r := rot_near c2 c3 c0 c1 y0 y1 x0 x1
  have s := rot_near (q := -X 32400000) (e := kq) c2 c3 (by grind) (by grind) x0 x1 y0 y1
  rw [X_sub, Y_sub]
  refine ⟨⟨?_, ?_⟩, ?_, ?_⟩ <;> grind
theorem refl2 (q : Int) : (-(4 * kq) ≤ X (64800000 - q) + X q ∧ X (64800000 - q) + X q ≤ 4 * kq) ∧ (-(4 * kq) ≤ Y (64800000 - q) - Y q ∧ Y (64800000 - q) - Y q ≤ 4 * kq) := by
  obtain ⟨a0, a1, a2, a3⟩ := half_turn
  obtain ⟨x0, x1⟩ := X_bd q
  obtain ⟨y0, y1⟩ := Y_bd q
  have r := rot_near (p := -X 64800000) (q := Y 64800000) (e := 2 * kq) (by grind) (by grind) a2 a3 y0 y1 x0 x1
  have s := rot_near (p := -X 64800000) (q := -Y 64800000) (e := 2 * kq) (by grind) (by grind) (by grind) (by grind) x0 x1 y0 y1
  rw [X_sub, Y_sub]
  refine ⟨⟨?_, ?_⟩, ?_, ?_⟩ <;> grind
theorem refl3 (q : Int) : (-(4 * kq) ≤ X (64800000 + q) + X q ∧ X (64800000 + q) + X q ≤ 4 * kq) ∧ (-(4 * kq) ≤ Y (64800000 + q) + Y q ∧ Y (64800000 + q) + Y q ≤ 4 * kq) := by
  obtain ⟨a0, a1, a2, a3⟩ := half_turn
  obtain ⟨x0, x1⟩ := X_bd q
  obtain ⟨y0, y1⟩ := Y_bd q
  have r := rot_near (p := -X 64800000) (q := -Y 64800000) (e := 2 * kq) (by grind) (by grind) (by grind) (by grind) y0 y1 x0 x1
  have s := rot_near (p := -X 64800000) (q := Y 64800000) (e := 2 * kq) (by grind) (by grind) a2 a3 x0 x1 y0 y1
  rw [X_add, Y_add]
  refine ⟨⟨?_, ?_⟩, ?_, ?_⟩ <;> grind
theorem turn8 (q : Int) : (-(8 * kq) ≤ X (q + 129600000) - X q ∧ X (q + 129600000) - X q ≤ 8 * kq) ∧ (-(8 * kq) ≤ Y (q + 129600000) - Y q ∧ Y (q + 129600000) - Y q ≤ 8 * kq) := by
  obtain ⟨a0, a1, a2, a3⟩ := whole_turn
  obtain ⟨x0, x1⟩ := X_bd q
  obtain ⟨y0, y1⟩ := Y_bd q
  have r := rot_near (p := X 129600000) (q := Y 129600000) (e := 4 * kq) a0 a1 a2 a3 y0 y1 x0 x1
  have s := rot_near (p := X 129600000) (q := -Y 129600000) (e := 4 * kq) a0 a1 (by grind) (by grind) x0 x1 y0 y1
  rw [X_add, Y_add]
  refine ⟨⟨?_, ?_⟩, ?_, ?_⟩ <;> grind
theorem Nr1 {K d : Rat} {y x q : Int} (h : Nr K d y x q) : Nr (K + 4 * kq) (d - 4 * kq) x y (32400000 - q) := by
  obtain ⟨⟨a0, a1⟩, b0, b1⟩ := refl1 q
  obtain ⟨⟨y0, y1⟩, ⟨x0, x1⟩, s0⟩ := sz_bd y x
  refine Nr_move h (sz_swap y x) (.inr ?_) ?_
  · have p := sz_mul s0 x0 x1 a0 a1
    have r := sz_mul s0 y0 y1 b0 b1
    constructor <;> grind
  · have p := sz_mul s0 y0 y1 a0 a1
    have r := sz_mul s0 x0 x1 b0 b1
    grind
theorem Nr2 {K d : Rat} {y x q : Int} (h : Nr K d y x q) : Nr (K + 8 * kq) (d - 8 * kq) y (-x) (64800000 - q) := by
  obtain ⟨⟨a0, a1⟩, b0, b1⟩ := refl2 q
  obtain ⟨⟨y0, y1⟩, ⟨x0, x1⟩, s0⟩ := sz_bd y x
  refine Nr_move h (sz_neg2 y x) (.inr ?_) ?_
  · have p := sz_mul s0 y0 y1 a0 a1
    have r := sz_mul s0 x0 x1 b0 b1
    rw [Rat.intCast_neg]
    constructor <;> grind
  · have p := sz_mul s0 x0 x1 a0 a1
    have r := sz_mul s0 y0 y1 b0 b1
    rw [Rat.intCast_neg]
    grind
theorem Nr3 {K d : Rat} {y x q : Int} (h : Nr K d y x q) : Nr (K + 8 * kq) (d - 8 * kq) (-y) (-x) (64800000 + q) := by
  obtain ⟨⟨a0, a1⟩, b0, b1⟩ := refl3 q
  obtain ⟨⟨y0, y1⟩, ⟨x0, x1⟩, s0⟩ := sz_bd y x
  refine Nr_move h (by rw [sz_neg1, sz_neg2]) (.inl ?_) ?_
  · have p := sz_mul s0 y0 y1 a0 a1
    have r := sz_mul s0 x0 x1 b0 b1
    rw [Rat.intCast_neg, Rat.intCast_neg]
    constructor <;> grind
  · have p := sz_mul s0 x0 x1 a0 a1
    have r := sz_mul s0 y0 y1 b0 b1
    rw [Rat.intCast_neg, Rat.intCast_neg]
    grind
theorem Nr4 {K d : Rat} {y x q : Int} (h : Nr K d y x q) : Nr K d (-y) x (-q) := by
  obtain ⟨⟨h1, h2⟩, h3⟩ := h
  unfold Nr
  rw [sz_neg1, X_neg, Y_neg, Rat.intCast_neg]
  refine ⟨⟨?_, ?_⟩, ?_⟩ <;> grind
theorem Nr8 {K d : Rat} {y x q : Int} (h : Nr K d y x q) : Nr (K + 16 * kq) (d - 16 * kq) y x (q + 129600000) := by
  obtain ⟨⟨a0, a1⟩, b0, b1⟩ := turn8 q
  obtain ⟨⟨y0, y1⟩, ⟨x0, x1⟩, s0⟩ := sz_bd y x
  refine Nr_move h rfl (.inl ?_) ?_
  · have p := sz_mul s0 y0 y1 a0 a1
    have r := sz_mul s0 x0 x1 b0 b1
    constructor <;> grind
  · have p := sz_mul s0 x0 x1 a0 a1
    have r := sz_mul s0 y0 y1 b0 b1
    grind
theorem Nr_weak {K K' d d' : Rat} {y x a : Int} (h : Nr K d y x a) (hK : K ≤ K') (hd : d' ≤ d) : Nr K' d' y x a := by
  obtain ⟨⟨h1, h2⟩, h3⟩ := h
  obtain ⟨_, _, s0⟩ := sz_bd y x
  have p := Rat.mul_nonneg (a := K' - K) (b := sz y x) (by grind) s0
  have q := Rat.mul_nonneg (a := d - d') (b := sz y x) (by grind) s0
  unfold Nr
  refine ⟨⟨?_, ?_⟩, ?_⟩ <;> grind
theorem zstep : (-(1 / 100000000) ≤ zx - 1 ∧ zx - 1 ≤ 0) ∧ (0 ≤ zy ∧ zy ≤ 5 / 100000000) := by unfold zx zy; refine ⟨⟨?_, ?_⟩, ?_, ?_⟩ <;> decide +kernel
theorem step_bd (q : Int) : (-(6 / 100000000) ≤ X (q + 1) - X q ∧ X (q + 1) - X q ≤ 6 / 100000000) ∧ (-(6 / 100000000) ≤ Y (q + 1) - Y q ∧ Y (q + 1) - Y q ≤ 6 / 100000000) := by
  obtain ⟨⟨z0, z1⟩, z2, z3⟩ := zstep
  obtain ⟨x0, x1⟩ := X_bd q
  obtain ⟨y0, y1⟩ := Y_bd q
  have a := mul_small (v := zx - 1) (e := 1 / 100000000) x0 x1 (by grind) (by grind)
  have b := mul_small (v := zx - 1) (e := 1 / 100000000) y0 y1 (by grind) (by grind)
  have c := mul_small (v := zy) (e := 5 / 100000000) x0 x1 (by grind) (by grind)
  have d := mul_small (v := zy) (e := 5 / 100000000) y0 y1 (by grind) (by grind)
  rw [X_succ, Y_succ]
  refine ⟨⟨?_, ?_⟩, ?_, ?_⟩ <;> grind
theorem cos_lo {q : Int} (h0 : 0 ≤ q) (h1 : q ≤ 16200000) : 7 / 10 ≤ X q := by
  obtain ⟨_, a0, a1⟩ := octant h0 h1
  have h := cosineI_le h0 h1 (Int.le_refl 16200000)
  have e : cosineI 16200000 = 759250125 := by decide +kernel
  rw [e] at h
  have h := cast_le h
  rw [Rat.intCast_ofNat] at h
  grind
theorem sin_lo {q : Int} (h0 : 0 ≤ q) (h1 : q ≤ 16200000) : -(1 / 100000000) ≤ Y q := by
  obtain ⟨⟨a0, a1⟩, _⟩ := octant h0 h1
  have h := cast_le (sineI_range h0 h1).1
  simp only [Rat.intCast_ofNat] at h
  grind
/-- the search's angle points along (n, m) -/
theorem top_near {m n : Int} (hn : 0 ≤ n) (hm : n ≤ m) : Nr (2 / 10000000) (3 / 10) n m (topI m n) := by
  have ht := topI_top (m := m) (n := n) (by omega) hn
  have h0 := ht.lo
  have h1 := ht.hi
  have hy := ht.yes
  have hno := ht.no
  generalize topI m n = q at *
  have hs : sz n m = (n : Rat) + m := by
    unfold sz absI
    rw [if_neg (by omega), if_neg (by omega), Rat.intCast_add]
  have n0 := cast_le hn
  have m0 := cast_le hm
  simp only [Rat.intCast_ofNat] at n0
  obtain ⟨⟨s0, s1⟩, c0, c1⟩ := octant h0 h1
  have xl := cos_lo h0 h1
  have yl := sin_lo h0 h1
  unfold okI at hy
  rw [sinI_oct h0 h1, cosI_oct h0 h1] at hy
  have hy := cast_le hy
  rw [Rat.intCast_mul, Rat.intCast_mul] at hy
  have P := sz_mul (u := (m : Rat)) (s := (m : Rat)) (by grind) (by grind) (by grind) s0 s1
  have Q := sz_mul (u := (n : Rat)) (s := (n : Rat)) (by grind) (by grind) (by grind) c0 c1
  have up : (m : Rat) * Y q - n * X q ≤ (3 * n + 3 * m) / 1073741824 := by grind
  have lo : -(16 / 100000000 * m + 16 / 100000000 * n) ≤ (m : Rat) * Y q - n * X q := by
    by_cases hq : q = 16200000
    · subst hq
      have hh := Y_sub 16200000 0
      have : (Y 16200000 - X 16200000 ≥ -(1 / 100000000)) := by
        have e1 : sineI 16200000 = 759250125 := by decide +kernel
        have e2 : cosineI 16200000 = 759250125 := by decide +kernel
        rw [e1, Rat.intCast_ofNat] at s0 s1
        rw [e2, Rat.intCast_ofNat] at c0 c1
        clear hh P Q up hy
        generalize X 16200000 = x at *
        generalize Y 16200000 = y at *
        grind
      clear hh P Q up hy s0 s1 c0 c1 hno
      generalize X 16200000 = x at *
      generalize Y 16200000 = y at *
      have a1 := Rat.mul_nonneg (a := (m : Rat)) (b := y - x + 1 / 100000000) (by grind) (by grind)
      have a2 := Rat.mul_nonneg (a := (m : Rat) - n) (b := x) (by grind) (by grind)
      grind
    · have hx := hno (q + 1) (by omega) (by omega)
      unfold okI at hx
      rw [sinI_oct (by omega) (by omega), cosI_oct (by omega) (by omega)] at hx
      have hx := cast_le (Int.le_of_lt (Int.not_le.1 hx))
      rw [Rat.intCast_mul, Rat.intCast_mul] at hx
      obtain ⟨⟨t0, t1⟩, d0, d1⟩ := octant (a := q + 1) (by omega) (by omega)
      have P' := sz_mul (u := (m : Rat)) (s := (m : Rat)) (by grind) (by grind) (by grind) t0 t1
      have Q' := sz_mul (u := (n : Rat)) (s := (n : Rat)) (by grind) (by grind) (by grind) d0 d1
      obtain ⟨⟨e0, e1⟩, e2, e3⟩ := step_bd q
      have R := sz_mul (u := (m : Rat)) (s := (m : Rat)) (by grind) (by grind) (by grind) e2 e3
      have S := sz_mul (u := (n : Rat)) (s := (n : Rat)) (by grind) (by grind) (by grind) e0 e1
      clear P Q up hy s0 s1 c0 c1 hno t0 t1 d0 d1 e0 e1 e2 e3
      grind
  have dd : 3 / 10 * ((n : Rat) + m) ≤ n * Y q + m * X q := by
    have a1 := Rat.mul_nonneg (a := (m : Rat)) (b := X q - 7 / 10) (by grind) (by grind)
    have a2 := Rat.mul_nonneg (a := (n : Rat)) (b := Y q + 1 / 100000000) (by grind) (by grind)
    grind
  unfold Nr
  rw [hs]
  clear P Q hy s0 s1 c0 c1 hno xl yl
  refine ⟨⟨?_, ?_⟩, ?_⟩ <;> grind
theorem atanQ_near (y x : Int) : Nr (21 / 100000000) (29 / 100) (absI y) (absI x) (atanQ y x) := by
  have ay := absI_nonneg y
  have ax := absI_nonneg x
  unfold atanQ maxI minI
  by_cases h : absI x < absI y
  · rw [if_pos h, if_pos h, if_neg (by omega)]
    exact Nr_weak (Nr1 (top_near ax (by omega))) (by unfold kq; grind) (by unfold kq; grind)
  · rw [if_neg h, if_neg h]
    by_cases h2 : absI y < absI x
    · rw [if_pos h2]
      exact Nr_weak (top_near ay (by omega)) (by grind) (by grind)
    · rw [if_neg h2]
      have e : absI y = absI x := by omega
      rw [e]
      exact Nr_weak (top_near ax (by omega)) (by grind) (by grind)
/-- Atan2's angle points along its arguments -/
theorem atan_near (y x : Int) : Nr (25 / 100000000) (28 / 100) y x (atanI y x) := by
  have h := atanQ_near y x
  unfold atanI
  by_cases hx : 0 ≤ x
  · have ex : absI x = x := by unfold absI; rw [if_neg (by omega)]
    rw [if_pos hx]
    by_cases hy : 0 ≤ y
    · have ey : absI y = y := by unfold absI; rw [if_neg (by omega)]
      rw [if_pos hy]
      rw [ex, ey] at h
      exact Nr_weak h (by grind) (by grind)
    · have ey : absI y = -y := by unfold absI; rw [if_pos (by omega)]
      rw [if_neg hy]
      rw [ex, ey] at h
      have h4 := Nr4 h
      rw [Int.neg_neg] at h4
      obtain ⟨r0, r1⟩ := atanQ_range y x
      by_cases hq : atanQ y x = 0
      · rw [hq, Int.neg_zero] at h4
        rw [hq, Int.neg_zero]
        rw [show normI 0 = 0 by decide]
        exact Nr_weak h4 (by grind) (by grind)
      · rw [show normI (-atanQ y x) = -atanQ y x + 129600000 by unfold normI; omega]
        exact Nr_weak (Nr8 h4) (by unfold kq; grind) (by unfold kq; grind)
  · have ex : absI x = -x := by unfold absI; rw [if_pos (by omega)]
    rw [if_neg hx]
    by_cases hy : 0 ≤ y
    · have ey : absI y = y := by unfold absI; rw [if_neg (by omega)]
      rw [if_pos hy]
      rw [ex, ey] at h
      have h2 := Nr2 h
      rw [Int.neg_neg] at h2
      exact Nr_weak h2 (by unfold kq; grind) (by unfold kq; grind)
    · have ey : absI y = -y := by unfold absI; rw [if_pos (by omega)]
      rw [if_neg hy]
      rw [ex, ey] at h
      have h3 := Nr3 h
      rw [Int.neg_neg, Int.neg_neg] at h3
      exact Nr_weak h3 (by unfold kq; grind) (by unfold kq; grind)
theorem sinI_quarter {a : Int} (h0 : 0 ≤ a) (h1 : a ≤ 32400000) : sinI a = quarterI a := by
  have e : normI a = a := by unfold normI; omega
  unfold sinI sinB
  rw [e, if_pos h1]
theorem sin_mono {a b : Int} (h0 : 0 ≤ a) (h : a ≤ b) (h1 : b ≤ 32400000) : sinI a ≤ sinI b := by
  rw [sinI_quarter h0 (by omega), sinI_quarter (by omega) h1]
  unfold quarterI
  by_cases ha : a ≤ 16200000
  · rw [if_pos ha]
    by_cases hb : b ≤ 16200000
    · rw [if_pos hb]; exact sineI_le h0 h hb
    · rw [if_neg hb]
      have x := (sineI_range h0 ha).2
      have y := (cosineI_range (a := 32400000 - b) (by omega) (by omega)).1
      omega
  · rw [if_neg ha, if_neg (by omega)]
    exact cosineI_le (by omega) (by omega) (by omega)
theorem diff_near {f t : Int} (f0 : 0 ≤ f) (f1 : f < 129600000) (t0 : 0 ≤ t) (t1 : t < 129600000) :
    (-64800000 ≤ diffI f t ∧ diffI f t ≤ 64800000) ∧ (-(8 * kq) ≤ X (diffI f t) - X (t - f) ∧ X (diffI f t) - X (t - f) ≤ 8 * kq) ∧ (-(8 * kq) ≤ Y (diffI f t) - Y (t - f) ∧ Y (diffI f t) - Y (t - f) ≤ 8 * kq) := by
  have hk : 0 ≤ kq := by unfold kq; grind
  have hd : (-64800000 ≤ diffI f t ∧ diffI f t ≤ 64800000) ∧ (diffI f t = t - f ∨ diffI f t = (t - f) + 129600000 ∨ t - f = diffI f t + 129600000) := by
    unfold diffI normI
    have e1 : f % 129600000 = f := by omega
    have e2 : t % 129600000 = t := by omega
    rw [e1, e2]
    split <;> omega
  obtain ⟨hb, h⟩ := hd
  refine ⟨hb, ?_⟩
  rcases h with h | h | h
  · rw [h]
    refine ⟨⟨?_, ?_⟩, ?_, ?_⟩ <;> grind
  · rw [h]
    exact turn8 (t - f)
  · obtain ⟨⟨a0, a1⟩, b0, b1⟩ := turn8 (diffI f t)
    rw [h]
    refine ⟨⟨?_, ?_⟩, ?_, ?_⟩ <;> grind
/-- squares and signs over the rationals -/
theorem lt_of_sqR {a b : Rat} (hb : 0 ≤ b) (h : a * a ≤ b * b) : a ≤ b := by
  rcases Rat.le_total (a := a) (b := b) with g | g
  · exact g
  · rcases Rat.le_total (a := b) (b := a) with g2 | g2
    · by_cases e : a = b
      · rw [e]; grind
      · have h1 := Rat.mul_nonneg (a := a - b) (b := a + b) (by grind) (by grind)
        have h2 : (a - b) * (a - b) ≤ 0 := by
          have := Rat.mul_nonneg (a := a - b) (b := b) (by grind) hb
          grind
        have h3 := sq_nonneg (a - b)
        have h4 : (a - b) * (a - b) = 0 := by grind
        grind
    · exact g2
end Go.Proofs.YtidelghgjibndaaGreat.S41.Un
