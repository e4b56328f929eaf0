/-
  The walks of layer 29: ratio, temperature, speed of sound.
-/
import Derived.Test.YtnaokohffelklaaDoorAirValue
import Derived.Test.YtnaokohffelklaaDoorSqrtWalks30
namespace Go.Proofs.YtnaokohffelklaaDoor
set_option linter.unusedVariables false
open Go.RowKit Sq

theorem tabC_get : ∀ (T : List (Int × Int)) (i : Nat), i < T.length → (tabC T)[i * 2]? = some (.int .i64 (ftA T i)) ∧ (tabC T)[i * 2 + 1]? = some (.int .i64 (vlA T i))
  | [], i, h => absurd h (by simp)
  | r :: T, 0, h => ⟨rfl, rfl⟩
  | r :: T, i + 1, h => by
    obtain ⟨a, b⟩ := tabC_get T i (by simpa using h)
    unfold tabC at *
    rw [List.getElem?_toArray] at a b ⊢
    rw [List.getElem?_toArray, List.flatMap_cons, show (i + 1) * 2 = i * 2 + 2 by omega]
    exact ⟨a, b⟩
theorem tabC_size : ∀ (T : List (Int × Int)), (tabC T).size = T.length * 2
  | [] => rfl
  | r :: T => by
    have := tabC_size T
    unfold tabC at *
    simp only [List.size_toArray, List.flatMap_cons, List.length_append, List.length_cons, List.length_nil] at *
    omega
theorem tab_new (T : List (Int × Int)) (w : World) (t : TypeId) : TabAt T w.heap.size (w.alloc (.cells (tabC T) t)) :=
  ⟨by simp, fun i h => by rw [World.cell?_alloc_at _ _ _ _ rfl]; exact (tabC_get T i h).1, fun i h => by rw [World.cell?_alloc_at _ _ _ _ rfl]; exact (tabC_get T i h).2⟩
theorem rat_ok : TabOk ratT := by
  have a : ∀ j : Fin 14, (-2000 ≤ ftA ratT j.val ∧ ftA ratT j.val ≤ 60000) ∧ 0 ≤ vlA ratT j.val ∧ vlA ratT j.val ≤ 4000000 := by decide
  have b : ∀ i, (-2000 ≤ ftA ratT i ∧ ftA ratT i ≤ 60000) ∧ 0 ≤ vlA ratT i ∧ vlA ratT i ≤ 4000000 := fun i => by
    by_cases h : i < 14
    · exact a ⟨i, h⟩
    · have e : ratT.getD i (0, 0) = (0, 0) := by rw [List.getD_eq_getElem?_getD, List.getElem?_eq_none (by simp [ratT]; omega)]; rfl
      unfold ftA vlA; rw [e]; decide
  exact ⟨by decide, by decide, rat_ft, fun i => (b i).1.1, fun i => (b i).1.2, fun i => (b i).2.1, fun i => (b i).2.2⟩
theorem tmp_ok : TabOk tmpT := by
  have a : ∀ j : Fin 4, (-2000 ≤ ftA tmpT j.val ∧ ftA tmpT j.val ≤ 60000) ∧ 0 ≤ vlA tmpT j.val ∧ vlA tmpT j.val ≤ 4000000 := by decide
  have b : ∀ i, (-2000 ≤ ftA tmpT i ∧ ftA tmpT i ≤ 60000) ∧ 0 ≤ vlA tmpT i ∧ vlA tmpT i ≤ 4000000 := fun i => by
    by_cases h : i < 4
    · exact a ⟨i, h⟩
    · have e : tmpT.getD i (0, 0) = (0, 0) := by rw [List.getD_eq_getElem?_getD, List.getElem?_eq_none (by simp [tmpT]; omega)]; rfl
      unfold ftA vlA; rw [e]; decide
  exact ⟨by decide, by decide, tmp_ft, fun i => (b i).1.1, fun i => (b i).1.2, fun i => (b i).2.1, fun i => (b i).2.2⟩
theorem chk_ok {alt dev : Int} (h : chkI alt dev = 0) : AltOk alt ∧ DevOk dev := by
  unfold chkI outB at h
  simp only [decide_eq_true_eq] at h
  split at h
  · cases h
  · split at h
    · cases h
    · exact ⟨⟨by omega, by omega⟩, ⟨by omega, by omega⟩⟩
theorem chk_of {alt dev : Int} (a : AltOk alt) (d : DevOk dev) : chkI alt dev = 0 := by
  unfold chkI outB
  have := a.lo
  have := a.hi
  have := d.lo
  have := d.hi
  rw [if_neg (by simp; omega), if_neg (by omega)]
theorem chk_bd (alt dev : Int) : chkI alt dev = 0 ∨ chkI alt dev = 1 ∨ chkI alt dev = 2 := by
  unfold chkI
  split
  · exact .inr (.inr rfl)
  · split
    · exact .inr (.inl rfl)
    · exact .inl rfl
theorem wit_iff {n m : Int} : witB n m = true ↔ 0 ≤ n ∧ n ≤ m := by unfold witB; simp
def ratF (alt dev : Int) : Int × Int := if chkI alt dev = 0 then (ratioI alt dev, 0) else (0, chkI alt dev)
def tmpF (alt dev : Int) : Int × Int := if chkI alt dev = 0 then (tempI alt dev, 0) else (0, chkI alt dev)
def sndF (alt dev : Int) : Int × Int := if chkI alt dev = 0 then (soundI alt dev, 0) else (0, chkI alt dev)
def tasF (c alt dev : Int) : Int × Int := if witB c 1000 = true then (if chkI alt dev = 0 then (tasI c alt dev, 0) else (0, chkI alt dev)) else (0, 1)
def casF (t alt dev : Int) : Int × Int := if witB t 4000 = true then (if chkI alt dev = 0 then (if 1000 < casI t alt dev then (0, 2) else (casI t alt dev, 0)) else (0, chkI alt dev)) else (0, 1)
def machF (t alt dev : Int) : Int × Int := if witB t 4000 = true then (if chkI alt dev = 0 then (machI t alt dev, 0) else (0, chkI alt dev)) else (0, 1)
def ofF (m alt dev : Int) : Int × Int := if witB m 2000 = true then (if chkI alt dev = 0 then (ofI m alt dev, 0) else (0, chkI alt dev)) else (0, 1)
def schF (c m alt dev : Int) : Int × Int := if witB c 1000 = true then (if witB m 2000 = true then (if chkI alt dev = 0 then (min (tasI c alt dev) (ofI m alt dev), 0) else (0, chkI alt dev)) else (0, 1)) else (0, 1)
def crsF (c m dev : Int) : Int × Int := if witB c 1000 = true then (if witB m 2000 = true then (if -4000 ≤ dev ∧ dev ≤ 4000 then (if crossI c m dev = 6000001 then (0, 2) else (crossI c m dev, 0)) else (0, 1)) else (0, 1)) else (0, 1)
theorem value_rat (b : Nat) (alt : Int) (w : World) (hb : TabAt ratT b w) (ha : AltOk alt) :
    Calls Tryd.prog 48 #[.slice (some ⟨b, 0, none⟩) 14 14, .int .i64 alt] w fun e w' => e = .returned (.int .i64 (valI ratT alt)) ∧ Below w.heap.size w w' :=
  value_any ratT b alt w rat_ok hb ha (by have := ha.lo; show -2000 * 100 ≤ alt; omega) (by have := ha.hi; show alt ≤ 60000 * 100; omega)
theorem value_tmp (b : Nat) (alt : Int) (w : World) (hb : TabAt tmpT b w) (ha : AltOk alt) :
    Calls Tryd.prog 48 #[.slice (some ⟨b, 0, none⟩) 4 4, .int .i64 alt] w fun e w' => e = .returned (.int .i64 (valI tmpT alt)) ∧ Below w.heap.size w w' :=
  value_any tmpT b alt w tmp_ok hb ha (by have := ha.lo; show -2000 * 100 ≤ alt; omega) (by have := ha.hi; show alt ≤ 60000 * 100; omega)
theorem ratio_any (alt dev : Int) (w : World) :
    Calls Tryd.prog 30 #[.int .i64 alt, .int .i64 dev] w fun e w' => e = .returned (.tuple #[.int .i64 (ratF alt dev).1, .int .i64 (ratF alt dev).2]) ∧ Below w.heap.size w w' := by
  by_cases h : chkI alt dev = 0
  · obtain ⟨ha, hd⟩ := chk_ok h
    have d0 := hd.lo
    have d1 := hd.hi
    have v := rat_bd ha.lo ha.hi
    have m := mul_bd v.1 v.2 (show 53630 ≤ 57630 + dev by omega) (show 57630 + dev ≤ 61630 by omega) (by decide) (by decide)
    have E := Lib.hid (show (ratF alt dev) = (valI ratT alt * (57630 + dev) / 57630, 0) by unfold ratF ratioI; simp [h])
    have VV := Lib.hid (fun b w hb => value_rat b alt w hb ha)
    have HC := Lib.hid h
    clear h ha hd
    generalize valI ratT alt = x at *
    obtain ⟨v0, v1⟩ := v
    obtain ⟨m0, m1⟩ := m
    go_enter Tryd.func30, Tryd.ntmps30
    go_wp2_with (go_at_call 47; refine (check_any _ _ _).mono ?_; rw [HC.out]; rintro e w1 ⟨rfl, rfl⟩)
    go_wp2_with (first
      | (go_at_call 49; refine (ratios_any _).mono ?_; rintro e w1 ⟨rfl, t, rfl⟩)
      | (go_at_call 48; refine (VV.out _ _ (tab_new _ _ _)).mono ?_; rintro e w2 ⟨rfl, hb⟩))
    go_ret2
    exact ⟨by rw [E.out]; rfl, ((Below.refl w.heap.size w).alloc (Nat.le_refl _) _).trans (hb.mono (by simp))⟩
  · have g : (chkI alt dev != 0) = true := by simpa using h
    have E := Lib.hid (show (ratF alt dev) = (0, chkI alt dev) by unfold ratF; simp [h])
    clear h
    generalize hc : chkI alt dev = c at *
    have HC := Lib.hid hc
    clear hc
    go_enter Tryd.func30, Tryd.ntmps30
    go_wp2_with (go_at_call 47; refine (check_any _ _ _).mono ?_; rw [HC.out]; rintro e w1 ⟨rfl, rfl⟩)
    go_ret2
    exact ⟨by rw [E.out]; rfl, Below.refl _ _⟩
theorem temp_any (alt dev : Int) (w : World) :
    Calls Tryd.prog 52 #[.int .i64 alt, .int .i64 dev] w fun e w' => e = .returned (.tuple #[.int .i64 (tmpF alt dev).1, .int .i64 (tmpF alt dev).2]) ∧ Below w.heap.size w w' := by
  by_cases h : chkI alt dev = 0
  · obtain ⟨ha, hd⟩ := chk_ok h
    have d0 := hd.lo
    have d1 := hd.hi
    have v := tmp_bd ha.lo ha.hi
    have E := Lib.hid (show (tmpF alt dev) = (valI tmpT alt + dev, 0) by unfold tmpF tempI; simp [h])
    have VV := Lib.hid (fun b w hb => value_tmp b alt w hb ha)
    have HC := Lib.hid h
    clear h ha hd
    generalize valI tmpT alt = x at *
    obtain ⟨v0, v1⟩ := v
    go_enter Tryd.func52, Tryd.ntmps52
    go_wp2_with (go_at_call 47; refine (check_any _ _ _).mono ?_; rw [HC.out]; rintro e w1 ⟨rfl, rfl⟩)
    go_wp2_with (first
      | (go_at_call 67; refine (temps_any _).mono ?_; rintro e w1 ⟨rfl, t, rfl⟩)
      | (go_at_call 48; refine (VV.out _ _ (tab_new _ _ _)).mono ?_; rintro e w2 ⟨rfl, hb⟩))
    go_ret2
    exact ⟨by rw [E.out]; rfl, ((Below.refl w.heap.size w).alloc (Nat.le_refl _) _).trans (hb.mono (by simp))⟩
  · have g : (chkI alt dev != 0) = true := by simpa using h
    have E := Lib.hid (show (tmpF alt dev) = (0, chkI alt dev) by unfold tmpF; simp [h])
    clear h
    generalize hc : chkI alt dev = c at *
    have HC := Lib.hid hc
    clear hc
    go_enter Tryd.func52, Tryd.ntmps52
    go_wp2_with (go_at_call 47; refine (check_any _ _ _).mono ?_; rw [HC.out]; rintro e w1 ⟨rfl, rfl⟩)
    go_ret2
    exact ⟨by rw [E.out]; rfl, Below.refl _ _⟩
theorem sound_any (alt dev : Int) (w : World) :
    Calls Tryd.prog 33 #[.int .i64 alt, .int .i64 dev] w fun e w' => e = .returned (.tuple #[.int .i64 (sndF alt dev).1, .int .i64 (sndF alt dev).2]) ∧ Below w.heap.size w w' := by
  by_cases h : chkI alt dev = 0
  · obtain ⟨ha, hd⟩ := chk_ok h
    have v := temp_bd ha hd
    have E := Lib.hid (show sndF alt dev = (isq (388734 * tempI alt dev / 100), 0) by unfold sndF soundI; simp [h])
    have ET := Lib.hid (show tmpF alt dev = (tempI alt dev, 0) by unfold tmpF; simp [h])
    clear h ha hd
    generalize tempI alt dev = x at *
    obtain ⟨v0, v1⟩ := v
    go_enter Tryd.func33, Tryd.ntmps33
    go_wp2_with (first
      | (go_at_call 52; refine (temp_any _ _ _).mono ?_; rw [ET.out]; rintro e w1 ⟨rfl, hb⟩)
      | (go_at_call 53; refine (sqrt_any _ _ (by omega) (by omega)).mono ?_; rintro e w2 ⟨rfl, rfl⟩))
    go_ret2
    exact ⟨by rw [E.out]; rfl, hb⟩
  · have g : (chkI alt dev != 0) = true := by simpa using h
    have E := Lib.hid (show sndF alt dev = (0, chkI alt dev) by unfold sndF; simp [h])
    have ET := Lib.hid (show tmpF alt dev = (0, chkI alt dev) by unfold tmpF; simp [h])
    clear h
    generalize chkI alt dev = c at *
    go_enter Tryd.func33, Tryd.ntmps33
    go_wp2_with (go_at_call 52; refine (temp_any _ _ _).mono ?_; rw [ET.out]; rintro e w1 ⟨rfl, hb⟩)
    go_ret2
    exact ⟨by rw [E.out]; rfl, hb⟩
end Go.Proofs.YtnaokohffelklaaDoor
