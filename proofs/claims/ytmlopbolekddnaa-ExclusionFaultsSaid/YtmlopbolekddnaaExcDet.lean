/-
  The walk of layer 44's Detectable.
-/
import Derived.Test.YtmlopbolekddnaaExcFlt
import Derived.Deep.RegionHeld3
namespace Go.Proofs.Ytmlopbolekddnaa
set_option linter.unusedVariables false
open Go.RowKit

/-- the strip of the differences of two points -/
def dbl (m : Ms) : Ms := { m with z := 0, d := m.d * 2 }
def dblK (L : List Ms) (k : Nat) : List Ms := (L.take k).map dbl ++ L.drop k
def dbL (L : List Ms) : List Ms := L.map dbl
theorem dblK_len (L : List Ms) (k : Nat) : (dblK L k).length = L.length := by
  unfold dblK
  rw [List.length_append, List.length_map, List.length_take, List.length_drop]
  omega
theorem dblK_zero (L : List Ms) : dblK L 0 = L := by unfold dblK; simp
theorem dblK_all (L : List Ms) : dblK L L.length = dbL L := by unfold dblK dbL; simp
theorem dblK_at {L : List Ms} {k : Nat} (h : k < L.length) : dblK L k = (L.take k).map dbl ++ nth L k :: L.drop (k + 1) := by
  unfold dblK
  rw [List.drop_eq_getElem_cons h, nth_eq h]
theorem dblK_succ {L : List Ms} {k : Nat} (h : k < L.length) : dblK L (k + 1) = (L.take k).map dbl ++ dbl (nth L k) :: L.drop (k + 1) := by
  unfold dblK
  rw [take_nth h, List.map_append, List.append_assoc]
  rfl
theorem msC_set {L : List Ms} {k : Nat} (h : k < L.length) : ((msC (dblK L k)).set (k * 6 + 3) (.int .i64 0)).set (k * 6 + 4) (.int .i64 ((nth L k).d * 2)) = msC (dblK L (k + 1)) := by
  have e : (msC ((L.take k).map dbl)).length = k * 6 := by
    rw [msC_len, List.length_map, List.length_take, Nat.min_eq_left (by omega)]
  have c : ∀ m l, msC (m :: l) = [Value.int .i64 m.s, Value.int .i64 m.a, Value.int .i64 m.b, Value.int .i64 m.z, Value.int .i64 m.d, Value.int .i64 m.w] ++ msC l := fun m l => by unfold msC; rw [List.flatMap_cons]
  rw [dblK_at h, dblK_succ h, msC_append, msC_append, List.set_append_right _ _ (by omega), List.set_append_right _ _ (by omega), e, show k * 6 + 3 - k * 6 = 3 by omega, show k * 6 + 4 - k * 6 = 4 by omega, c, c]
  rfl
theorem nth_dblK {L : List Ms} {k : Nat} (h : k < L.length) : nth (dblK L k) k = nth L k := by
  have e : ((L.take k).map dbl).length = k := by rw [List.length_map, List.length_take]; omega
  rw [dblK_at h]
  unfold nth
  rw [List.getD_eq_getElem?_getD, List.getElem?_append_right (by omega), e, Nat.sub_self]
  rfl
theorem EdM.dbl {m : Ms} (h : OkM m) : EdM (dbl m) := by
  have := h.a0
  have := h.a1
  have := h.b0
  have := h.b1
  have := h.d0
  have := h.d1
  constructor <;> simp [Go.Proofs.Ytmlopbolekddnaa.dbl] <;> omega
def detF (l : List Ms) (i : Int) : Int × Int :=
  if chkL l = 0 then (if i < 0 ∨ (l.length : Int) ≤ i then (0, 1) else
    if fullB (woL l (nth l i.toNat).s) = true then ((nth l i.toNat).d + (bndF (nth l i.toNat).a (nth l i.toNat).b (corL (dbL (woL l (nth l i.toNat).s)))).2, 0) else (0, 14)) else (0, chkL l)
theorem ceil_small {x d B : Int} (h : 0 < d) (h0 : -B ≤ x) (h1 : x ≤ B) (hB : 0 ≤ B) : -B ≤ ceilI x d ∧ ceilI x d ≤ B := by
  unfold ceilI
  have e := Int.mul_ediv_add_emod (-x) d
  have r0 := Int.emod_nonneg (-x) (show d ≠ 0 by omega)
  have r1 := Int.emod_lt_of_pos (-x) h
  generalize (-x) / d = q at *
  generalize (-x) % d = r at *
  constructor
  · by_cases hq : B < q
    · have : 1 * q ≤ d * q := Int.mul_le_mul_of_nonneg_right (by omega) (by omega)
      omega
    · omega
  · by_cases hq : q < -B
    · have h8 : 1 * (-(q + 1)) ≤ d * (-(q + 1)) := Int.mul_le_mul_of_nonneg_right (by omega) (by omega)
      have h9 : d * (-(q + 1)) = -(d * q) - d := by grind
      omega
    · omega
theorem hi_fit {a b : Int} {p : Cr} (h : FitP a b p) : -4000000000000000 ≤ hiF a b p ∧ hiF a b p ≤ 4000000000000000 := by
  obtain ⟨d0, d1, x0, x1, y0, y1⟩ := h
  unfold hiF
  generalize a * p.x = u at *
  generalize b * p.y = v at *
  generalize p.d = d at *
  exact ceil_small d0 (by omega) (by omega) (by omega)
theorem hi_bnd {a b : Int} {l : List Cr} (h : ∀ p ∈ l, FitP a b p) : -4000000000000000 ≤ (bndF a b l).2 ∧ (bndF a b l).2 ≤ 4000000000000000 := by
  cases l with
  | nil => unfold bndF bndK; simp
  | cons q r =>
    obtain ⟨p, hp, e⟩ := (bnd_is a b (l := q :: r) (by simp)).hi
    rw [e]
    exact hi_fit (h p hp)
theorem om_at {B : Nat} {w : World} {g n cap : Nat} {l : List Ms} (h : OM B w (.slice (some ⟨g, 0, none⟩) n cap) l) : MsAt l g 0 w ∧ ∀ j, w.frozen? ⟨g, j, none⟩ = false := by
  rcases om_cases h with ⟨e, _⟩ | ⟨g', c, e, _, _, _, h1, h2⟩
  · cases e
  · cases e
    exact ⟨h1, h2⟩
def DtR (L : List Ms) (g cap : Nat) (W0 : World) (u : Value) (wr : World) : Prop :=
  ∃ k : Nat, u = .int .i64 k ∧ k ≤ L.length ∧ Hid (Below W0.heap.size W0 wr) ∧ Hid (OM W0.heap.size wr (.slice (some ⟨g, 0, none⟩) L.length cap) (dblK L k))
def DtP (l : List Ms) (i : Int) (w : World) (e : Ending) (w' : World) : Prop := e = .returned (.tuple #[.int .i64 (detF l i).1, .int .i64 (detF l i).2]) ∧ Below w.heap.size w w'
set_option maxHeartbeats 8000000 in
set_option maxRecDepth 100000 in
theorem det_any (l : List Ms) (i : Int) (v : Value) (w : World) (h : LstAt l v w) :
    Calls Try.prog 21 #[v, .int .i64 i] w (DtP l i w) := by
  obtain ⟨pl, capl, rfl⟩ : ∃ p cap, v = .slice p l.length cap := by
    rcases h with ⟨rfl, rfl⟩ | ⟨b, o, cap, rfl, _⟩
    · exact ⟨none, 0, rfl⟩
    · exact ⟨_, _, rfl⟩
  have CH := fun w hv => check_any l (.slice pl l.length capl) w hv
  have H := Lib.hid h
  clear h
  by_cases hc : chkL l = 0
  · obtain ⟨he, hl⟩ := ed_of hc
    have hok := (chkL_ok hc).2
    rw [hc] at CH
    have HCH := Lib.hid CH
    have WO := Lib.hid fun s w hv => wo_any l s (.slice pl l.length capl) w hv hl
    have HE := Lib.hid he
    have HOK := Lib.hid hok
    have E0 : detF l i = if i < 0 ∨ (l.length : Int) ≤ i then (0, 1) else
      if fullB (woL l (nth l i.toNat).s) = true then ((nth l i.toNat).d + (bndF (nth l i.toNat).a (nth l i.toNat).b (corL (dbL (woL l (nth l i.toNat).s)))).2, 0) else (0, 14) := by unfold detF; rw [if_pos hc]
    clear CH hc he hok
    by_cases h0 : i < 0
    · have g0 : decide (i < 0) = true := by simpa using h0
      have E := Lib.hid (E0.trans (if_pos (.inl h0)))
      clear E0 h0
      go_enter Try.func21, Try.ntmps21
      go_wp2_with fail
      refine (HCH.out _ H.out).mono ?_
      rintro e w1 ⟨rfl, hb1⟩
      have HB1 := Lib.hid hb1
      clear hb1
      go_wp2
      go_ret2
      exact ⟨by rw [E.out]; rfl, HB1.out⟩
    · have g0 : decide (i < 0) = false := by simpa using h0
      by_cases h1 : (l.length : Int) ≤ i
      · have g1 : decide ((l.length : Int) ≤ i) = true := by simpa using h1
        have E := Lib.hid (E0.trans (if_pos (.inr h1)))
        clear E0 h0 h1
        go_enter Try.func21, Try.ntmps21
        go_wp2_with fail
        refine (HCH.out _ H.out).mono ?_
        rintro e w1 ⟨rfl, hb1⟩
        have HB1 := Lib.hid hb1
        clear hb1
        go_wp2
        go_ret2
        exact ⟨by rw [E.out]; rfl, HB1.out⟩
      · have g1 : decide ((l.length : Int) ≤ i) = false := by simpa using h1
        have E1 := E0.trans (if_neg (by omega))
        obtain ⟨k, rfl⟩ : ∃ k : Nat, i = k := ⟨i.toNat, by omega⟩
        have q : k < l.length := by omega
        have EN : (k : Int).toNat = k := by omega
        rw [EN] at E1
        clear E0 h0 h1 EN
        rcases H.out with ⟨hv2, hz⟩ | ⟨b, o, cap, hv2, hcap, hcm, M⟩
        · rw [hz] at q; exact absurd q (by simp)
        injection hv2 with e1 e2 e3
        subst e1
        subst e3
        clear e2
        have HM := Lib.hid M
        have hok := HOK.out _ (nth_mem q)
        have ab0 := hok.a0
        have ab1 := hok.a1
        have ab2 := hok.b0
        have ab3 := hok.b1
        have ab4 := hok.d0
        have ab5 := hok.d1
        have HSM := Lib.hid (show SmAB (nth l k).a (nth l k).b from ⟨ab0, ab1, ab2, ab3⟩)
        clear M ab0 ab1 ab2 ab3 hok
        generalize hmk : nth l k = m at *
        have HMK := Lib.hid hmk
        clear hmk
        have HL := woL_len l m.s
        have ESN := Lib.hid E1
        have HEW := Lib.hid (wo_ed HE.out m.s)
        have HED := Lib.hid (show ∀ x ∈ dbL (woL l m.s), EdM x from fun x hx => by
          unfold dbL at hx
          rw [List.mem_map] at hx
          obtain ⟨y, hy, rfl⟩ := hx
          exact EdM.dbl (HOK.out y (List.mem_filter.1 hy).1))
        have HWD := Lib.hid (show ∀ x ∈ woL l m.s, 0 ≤ x.d ∧ x.d ≤ 4294967296 from fun x hx => by
          have := HOK.out x (List.mem_filter.1 hx).1
          exact ⟨this.d0, this.d1⟩)
        have WOS := Lib.hid (WO.out m.s)
        clear E1 WO HE HOK
        generalize woL l m.s = L at *
        have FUS := Lib.hid fun v w (h : LstAt L v w) => full_any L v w h HEW.out (by omega)
        have COS := Lib.hid fun v w (h : LstAt (dbL L) v w) => corners_any (dbL L) v w h HED.out (by unfold dbL; rw [List.length_map]; omega)
        have HFI := Lib.hid (fit_of (a := m.a) (b := m.b) HED.out HSM.out)
        have BNS := Lib.hid fun B v w hv => bounds_any (corL (dbL L)) m.a m.b B v w hv HFI.out
        have hbd := hi_bnd HFI.out
        go_enter Try.func21, Try.ntmps21
        go_wp2_with fail
        refine (HCH.out _ H.out).mono ?_
        rintro e w1 ⟨rfl, hb1⟩
        have HB1 := Lib.hid hb1
        have M := HM.out.below hb1
        have c0 := M.c0 k q
        have c1 := M.c1 k q
        have c2 := M.c2 k q
        have c3 := M.c3 k q
        have c4 := M.c4 k q
        have c5 := M.c5 k q
        rw [HMK.out] at c0 c1 c2 c3 c4 c5
        have q' : decide (k < l.length) = true := by simpa using q
        have CN := Lib.hid (copy_new m w1 50)
        have HL0 := Lib.hid ((H.out.below HB1.out).below ((Below.refl w1.heap.size w1).alloc (Nat.le_refl _) (.cells #[.int .i64 m.s, .int .i64 m.a, .int .i64 m.b, .int .i64 m.z, .int .i64 m.d, .int .i64 m.w] 50)))
        have HBA := Lib.hid (HB1.out.trans (((Below.refl w1.heap.size w1).alloc (Nat.le_refl _) (.cells #[.int .i64 m.s, .int .i64 m.a, .int .i64 m.b, .int .i64 m.z, .int .i64 m.d, .int .i64 m.w] 50)).mono HB1.out.size))
        clear M hb1
        go_wp2_with fail
        generalize w1.alloc (.cells #[.int .i64 m.s, .int .i64 m.a, .int .i64 m.b, .int .i64 m.z, .int .i64 m.d, .int .i64 m.w] 50) = W0 at *
        generalize w1.heap.size = bm at *
        clear c0 c1 c2 c3 c4 c5 q'
        refine (WOS.out _ HL0.out).mono ?_
        rintro e w2 ⟨⟨u2, rfl, hom⟩, hb2⟩
        have HB2 := Lib.hid hb2
        have HOM2 := Lib.hid hom
        obtain ⟨p2, cap2, rfl⟩ := slm_of hom
        have FU2 := FUS.out _ _ hom.lst
        clear hb2 hom
        cases hf : fullB L with
        | false =>
          rw [hf] at FU2
          have HFU := Lib.hid FU2
          have E := Lib.hid (show detF l k = (0, 14) by rw [ESN.out, hf]; rfl)
          clear FU2 hf
          go_wp2_with fail
          refine HFU.out.mono ?_
          rintro e w3 ⟨rfl, hb3⟩
          have HB3 := Lib.hid ((HBA.out.trans (HB2.out.mono HBA.out.size)).trans (hb3.mono (by have := HBA.out.size; have := HB2.out.size; omega)))
          clear hb3
          go_wp2
          go_ret2
          exact ⟨by rw [E.out]; rfl, HB3.out⟩
        | true =>
          rw [hf] at FU2
          have HFU := Lib.hid FU2
          have E := Lib.hid (show detF l k = (m.d + (bndF m.a m.b (corL (dbL L))).2, 0) by rw [ESN.out, hf]; rfl)
          have hne : L ≠ [] := by rintro rfl; cases hf
          clear FU2 hf
          obtain ⟨g2, hp2, hc2, hm2, hg2⟩ : ∃ g, p2 = some ⟨g, 0, none⟩ ∧ L.length ≤ cap2 ∧ cap2 ≤ 9223372036854775807 ∧ W0.heap.size ≤ g := by
            rcases om_cases HOM2.out with ⟨_, h⟩ | ⟨g, c, h, h2, h3, h4, _⟩
            · exact absurd h hne
            · cases h
              exact ⟨g, rfl, h2, h3, h4⟩
          subst hp2
          clear hne
          go_wp2_with fail
          refine HFU.out.mono ?_
          rintro e w3 ⟨rfl, hb3⟩
          have HB3 := Lib.hid (HB2.out.trans (hb3.mono HB2.out.size))
          have HO3 := Lib.hid (HOM2.out.below hb3)
          clear hb3
          go_wp2_with fail
          go_loopw [38] (DtR L g2 cap2 W0) (fun i _ => L.length - (intOf i).toNat)
          case atStart => exact ⟨0, rfl, Nat.zero_le _, HB3, Lib.hid (by rw [dblK_zero]; exact HO3.out)⟩
          case round =>
            obtain ⟨j, rfl, hj, HB, HO⟩ := hrel
            by_cases r : j < L.length
            · have r' : decide (j < L.length) = true := by simpa using r
              obtain ⟨M, hfr⟩ := om_at HO.out
              have jl : j < (dblK L j).length := by rw [dblK_len]; exact r
              have x3 := M.c3 j jl
              have x4 := M.c4 j jl
              have f3 := hfr (j * 6 + 3)
              have f4 := hfr (j * 6 + 4)
              rw [nth_dblK r, Nat.zero_add] at x3 x4
              have MS := Lib.hid (msC_set r)
              obtain ⟨d0, d1⟩ := HWD.out _ (nth_mem r)
              have y4 : ∀ u, (wr.setCell ⟨g2, j * 6 + 3, none⟩ u).cell? ⟨g2, j * 6 + 4, none⟩ = some (.int .i64 (nth L j).d) := fun u => by
                rw [World.cell?_setCell_other]
                · exact x4
                · intro e; injection e with _ e _; omega
              clear M hfr jl
              generalize nth L j = n at *
              go_wp2_with fail
              go_roundw
              case rel =>
                have S1 := World.ownsRow.stored (show wr.ownsRow W0.heap.size 50 6 (.slice (some ⟨g2, 0, none⟩) L.length cap2) L.length (msC (dblK L j)) by have := HO.out; unfold OM at this; rw [dblK_len] at this; exact this) (j * 6 + 3) (.int .i64 0)
                have S2 := S1.1.stored (j * 6 + 4) (.int .i64 (n.d * 2))
                have hs0 := HB.out.size
                have hs1 := S1.2.size
                refine ⟨j + 1, by go_num, by omega, Lib.hid (below_grown (below_grown HB.out S1.2 hs0 (fun k hk => by cases hk; exact hg2)) S2.2 (by omega) (fun k hk => by cases hk; exact hg2)), Lib.hid ?_⟩
                unfold OM
                rw [dblK_len, ← MS.out]
                exact S2.1
              case measure => simp [intOf]; omega
            · obtain rfl : j = L.length := by omega
              rw [dblK_all] at HO
              have hbd1 : Below wr.heap.size wr wr.drew := ⟨rfl, rfl, rfl, Nat.le_refl _, fun _ _ => rfl⟩
              have LV := Lib.hid (HO.out.lst.below hbd1)
              have CP := (CN.out.below HB.out).below hbd1
              have HCP := Lib.hid CP
              have k1 := CP.c1
              have k2 := CP.c2
              have k4 := CP.c4
              have HBD := Lib.hid (HBA.out.trans ((HB.out.mono HBA.out.size).trans (hbd1.mono (by have := HBA.out.size; have := HB.out.size; omega))))
              clear CP hbd1
              have FW : IntKind.i64.wrap (m.d + (bndF m.a m.b (corL (dbL L))).2) = m.d + (bndF m.a m.b (corL (dbL L))).2 := IntWalk.i64_in _ (by omega)
              have FF : ∀ w x y, (Instr.field 30 (.agg #[x, y]) 1).run Try.prog w = .ok y w := fun _ _ _ => rfl
              go_wp2_with fail
              go_region_held3 (fun w' => w'.cell? ⟨bm, 1, none⟩ = some (.int .i64 m.a) ∧ w'.cell? ⟨bm, 2, none⟩ = some (.int .i64 m.b) ∧ w'.cell? ⟨bm, 4, none⟩ = some (.int .i64 m.d)) ((refine ⟨?_, ?_, ?_⟩ <;> assumption))
                (first
                  | (go_at_call 34; refine (COS.out _ _ LV.out).mono ?_; rintro e w6 ⟨⟨u6, rfl, hoc⟩, hb6⟩; have CP6 := HCP.out.below hb6; have HCP6 := Lib.hid CP6; have y1 := CP6.c1; have y2 := CP6.c2; have y4 := CP6.c4; have BN6 := Lib.hid (BNS.out _ _ _ hoc); have HB6 := Lib.hid (HBD.out.trans (hb6.mono HBD.out.size)); clear CP6 hb6 hoc)
                  | (go_at_call 36; refine BN6.out.mono ?_; rintro e w7 ⟨rfl, hb7⟩; have CP7 := HCP6.out.below hb7; have z1 := CP7.c1; have z2 := CP7.c2; have z4 := CP7.c4; have HB7 := Lib.hid (HB6.out.trans (hb7.mono HB6.out.size)); clear CP7 hb7))
              go_wp2
              go_ret2
              exact ⟨by rw [E.out]; rfl, HB7.out⟩
  · have g : (chkL l != 0) = true := by simpa using hc
    have HCH := Lib.hid CH
    have E := Lib.hid (show detF l i = (0, chkL l) by unfold detF; rw [if_neg hc])
    clear CH hc
    generalize chkL l = c at *
    go_enter Try.func21, Try.ntmps21
    go_wp2_with fail
    refine (HCH.out _ H.out).mono ?_
    rintro e w1 ⟨rfl, hb1⟩
    have HB1 := Lib.hid hb1
    clear hb1
    go_wp2
    go_ret2
    exact ⟨by rw [E.out]; rfl, HB1.out⟩
end Go.Proofs.Ytmlopbolekddnaa
