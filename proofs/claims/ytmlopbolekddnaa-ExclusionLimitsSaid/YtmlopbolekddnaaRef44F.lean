/-
  The walk of the reference's Detectable of layer 44.
-/
import Derived.Test.YtmlopbolekddnaaRef44E
import Derived.Test.YtmlopbolekddnaaRef43
import Derived.Test.YtmlopbolekddnaaExcDet
import Derived.Deep.RegionHeld3
namespace Go.Proofs.Ytmlopbolekddnaa
set_option linter.unusedVariables false
open Go.RowKit

theorem bnd_ver (l : List Ms) (a b : Int) : bndF a b (verL l) = bndF a b (corL l) := by
  have h := ver_pos (l := l)
  by_cases hz : (corL l).length = 0
  · rw [List.eq_nil_of_length_eq_zero hz, List.eq_nil_of_length_eq_zero (show (verL l).length = 0 by omega)]
  · have hv : ¬ (verL l).length = 0 := by omega
    exact (bnd_is a b (l := verL l) (fun q => hv (by rw [q]; rfl))).uniq (bnd_is a b (l := corL l) (fun q => hz (by rw [q]; rfl))) (fun p => mem_verL)
theorem fullB_dbl (L : List Ms) : fullB (dbL L) = fullB L := by
  have e : fullB (dbL L) = true ↔ fullB L = true := by
    rw [fullB_iff, fullB_iff]
    unfold dbL
    constructor
    · rintro ⟨m, hm, n, hn, hd⟩
      obtain ⟨m', hm', rfl⟩ := List.mem_map.1 hm
      obtain ⟨n', hn', rfl⟩ := List.mem_map.1 hn
      exact ⟨m', hm', n', hn', hd⟩
    · rintro ⟨m, hm, n, hn, hd⟩
      exact ⟨dbl m, List.mem_map_of_mem hm, dbl n, List.mem_map_of_mem hn, hd⟩
  cases h : fullB (dbL L) <;> cases h' : fullB L
  · rfl
  · rw [e.2 h'] at h; cases h
  · rw [e.1 h] at h'; cases h'
  · rfl
def DtRr (L : List Ms) (p : Option Addr) (cap : Nat) (W0 : World) (u : Value) (wr : World) : Prop :=
  ∃ k : Nat, u = .int .i64 k ∧ k ≤ L.length ∧ Hid (Below W0.heap.size W0 wr) ∧ Hid (OM W0.heap.size wr (.slice p L.length cap) (dblK L k))
set_option maxHeartbeats 8000000 in
set_option maxRecDepth 100000 in
theorem detref_any (l : List Ms) (i : Int) (v : Value) (w : World) (h : LstAt l v w) :
    Calls Try.prog 22 #[v, .int .i64 i] w (DtP l i w) := by
  obtain ⟨pl, capl, rfl⟩ : ∃ p cap, v = .slice p l.length cap := by
    rcases h with ⟨rfl, rfl⟩ | ⟨b, o, cap, rfl, _⟩
    · exact ⟨none, 0, rfl⟩
    · exact ⟨_, _, rfl⟩
  have CH := fun w hv => chkref_any l (.slice pl l.length capl) w hv
  have H := Lib.hid h
  clear h
  by_cases hc : chkL l = 0
  · obtain ⟨he, hl⟩ := ed_of hc
    have hok := (chkL_ok hc).2
    rw [hc] at CH
    have HCH := Lib.hid CH
    have WO := Lib.hid fun s w hv => woref_any l s (.slice pl l.length capl) w hv hl
    have HE := Lib.hid he
    have HOK := Lib.hid hok
    have E0 : detF l i = if i < 0 ∨ (l.length : Int) ≤ i then (0, 1) else
      if fullB (woL l (nth l i.toNat).s) = true then ((nth l i.toNat).d + (bndF (nth l i.toNat).a (nth l i.toNat).b (corL (dbL (woL l (nth l i.toNat).s)))).2, 0) else (0, 14) := by unfold detF; rw [if_pos hc]
    clear CH hc he hok
    by_cases h0 : i < 0
    · have g0 : decide (i < 0) = true := by simpa using h0
      have E := Lib.hid (E0.trans (if_pos (.inl h0)))
      clear E0 h0
      go_enter Try.func22, Try.ntmps22
      go_wp2_with fail
      refine (HCH.out _ H.out).mono ?_
      rintro e w1 ⟨rfl, hb1⟩
      have HB1 := Lib.hid hb1
      clear hb1
      go_wp2
      go_ret2
      exact ⟨by rw [E.out]; rfl, HB1.out⟩
    · have g0 : decide (i < 0) = false := by simpa using h0
      by_cases h1 : (l.length : Int) ≤ i
      · have g1 : decide ((l.length : Int) ≤ i) = true := by simpa using h1
        have E := Lib.hid (E0.trans (if_pos (.inr h1)))
        clear E0 h0 h1
        go_enter Try.func22, Try.ntmps22
        go_wp2_with fail
        refine (HCH.out _ H.out).mono ?_
        rintro e w1 ⟨rfl, hb1⟩
        have HB1 := Lib.hid hb1
        clear hb1
        go_wp2
        go_ret2
        exact ⟨by rw [E.out]; rfl, HB1.out⟩
      · have g1 : decide ((l.length : Int) ≤ i) = false := by simpa using h1
        have E1 := E0.trans (if_neg (by omega))
        obtain ⟨k, rfl⟩ : ∃ k : Nat, i = k := ⟨i.toNat, by omega⟩
        have q : k < l.length := by omega
        have EN : (k : Int).toNat = k := by omega
        rw [EN] at E1
        clear E0 h0 h1 EN
        rcases H.out with ⟨hv2, hz⟩ | ⟨b, o, cap, hv2, hcap, hcm, M⟩
        · rw [hz] at q; exact absurd q (by simp)
        injection hv2 with e1 e2 e3
        subst e1
        subst e3
        clear e2
        have HM := Lib.hid M
        have hok := HOK.out _ (nth_mem q)
        have ab0 := hok.a0
        have ab1 := hok.a1
        have ab2 := hok.b0
        have ab3 := hok.b1
        have ab4 := hok.d0
        have ab5 := hok.d1
        have HSM := Lib.hid (show SmAB (nth l k).a (nth l k).b from ⟨ab0, ab1, ab2, ab3⟩)
        clear M ab0 ab1 ab2 ab3 hok
        generalize hmk : nth l k = m at *
        have HMK := Lib.hid hmk
        clear hmk
        have HL := woL_len l m.s
        have ESN := Lib.hid E1
        have HEW := Lib.hid (wo_ed HE.out m.s)
        have HED := Lib.hid (show ∀ x ∈ dbL (woL l m.s), EdM x from fun x hx => by
          unfold dbL at hx
          rw [List.mem_map] at hx
          obtain ⟨y, hy, rfl⟩ := hx
          exact EdM.dbl (HOK.out y (List.mem_filter.1 hy).1))
        have HWD := Lib.hid (show ∀ x ∈ woL l m.s, 0 ≤ x.d ∧ x.d ≤ 4294967296 from fun x hx => by
          have := HOK.out x (List.mem_filter.1 hx).1
          exact ⟨this.d0, this.d1⟩)
        have WOS := Lib.hid (WO.out m.s)
        clear E1 WO HE HOK
        generalize woL l m.s = L at *
        have VES := Lib.hid fun v w (h : LstAt (dbL L) v w) => vertices_any (dbL L) v w h HED.out (by unfold dbL; rw [List.length_map]; omega)
        have HFI := Lib.hid (fit_of (a := m.a) (b := m.b) HED.out HSM.out)
        have HFV := Lib.hid (show ∀ p ∈ verL (dbL L), FitP m.a m.b p from fun p hp => HFI.out p (mem_verL.1 hp))
        have BNS := Lib.hid fun B v w hv => span_any (verL (dbL L)) m.a m.b B v w hv HFV.out
        have hbd := hi_bnd HFI.out
        rw [← bnd_ver] at hbd
        go_enter Try.func22, Try.ntmps22
        go_wp2_with fail
        refine (HCH.out _ H.out).mono ?_
        rintro e w1 ⟨rfl, hb1⟩
        have HB1 := Lib.hid hb1
        have M := HM.out.below hb1
        have c0 := M.c0 k q
        rw [HMK.out] at c0
        have q' : decide (k < l.length) = true := by simpa using q
        have HL0 := Lib.hid (H.out.below HB1.out)
        clear M hb1
        go_wp2_with fail
        clear c0
        refine (WOS.out _ HL0.out).mono ?_
        rintro e w2 ⟨⟨u2, rfl, hom⟩, hb2⟩
        have HB2 := Lib.hid hb2
        have HOM2 := Lib.hid hom
        obtain ⟨p2, cap2, rfl⟩ := slm_of hom
        clear hb2
        have FORM : (p2 = none ∧ L = []) ∨ ∃ g, p2 = some ⟨g, 0, none⟩ ∧ L.length ≤ cap2 ∧ cap2 ≤ 9223372036854775807 ∧ w1.heap.size ≤ g := by
          rcases om_cases hom with ⟨h1, h⟩ | ⟨g, c, h, h2, h3, h4, _⟩
          · injection h1 with h1; exact .inl ⟨h1, h⟩
          · injection h with e1 e2 e3; subst e3; exact .inr ⟨g, e1, h2, h3, h4⟩
        clear hom
        go_wp2_with fail
        go_loopw [33] (DtRr L p2 cap2 w1) (fun i _ => L.length - (intOf i).toNat)
        case atStart => exact ⟨0, rfl, Nat.zero_le _, HB2, Lib.hid (by rw [dblK_zero]; exact HOM2.out)⟩
        case round =>
          obtain ⟨j, rfl, hj, HB, HO⟩ := hrel
          by_cases r : j < L.length
          · obtain ⟨g2, hp2, hc2, hm2, hg2⟩ := FORM.resolve_left (fun h => by rw [h.2] at r; simp at r)
            subst hp2
            have r' : decide (j < L.length) = true := by simpa using r
            obtain ⟨M, hfr⟩ := om_at HO.out
            have jl : j < (dblK L j).length := by rw [dblK_len]; exact r
            have x3 := M.c3 j jl
            have x4 := M.c4 j jl
            have f3 := hfr (j * 6 + 3)
            have f4 := hfr (j * 6 + 4)
            rw [nth_dblK r, Nat.zero_add] at x3 x4
            have MS := Lib.hid (msC_set r)
            obtain ⟨d0, d1⟩ := HWD.out _ (nth_mem r)
            have y4 : ∀ u, (wr.setCell ⟨g2, j * 6 + 3, none⟩ u).cell? ⟨g2, j * 6 + 4, none⟩ = some (.int .i64 (nth L j).d) := fun u => by
              rw [World.cell?_setCell_other]
              · exact x4
              · intro e; injection e with _ e _; omega
            have sw : IntKind.i64.wrap (2 * (nth L j).d) = (nth L j).d * 2 := by rw [IntWalk.i64_in _ (by omega)]; omega
            clear M hfr jl
            generalize nth L j = n at *
            go_wp2_with fail
            go_roundw
            case rel =>
              have S1 := World.ownsRow.stored (show wr.ownsRow w1.heap.size 50 6 (.slice (some ⟨g2, 0, none⟩) L.length cap2) L.length (msC (dblK L j)) by have := HO.out; unfold OM at this; rw [dblK_len] at this; exact this) (j * 6 + 3) (.int .i64 0)
              have S2 := S1.1.stored (j * 6 + 4) (.int .i64 (n.d * 2))
              have hs0 := HB.out.size
              have hs1 := S1.2.size
              refine ⟨j + 1, by go_num, by omega, Lib.hid (below_grown (below_grown HB.out S1.2 hs0 (fun k hk => by cases hk; exact hg2)) S2.2 (by omega) (fun k hk => by cases hk; exact hg2)), Lib.hid ?_⟩
              unfold OM
              rw [dblK_len, ← MS.out]
              exact S2.1
            case measure => simp [intOf]; omega
          · obtain rfl : j = L.length := by omega
            rw [dblK_all] at HO
            have HBD := Lib.hid (HB1.out.trans (HB.out.mono HB1.out.size))
            have V3 := Lib.hid (VES.out _ _ HO.out.lst)
            go_wp2_with fail
            refine V3.out.mono ?_
            rintro e w5 ⟨⟨u5, rfl, hov⟩, hb5⟩
            have HB5 := Lib.hid (HBD.out.trans (hb5.mono HBD.out.size))
            have BN6 := Lib.hid fun W (h : Below w5.heap.size w5 W) => BNS.out _ _ _ (show OV wr.heap.size W u5 (verL (dbL L)) from World.ownsRow.kept hov (grown_of_below h) (by cases u5.ownBlock <;> simp))
            clear hb5
            cases hf : fullB L with
            | false =>
              have E := Lib.hid (show detF l k = (0, 14) by rw [ESN.out, hf]; rfl)
              have g5 : fullB (dbL L) = false := by rw [fullB_dbl, hf]
              clear hf hov
              go_wp2
              go_ret2
              exact ⟨by rw [E.out]; rfl, HB5.out⟩
            | true =>
              have E := Lib.hid (show detF l k = (m.d + (bndF m.a m.b (verL (dbL L))).2, 0) by rw [ESN.out, hf, bnd_ver]; rfl)
              have g5 : fullB (dbL L) = true := by rw [fullB_dbl, hf]
              obtain ⟨p5, cap5, rfl⟩ := ov_len hov
              have hbd1 : Below w5.heap.size w5 w5.drew := ⟨rfl, rfl, rfl, Nat.le_refl _, fun _ _ => rfl⟩
              have M5 := (HM.out.below HB5.out)
              have k1 := M5.c1 k q
              have k2 := M5.c2 k q
              have k4 := M5.c4 k q
              rw [HMK.out] at k1 k2 k4
              have HM5 := Lib.hid M5
              have HD := Lib.hid hbd1
              clear M5 hbd1 hf hov
              have FW : IntKind.i64.wrap (m.d + (bndF m.a m.b (verL (dbL L))).2) = m.d + (bndF m.a m.b (verL (dbL L))).2 := IntWalk.i64_in _ (by omega)
              have FF : ∀ w x y, (Instr.field 30 (.agg #[x, y]) 1).run Try.prog w = .ok y w := fun _ _ _ => rfl
              go_wp2_with fail
              go_region_held3 (fun w' => w'.cell? ⟨b, o + k * 6 + 1, none⟩ = some (.int .i64 m.a) ∧ w'.cell? ⟨b, o + k * 6 + 2, none⟩ = some (.int .i64 m.b) ∧ w'.cell? ⟨b, o + k * 6 + 4, none⟩ = some (.int .i64 m.d)) ((refine ⟨?_, ?_, ?_⟩ <;> assumption))
                (first
                  | (go_at_call 38; refine (BN6.out _ HD.out).mono ?_; rintro e w7 ⟨rfl, hb7⟩; have HB7 := Lib.hid (HB5.out.trans ((HD.out.trans hb7).mono HB5.out.size)); have M7 := HM5.out.below (HD.out.trans hb7); have z1 := M7.c1 k q; have z2 := M7.c2 k q; have z4 := M7.c4 k q; rw [HMK.out] at z1 z2 z4; clear hb7 M7))
              go_wp2
              go_ret2
              exact ⟨by rw [E.out]; rfl, HB7.out⟩
  · have g : (chkL l != 0) = true := by simpa using hc
    have HCH := Lib.hid CH
    have E := Lib.hid (show detF l i = (0, chkL l) by unfold detF; rw [if_neg hc])
    clear CH hc
    generalize chkL l = c at *
    go_enter Try.func22, Try.ntmps22
    go_wp2_with fail
    refine (HCH.out _ H.out).mono ?_
    rintro e w1 ⟨rfl, hb1⟩
    have HB1 := Lib.hid hb1
    clear hb1
    go_wp2
    go_ret2
    exact ⟨by rw [E.out]; rfl, HB1.out⟩
end Go.Proofs.Ytmlopbolekddnaa
