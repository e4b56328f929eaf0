/-
  The walk of the reference's Fault of layer 44.
-/
import Derived.Test.YtmlopbolekddnaaRef44G
import Derived.Test.YtmlopbolekddnaaRef44C
import Derived.Test.YtmlopbolekddnaaRef43
import Derived.Test.YtmlopbolekddnaaExcFlt
namespace Go.Proofs.Ytmlopbolekddnaa
set_option linter.unusedVariables false
open Go.RowKit

theorem srcref_nil (w : World) :
    Calls Try.prog 40 #[.slice none 0 0] w fun e w' => (∃ u, e = .returned u ∧ OI w.heap.size w' u (srcL [])) ∧ Below w.heap.size w w' := by
  go_enter Try.func40, Try.ntmps40
  go_wp2
  go_loop [3, 11] (fun u v => u = .slice (some ⟨w.heap.size, 0, none⟩) 0 0 ∧ v = .int .i64 0) (fun _ _ => 0)
  case atStart => exact ⟨rfl, rfl⟩
  case round =>
    obtain ⟨rfl, rfl⟩ := hrel
    go_wp2
    go_ret
    have e : srcL [] = [] := by unfold srcL srtL; rw [List.map_nil, List.mergeSort_nil]; rfl
    exact ⟨⟨_, rfl, by rw [e]; exact World.ownsRow_lit w #[] 0 (Nat.le_refl _) (by decide) rfl⟩, (Below.refl _ _).alloc (Nat.le_refl _) _⟩
theorem srcref_any (l : List Ms) (v : Value) (w : World) (h : LstAt l v w) (hl : l.length ≤ 1000) :
    Calls Try.prog 40 #[v] w fun e w' => (∃ u, e = .returned u ∧ OI w.heap.size w' u (srcL l)) ∧ Below w.heap.size w w' := by
  rcases h with ⟨rfl, rfl⟩ | ⟨b, o, cap, rfl, h2, h3, h4⟩
  · exact srcref_nil w
  · exact srcref_some l b o cap w h4 h2 h3 hl
def lastI (l : List Int) : Int := l.getLastD 0
theorem lastI_app (l : List Int) (x : Int) : lastI (l ++ [x]) = x := by
  unfold lastI
  simp
theorem con_wo {l : List Ms} (hc : chkL l = 0) (s : Int) : conF (woL l s) = if fuS l s = true then (okS l s, 0) else (false, 14) := by
  have h : chkL (woL l s) = 0 := chkL_of (Nat.le_trans (woL_len _ _) (chkL_ok hc).1) fun x hx => (chkL_ok hc).2 x (List.mem_filter.1 hx).1
  unfold conF
  rw [if_pos h]
  rfl
def FRr (l : List Ms) (w W1 : World) (u : Value) (sv cv iv : Value) (wr : World) : Prop :=
  ∃ k : Nat, iv = .int .i64 k ∧ k ≤ (srcL l).length ∧ ∃ x c : Int, sv = .int .i64 x ∧ cv = .int .i64 c ∧ Hid (x = lastI (rgtL l k) ∧ c = (rgtL l k).length) ∧ c ≤ k ∧ 0 ≤ c ∧ Hid (Below w.heap.size w wr) ∧ Hid (OI W1.heap.size wr u (srcL l)) ∧ Hid (∀ j, j < k → fuS l ((srcL l).getD j 0) = true)
set_option maxHeartbeats 8000000 in
set_option maxRecDepth 100000 in
theorem fltref_any (l : List Ms) (v : Value) (w : World) (h : LstAt l v w) :
    Calls Try.prog 20 #[v] w (FlP l w) := by
  have CR := fun w hv => conref_any l v w hv
  have H := Lib.hid h
  clear h
  by_cases hz : (conF l).2 = 0
  · have hc : chkL l = 0 := by
      unfold conF at hz; by_cases hc : chkL l = 0; exact hc; rw [if_neg hc] at hz; exact absurd hz hc
    have hf : fullB l = true := by
      unfold conF at hz; rw [if_pos hc] at hz; by_cases hf : fullB l = true; exact hf; rw [if_neg hf] at hz; cases hz
    have hl := (chkL_ok hc).1
    have EC : conF l = (decide (0 < (corL l).length), 0) := by unfold conF; rw [if_pos hc, if_pos hf]
    have E0 := Lib.hid (show fltF l = if (srcL l).all (fuS l) = true then verd (corL l).length ((srcL l).filter (okS l)) else (0, 14) by unfold fltF; rw [if_pos hc, if_pos hf])
    rw [EC] at CR
    obtain ⟨c0, hc0⟩ : ∃ c0, decide (0 < (corL l).length) = c0 := ⟨_, rfl⟩
    rw [hc0] at CR
    have HC0 := Lib.hid hc0
    have HCR := Lib.hid CR
    have SR := Lib.hid fun w hv => srcref_any l v w hv (by omega)
    have WO := Lib.hid fun s w hv => woref_any l s v w hv (by omega)
    have CW := Lib.hid fun s => con_wo hc s
    have SL := Lib.hid (show (srcL l).length ≤ l.length by rw [← refK_eq]; exact refK_len)
    clear CR hz hc hf EC hc0
    go_enter Try.func20, Try.ntmps20
    go_wp2_with fail
    refine (HCR.out _ H.out).mono ?_
    rintro e w1 ⟨rfl, hb1⟩
    have HB1 := Lib.hid hb1
    have H1 := Lib.hid (H.out.below hb1)
    clear hb1
    go_wp2_with fail
    refine (SR.out _ H1.out).mono ?_
    rintro e w2 ⟨⟨u, rfl, ho⟩, hb2⟩
    have HO2 := Lib.hid ho
    have HB2 := Lib.hid (HB1.out.trans (hb2.mono HB1.out.size))
    obtain ⟨pu, cu, rfl⟩ := slc_of ho
    clear ho hb2
    go_wp2_with fail
    go_loopw [6, 7, 23] (FRr l w w1 (.slice pu (srcL l).length cu)) (fun _ _ i _ => (srcL l).length - (intOf i).toNat)
    case atStart => exact ⟨0, rfl, Nat.zero_le _, 0, 0, rfl, rfl, Lib.hid ⟨rfl, rfl⟩, by omega, by omega, HB2, HO2, Lib.hid (fun j hj => absurd hj (by omega))⟩
    case round =>
      obtain ⟨k, rfl, hk, x, c, rfl, rfl, HR, hck, hc0, HB, HO, HF⟩ := hrel
      have sl := SL.out
      by_cases q : k < (srcL l).length
      · have q' : decide (k < (srcL l).length) = true := by simpa using q
        have FM : ∃ g, pu = some ⟨g, 0, none⟩ ∧ g < wr.heap.size ∧ wr.cell? ⟨g, k, none⟩ = some (.int .i64 ((srcL l).getD k 0)) := by
          rcases oi_cases HO.out with ⟨_, e⟩ | ⟨g, cap', e, _, _, _, at'⟩
          · rw [e] at q; simp at q
          · injection e with e1 e2 e3
            exact ⟨g, e1, at'.lt, at'.c k q⟩
        obtain ⟨g, rfl, hg, d0⟩ := FM
        have RS := Lib.hid (rgtL_succ q)
        have FK := Lib.hid (show (srcL l).getD k 0 ∈ srcL l by rw [List.getD_eq_getElem?_getD, List.getElem?_eq_getElem q]; exact List.getElem_mem q)
        have H3 := Lib.hid (H.out.below HB.out)
        generalize hsk : (srcL l).getD k 0 = s at *
        have HSK := Lib.hid hsk
        clear hsk
        have W3 := Lib.hid (WO.out s wr H3.out)
        have CWS := CW.out s
        go_wp2_with fail
        refine W3.out.mono ?_
        rintro e w4 ⟨⟨u4, rfl, hom⟩, hb4⟩
        have HB4 := Lib.hid (HB.out.trans (hb4.mono HB.out.size))
        have HO4 := Lib.hid (HO.out.below hb4)
        have C4 := conref_any (woL l s) u4 w4 hom.lst
        clear hb4 hom d0 hg
        cases hfu : fuS l s with
        | false =>
          rw [hfu] at CWS
          rw [CWS] at C4
          have HC4 := Lib.hid C4
          have E := Lib.hid (show fltF l = (0, 14) by rw [E0.out, if_neg]; intro hall; have := List.all_eq_true.1 hall s FK.out; rw [hfu] at this; cases this)
          clear CWS C4 hfu
          go_wp2_with fail
          refine HC4.out.mono ?_
          rintro e w5 ⟨rfl, hb5⟩
          have HB5 := Lib.hid (HB4.out.trans (hb5.mono HB4.out.size))
          clear hb5
          go_wp2
          go_ret2
          exact ⟨by rw [E.out]; rfl, HB5.out⟩
        | true =>
          rw [hfu] at CWS
          rw [CWS] at C4
          have HFU := Lib.hid hfu
          have HF2 := Lib.hid (show ∀ j, j < k + 1 → fuS l ((srcL l).getD j 0) = true from fun j hj => (Nat.lt_or_ge j k).elim (fun q => HF.out j q) (fun q => by rw [show j = k by omega, HSK.out]; exact HFU.out))
          clear CWS hfu
          cases hok : okS l s with
          | false =>
            rw [hok] at C4
            have HC4 := Lib.hid C4
            have HRG := Lib.hid (show rgtL l (k + 1) = rgtL l k by rw [RS.out, hok]; rfl)
            clear C4 hok
            go_wp2_with fail
            refine HC4.out.mono ?_
            rintro e w5 ⟨rfl, hb5⟩
            have HB5 := Lib.hid (HB4.out.trans (hb5.mono HB4.out.size))
            have HO5 := Lib.hid (HO4.out.below hb5)
            clear hb5
            go_wp2
            go_roundw
            case rel => exact ⟨k + 1, by go_num, by omega, x, c, rfl, rfl, Lib.hid (by rw [HRG.out]; exact HR.out), by omega, by omega, HB5, HO5, HF2⟩
            case measure => simp [intOf]; omega
          | true =>
            rw [hok] at C4
            have HC4 := Lib.hid C4
            have HRG := Lib.hid (show rgtL l (k + 1) = rgtL l k ++ [s] by rw [RS.out, hok]; rfl)
            clear C4 hok
            go_wp2_with fail
            refine HC4.out.mono ?_
            rintro e w5 ⟨rfl, hb5⟩
            have HB5 := Lib.hid (HB4.out.trans (hb5.mono HB4.out.size))
            have HO5 := Lib.hid (HO4.out.below hb5)
            clear hb5
            go_wp2
            go_roundw
            case rel => exact ⟨k + 1, by go_num, by omega, s, c + 1, rfl, by go_num, Lib.hid (by rw [HRG.out, lastI_app]; exact ⟨rfl, by rw [List.length_append, List.length_singleton]; have := HR.out.2; omega⟩), by omega, by omega, HB5, HO5, HF2⟩
            case measure => simp [intOf]; omega
      · obtain rfl : k = (srcL l).length := by omega
        have EA := Lib.hid (show fltF l = verd (corL l).length ((srcL l).filter (okS l)) by
          rw [E0.out, if_pos]
          refine List.all_eq_true.2 fun y hy => ?_
          obtain ⟨j, hj, rfl⟩ := List.getElem_of_mem hy
          have := HF.out j hj
          rwa [List.getD_eq_getElem?_getD, List.getElem?_eq_getElem hj] at this)
        have RF : rgtL l (srcL l).length = (srcL l).filter (okS l) := by unfold rgtL; rw [List.take_length]
        have hr := HR.out
        rw [RF] at hr
        generalize (srcL l).filter (okS l) = R at *
        obtain ⟨hx, hcl⟩ := hr
        have key : (c0 = true ∧ fltF l = (0, 0)) ∨ (c0 = false ∧ (c == 0) = true ∧ fltF l = (0, 11)) ∨ (c0 = false ∧ (c == 0) = false ∧ decide (1 < c) = true ∧ fltF l = (0, 8)) ∨ (c0 = false ∧ (c == 0) = false ∧ decide (1 < c) = false ∧ fltF l = (x, 0)) := by
          rw [EA.out]
          unfold verd
          by_cases z0 : 0 < (corL l).length
          · exact .inl ⟨by rw [← HC0.out]; exact decide_eq_true z0, if_pos z0⟩
          · have w0 : c0 = false := by rw [← HC0.out]; exact decide_eq_false z0
            rw [if_neg z0]
            by_cases z1 : R.length = 0
            · exact .inr (.inl ⟨w0, by rw [beq_iff_eq]; omega, if_pos z1⟩)
            · rw [if_neg z1]
              by_cases z2 : 1 < R.length
              · exact .inr (.inr (.inl ⟨w0, by rw [beq_eq_false_iff_ne]; omega, by simpa using (show 1 < c by omega), if_pos z2⟩))
              · refine .inr (.inr (.inr ⟨w0, by rw [beq_eq_false_iff_ne]; omega, by simpa using (show ¬ 1 < c by omega), ?_⟩))
                rw [if_neg z2, hx]
                match R, z1, z2 with
                | [y], _, _ => rfl
                | [], z1, _ => exact absurd rfl z1
                | y :: y' :: r, _, z2 => exact absurd (by simp) z2
        clear hx hcl RF HR
        rcases key with ⟨rfl, E⟩ | ⟨rfl, g1, E⟩ | ⟨rfl, g1, g2, E⟩ | ⟨rfl, g1, g2, E⟩
        all_goals
          have HE := Lib.hid E
          clear E
          go_wp2
          go_ret2
          exact ⟨by rw [HE.out]; rfl, HB.out⟩
  · have g : ((conF l).2 != 0) = true := by simpa using hz
    have E := Lib.hid (show fltF l = (0, (conF l).2) by
      unfold conF at hz ⊢
      unfold fltF
      by_cases hc : chkL l = 0
      · rw [if_pos hc] at hz ⊢
        by_cases hf : fullB l = true
        · rw [if_pos hf] at hz; exact absurd rfl hz
        · rw [if_neg hf, if_pos hc, if_neg hf]
      · rw [if_neg hc, if_neg hc])
    generalize conF l = r at *
    obtain ⟨c, z⟩ := r
    simp only at g
    have HCR := Lib.hid CR
    clear CR hz
    go_enter Try.func20, Try.ntmps20
    go_wp2_with fail
    refine (HCR.out _ H.out).mono ?_
    rintro e w1 ⟨rfl, hb1⟩
    have HB1 := Lib.hid hb1
    clear hb1
    go_wp2
    go_ret2
    exact ⟨by rw [E.out]; rfl, HB1.out⟩
end Go.Proofs.Ytmlopbolekddnaa
