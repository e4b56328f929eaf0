/-
  The walk of layer 44's Fault.
-/
import Derived.Test.YtmlopbolekddnaaExcSrc
namespace Go.Proofs.Ytmlopbolekddnaa
set_option linter.unusedVariables false
open Go.RowKit

def okS (l : List Ms) (s : Int) : Bool := decide (0 < (corL (woL l s)).length)
def fuS (l : List Ms) (s : Int) : Bool := fullB (woL l s)
def rgtL (l : List Ms) (k : Nat) : List Int := ((srcL l).take k).filter (okS l)
theorem rgtL_succ {l : List Ms} {k : Nat} (h : k < (srcL l).length) : rgtL l (k + 1) = if okS l ((srcL l).getD k 0) = true then rgtL l k ++ [(srcL l).getD k 0] else rgtL l k := by
  have e : (srcL l).getD k 0 = (srcL l)[k] := by rw [List.getD_eq_getElem?_getD, List.getElem?_eq_getElem h]; rfl
  unfold rgtL
  rw [List.take_succ_eq_append_getElem h, List.filter_append, e]
  by_cases q : okS l (srcL l)[k] = true
  · rw [if_pos q]
    simp [q]
  · rw [if_neg q]
    simp [q]
theorem rgtL_len (l : List Ms) (k : Nat) : (rgtL l k).length ≤ l.length := by
  unfold rgtL
  have h1 := List.length_filter_le (okS l) ((srcL l).take k)
  rw [List.length_take] at h1
  have := src_len l
  omega
/-- what Fault says of a list of right sources -/
def verd (c : Nat) (r : List Int) : Int × Int := if 0 < c then (0, 0) else if r.length = 0 then (0, 11) else if 1 < r.length then (0, 8) else (r.getD 0 0, 0)
def fltF (l : List Ms) : Int × Int :=
  if chkL l = 0 then (if fullB l = true then (if (srcL l).all (fuS l) = true then verd (corL l).length ((srcL l).filter (okS l)) else (0, 14)) else (0, 14)) else (0, chkL l)
theorem wo_ed {l : List Ms} (he : ∀ m ∈ l, EdM m) (s : Int) : ∀ m ∈ woL l s, EdM m := fun m hm => he m (List.mem_filter.1 hm).1
theorem slc_of {B : Nat} {w : World} {v : Value} {l : List Int} (h : OI B w v l) : ∃ p cap, v = .slice p l.length cap := by
  rcases oi_cases h with ⟨rfl, rfl⟩ | ⟨g, cap, rfl, _⟩
  · exact ⟨none, 0, rfl⟩
  · exact ⟨_, _, rfl⟩
theorem slm_of {B : Nat} {w : World} {v : Value} {l : List Ms} (h : OM B w v l) : ∃ p cap, v = .slice p l.length cap := by
  rcases om_cases h with ⟨rfl, rfl⟩ | ⟨g, cap, rfl, _⟩
  · exact ⟨none, 0, rfl⟩
  · exact ⟨_, _, rfl⟩
def FlR (l : List Ms) (w W1 : World) (v u : Value) (wr : World) : Prop :=
  ∃ k : Nat, u = .int .i64 k ∧ k ≤ (srcL l).length ∧ Hid (Below W1.heap.size W1 wr) ∧ Hid (OI W1.heap.size wr v (rgtL l k)) ∧ Hid (∀ j, j < k → fuS l ((srcL l).getD j 0) = true)
def FlP (l : List Ms) (w : World) (e : Ending) (w' : World) : Prop := e = .returned (.tuple #[.int .i64 (fltF l).1, .int .i64 (fltF l).2]) ∧ Below w.heap.size w w'
set_option maxHeartbeats 8000000 in
theorem flt_any (l : List Ms) (v : Value) (w : World) (h : LstAt l v w) :
    Calls Try.prog 19 #[v] w (FlP l w) := by
  have CH := fun w hv => check_any l v w hv
  have H := Lib.hid h
  clear h
  by_cases hc : chkL l = 0
  · obtain ⟨he, hl⟩ := ed_of hc
    rw [hc] at CH
    have HCH := Lib.hid CH
    have FU := fun w hv => full_any l v w hv he hl
    have CO := Lib.hid fun w hv => corners_any l v w hv he hl
    have SR := Lib.hid fun w hv => src_any l v w hv hl
    have WO := Lib.hid fun s w hv => wo_any l s v w hv hl
    have E0 : fltF l = if fullB l = true then (if (srcL l).all (fuS l) = true then verd (corL l).length ((srcL l).filter (okS l)) else (0, 14)) else (0, 14) := by unfold fltF; rw [if_pos hc]
    have HE := Lib.hid he
    clear CH hc he
    cases hf : fullB l with
    | false =>
      rw [hf] at FU
      have HFU := Lib.hid FU
      have E := Lib.hid (show fltF l = (0, 14) by rw [E0, hf]; rfl)
      clear FU hf E0
      go_enter Try.func19, Try.ntmps19
      go_wp2_with fail
      refine (HCH.out _ H.out).mono ?_
      rintro e w1 ⟨rfl, hb1⟩
      have HB1 := Lib.hid hb1
      clear hb1
      go_wp2_with fail
      refine (HFU.out _ (H.out.below HB1.out)).mono ?_
      rintro e w2 ⟨rfl, hb2⟩
      have HB2 := Lib.hid (HB1.out.trans (hb2.mono HB1.out.size))
      clear hb2
      go_wp2
      go_ret2
      exact ⟨by rw [E.out]; rfl, HB2.out⟩
    | true =>
      rw [hf] at FU
      have HFU := Lib.hid FU
      have E := Lib.hid (show fltF l = if (srcL l).all (fuS l) = true then verd (corL l).length ((srcL l).filter (okS l)) else (0, 14) by rw [E0, hf]; rfl)
      clear FU hf E0
      go_enter Try.func19, Try.ntmps19
      go_wp2_with fail
      refine (HCH.out _ H.out).mono ?_
      rintro e w1 ⟨rfl, hb1⟩
      have HB1 := Lib.hid hb1
      clear hb1
      go_wp2_with fail
      refine (HFU.out _ (H.out.below HB1.out)).mono ?_
      rintro e w2 ⟨rfl, hb2⟩
      have HB2 := Lib.hid (HB1.out.trans (hb2.mono HB1.out.size))
      clear hb2
      go_wp2_with fail
      refine (SR.out _ (H.out.below HB2.out)).mono ?_
      rintro e w3 ⟨⟨u, rfl, hoi⟩, hb3⟩
      have HB3 := Lib.hid (HB2.out.trans (hb3.mono HB2.out.size))
      have HOI := Lib.hid hoi
      have HL := Lib.hid (H.out.below HB3.out)
      clear hb3
      obtain ⟨p, cap, rfl⟩ := slc_of hoi
      clear hoi
      go_wp2_with fail
      go_loopw [5, 22] (FlR l w w3) (fun _ i _ => (srcL l).length - (intOf i).toNat)
      case atStart => exact ⟨0, rfl, Nat.zero_le _, Lib.hid (Below.refl _ _), Lib.hid (by unfold rgtL; rw [List.take_zero, List.filter_nil]; exact World.ownsRow_nil _ _ _ _), Lib.hid fun j hj => absurd hj (by omega)⟩
      case round =>
        obtain ⟨k, rfl, hk, HB, HO, HF⟩ := hrel
        have HS := Lib.hid HB.out.size
        have HLr := Lib.hid (HL.out.below HB.out)
        have HBr := Lib.hid (HB3.out.trans (HB.out.mono HB3.out.size))
        by_cases q : k < (srcL l).length
        · have q' : decide (k < (srcL l).length) = true := by simpa using q
          have HPO : ∃ g, p = some ⟨g, 0, none⟩ ∧ (srcL l).length ≤ cap ∧ cap ≤ 9223372036854775807 ∧ IntsAt (srcL l) g wr := by
            rcases oi_cases HOI.out with ⟨e, hz⟩ | ⟨g, c, e, h1, h2, _, h3⟩
            · rw [hz] at q; exact absurd q (by simp)
            · cases e
              exact ⟨g, rfl, h1, h2, h3.below HB.out⟩
          obtain ⟨g, rfl, hcap, hcm, hia⟩ := HPO
          have c0 := hia.c k q
          have RS := Lib.hid (rgtL_succ q)
          have MEM : (srcL l).getD k 0 ∈ srcL l := by
            rw [List.getD_eq_getElem?_getD, List.getElem?_eq_getElem q]
            exact List.getElem_mem q
          have FALLS := fun h : fuS l ((srcL l).getD k 0) = false => show fltF l = (0, 14) by
            rw [E.out, if_neg]
            intro e
            have := List.all_eq_true.1 e _ MEM
            rw [h] at this
            cases this
          have HFA := Lib.hid FALLS
          have SZ := Lib.hid (show (rgtL l k).length ≤ 100000 by have := rgtL_len l k; omega)
          clear hia MEM FALLS
          generalize hsk : (srcL l).getD k 0 = s at *
          have HSK := Lib.hid hsk
          clear hsk
          have FUS := Lib.hid fun v w (h : LstAt (woL l s) v w) => full_any (woL l s) v w h (wo_ed HE.out s) (by have := woL_len l s; omega)
          have COS := Lib.hid fun v w (h : LstAt (woL l s) v w) => corners_any (woL l s) v w h (wo_ed HE.out s) (by have := woL_len l s; omega)
          have EFU := Lib.hid (show fuS l s = fullB (woL l s) from rfl)
          go_wp2_with fail
          refine (WO.out s _ HLr.out).mono ?_
          rintro e w4 ⟨⟨u4, rfl, hom⟩, hb4⟩
          have HL4 := Lib.hid hom.lst
          have HB4 := Lib.hid hb4
          clear hb4
          obtain ⟨p4, cap4, rfl⟩ := slm_of hom
          clear hom
          generalize hN4 : (woL l s).length = N4 at *
          clear hN4
          have FU4 := FUS.out _ _ HL4.out
          rw [← EFU.out] at FU4
          cases hfs : fuS l s with
          | false =>
            have EE := Lib.hid (HFA.out hfs)
            rw [hfs] at FU4
            have HFU4 := Lib.hid FU4
            clear FU4 hfs
            go_wp2_with fail
            refine HFU4.out.mono ?_
            rintro e w5 ⟨rfl, hb5⟩
            have HB5 := Lib.hid ((HBr.out.trans (HB4.out.mono HBr.out.size)).trans (hb5.mono (by have := HBr.out.size; have := HB4.out.size; omega)))
            clear hb5
            go_wp2
            go_ret2
            exact ⟨by rw [EE.out]; rfl, HB5.out⟩
          | true =>
            have HFk := Lib.hid (show ∀ j, j < k → fuS l ((srcL l).getD j 0) = true from HF.out)
            rw [hfs] at FU4
            have HFU4 := Lib.hid FU4
            have HFS := Lib.hid hfs
            clear FU4 hfs
            go_wp2_with fail
            refine HFU4.out.mono ?_
            rintro e w5 ⟨rfl, hb5⟩
            have HL5 := Lib.hid (HL4.out.below hb5)
            have HB5 := Lib.hid (HB4.out.trans (hb5.mono HB4.out.size))
            clear hb5
            go_wp2_with fail
            refine (COS.out _ _ HL5.out).mono ?_
            rintro e w6 ⟨⟨u6, rfl, hoc⟩, hb6⟩
            obtain ⟨p6, cap6, rfl⟩ := oc_len hoc
            have HB6 := Lib.hid (HB5.out.trans (hb6.mono HB5.out.size))
            clear hb6 hoc
            have HR6 := Lib.hid (show Below w3.heap.size w3 w6 from HB.out.trans (HB6.out.mono HS.out))
            have HO6 := Lib.hid (HO.out.below HB6.out)
            have OKE := Lib.hid (show okS l s = decide (0 < (corL (woL l s)).length) from rfl)
            generalize (corL (woL l s)).length = N6 at *
            have HF2 : Hid (∀ j, j < k + 1 → fuS l ((srcL l).getD j 0) = true) := Lib.hid fun j hj => by
              by_cases e : j = k
              · rw [e, HSK.out]; exact HFS.out
              · exact HFk.out j (by omega)
            by_cases hz : 0 < N6
            · have gz : decide (0 < (N6 : Int)) = true := by simp; omega
              have gz2 : decide (0 < N6) = true := by simpa using hz
              have RS2 := Lib.hid (RS.out.trans (if_pos (by rw [OKE.out]; exact decide_eq_true hz)))
              have HS6 := Lib.hid (show w3.heap.size ≤ w6.heap.size from HR6.out.size)
              clear hz
              go_wp2_with (at_builtin; refine Halt.mk ?_)
              unfold Halt
              refine wpList_oi rfl (.tmp 36) (.tmp 38) rfl w3.heap.size u5 (rgtL l k) rfl w6 HO6.out _ s 1 rfl SZ.out HS6.out ?_
              intro u2 w7 ho7 hg7 hat7
              have HO7 : Hid (OI w3.heap.size w7 u2 (rgtL l (k + 1))) := Lib.hid (by rw [RS2.out]; exact ho7)
              have HB7 : Hid (Below w3.heap.size w3 w7) := Lib.hid (below_grown (HR6.out.alloc HS6.out _) hg7 (by simp; have := HS6.out; omega) (fun k hk => (World.ownsRow.lt HO6.out k hk).1))
              clear hg7 hat7
              obtain ⟨g7, cap7, hu2⟩ := Go.Joins.ownsRow_form ho7 (show 0 < (rgtL l k ++ [s]).length by rw [List.length_append, List.length_singleton]; omega)
              obtain ⟨N7, hN7⟩ : ∃ N, (rgtL l k ++ [s]).length = N := ⟨_, rfl⟩
              rw [hN7] at hu2
              clear ho7 hN7
              subst hu2
              go_wp2
              go_roundw
              case rel => exact ⟨k + 1, by go_num, by omega, HB7, HO7, HF2⟩
              case measure => simp [intOf]; omega
            · have gz : decide (0 < (N6 : Int)) = false := by simp; omega
              have gz2 : decide (0 < N6) = false := by simpa using hz
              have RS2 := Lib.hid (RS.out.trans (if_neg (by rw [OKE.out]; simpa using hz)))
              clear hz
              go_wp2
              go_roundw
              case rel => exact ⟨k + 1, by go_num, by omega, HR6, Lib.hid (by rw [RS2.out]; exact HO6.out), HF2⟩
              case measure => simp [intOf]; omega
        · obtain rfl : k = (srcL l).length := by omega
          have q' : decide ((srcL l).length < (srcL l).length) = false := by simp
          have ER : rgtL l (srcL l).length = (srcL l).filter (okS l) := by unfold rgtL; rw [List.take_length]
          have HALL : (srcL l).all (fuS l) = true := List.all_eq_true.2 fun x hx => by
            obtain ⟨i, hi, rfl⟩ := List.getElem_of_mem hx
            have := HF.out i hi
            rw [List.getD_eq_getElem?_getD, List.getElem?_eq_getElem hi] at this
            exact this
          have EV := Lib.hid (show fltF l = verd (corL l).length (rgtL l (srcL l).length) by rw [E.out, if_pos HALL, ER])
          have COR := Lib.hid (CO.out _ HLr.out)
          clear ER HALL hk q
          generalize rgtL l (srcL l).length = r at *
          go_wp2_with fail
          refine COR.out.mono ?_
          rintro e w4 ⟨⟨u4, rfl, hoc⟩, hb4⟩
          have HB4 := Lib.hid (HBr.out.trans (hb4.mono HBr.out.size))
          have HO4 := Lib.hid (HO.out.below hb4)
          obtain ⟨p4, cap4, rfl⟩ := oc_len hoc
          clear hb4 hoc
          generalize (corL l).length = N4 at *
          by_cases hz : 0 < N4
          · have gz : decide (0 < (N4 : Int)) = true := by simp; omega
            have gz2 : decide (0 < N4) = true := by simpa using hz
            have EE := Lib.hid (show fltF l = (0, 0) by rw [EV.out]; unfold verd; rw [if_pos hz])
            clear hz
            go_wp2
            go_ret2
            exact ⟨by rw [EE.out]; rfl, HB4.out⟩
          · have gz : decide (0 < (N4 : Int)) = false := by simp; omega
            have gz2 : decide (0 < N4) = false := by simpa using hz
            have EV2 := Lib.hid (show fltF l = if r.length = 0 then (0, 11) else if 1 < r.length then (0, 8) else (r.getD 0 0, 0) by rw [EV.out]; unfold verd; rw [if_neg hz])
            clear hz
            obtain ⟨M, hM⟩ : ∃ M, r.length = M := ⟨_, rfl⟩
            rw [hM] at EV2
            by_cases h0 : M = 0
            · have EE := Lib.hid (EV2.out.trans (if_pos h0))
              have g0 : ((M : Int) == 0) = true := by rw [beq_iff_eq]; omega
              obtain ⟨p8, cap8, hu8⟩ := slc_of HO4.out
              rw [hM] at hu8
              subst hu8
              clear h0
              go_wp2
              go_ret2
              exact ⟨by rw [EE.out]; rfl, HB4.out⟩
            · have EV3 := Lib.hid (EV2.out.trans (if_neg h0))
              have g0 : ((M : Int) == 0) = false := by rw [beq_eq_false_iff_ne]; omega
              by_cases h1 : 1 < M
              · have EE := Lib.hid (EV3.out.trans (if_pos h1))
                have g1 : decide (1 < (M : Int)) = true := by simp; omega
                have g1' : decide (1 < M) = true := by simpa using h1
                obtain ⟨p8, cap8, hu8⟩ := slc_of HO4.out
                rw [hM] at hu8
                subst hu8
                clear h0 h1
                go_wp2
                go_ret2
                exact ⟨by rw [EE.out]; rfl, HB4.out⟩
              · have EE := Lib.hid (EV3.out.trans (if_neg h1))
                have g1 : decide (1 < (M : Int)) = false := by simp; omega
                have g1' : decide (1 < M) = false := by simpa using h1
                have hp : 0 < r.length := by omega
                rcases oi_cases HO4.out with ⟨_, hz⟩ | ⟨g8, cap8, hu8, c1, c2, _, hia⟩
                · rw [hz] at hp; exact absurd hp (by simp)
                · have c0 := hia.c 0 hp
                  rw [hM] at hu8 c1
                  subst hu8
                  obtain rfl : M = 1 := by omega
                  clear h0 h1 hia
                  generalize r.getD 0 0 = x8 at *
                  go_wp2
                  go_ret2
                  exact ⟨by rw [EE.out]; rfl, HB4.out⟩
  · have g : (chkL l != 0) = true := by simpa using hc
    have HCH := Lib.hid CH
    have E := Lib.hid (show fltF l = (0, chkL l) by unfold fltF; rw [if_neg hc])
    clear CH hc
    generalize chkL l = c at *
    go_enter Try.func19, Try.ntmps19
    go_wp2_with fail
    refine (HCH.out _ H.out).mono ?_
    rintro e w1 ⟨rfl, hb1⟩
    have HB1 := Lib.hid hb1
    clear hb1
    go_wp2
    go_ret2
    exact ⟨by rw [E.out]; rfl, HB1.out⟩
end Go.Proofs.Ytmlopbolekddnaa
