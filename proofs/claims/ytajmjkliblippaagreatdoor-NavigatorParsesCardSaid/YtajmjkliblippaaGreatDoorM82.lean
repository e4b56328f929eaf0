/-
  Walks and laws of the layers below, gathered from several texts.
-/
import Derived.Test.YtajmjkliblippaaGreatDoorM64
import Derived.Lib.SlicesCompact
import Derived.Lib.RowBridge
import Derived.Sort.OwnSortedInts
import Derived.Deep.RegionHeld3
import Derived.Lib.QuietBelow
import Derived.StillTail
import Derived.StillTailTactics
import Derived.Test.YtajmjkliblippaaGreatDoorM81
namespace Go.Proofs.YtajmjkliblippaaGreatDoor.S44
set_option linter.unusedVariables false
open Go.RowKit
set_option maxHeartbeats 4000000 in
theorem src_some (l : List Ms) (b o cap : Nat) (w : World) (h : MsAt l b o w) (hc : l.length ≤ cap) (hm : cap ≤ 9223372036854775807) (hl : l.length ≤ 17) :
    Calls Tryz.prog 94 #[.slice (some ⟨b, o, none⟩) l.length cap] w fun e w' => (∃ u, e = .returned u ∧ OI w.heap.size w' u (srcL l)) ∧ Below w.heap.size w w' := by
  have H := Lib.hid h
  have hlt := h.lt
  clear h
  go_enter Tryz.func94, Tryz.ntmps94
  go_wp2
  go_loopw [3, 8] (SrR l w) (fun _ i _ => l.length - (intOf i).toNat)
  case atStart => exact ⟨0, rfl, Nat.zero_le _, Lib.hid (Below.refl _ _), Lib.hid (World.ownsRow_nil _ _ _ _)⟩
  case round =>
    obtain ⟨k, rfl, hk, HB, HO⟩ := hrel
    by_cases q : k < l.length
    · have q' : decide (k < l.length) = true := by simpa using q
      have M := H.out.keep HB.out hlt
      have c0 := M.c0 k q
      have c1 := M.c1 k q
      have c2 := M.c2 k q
      have c3 := M.c3 k q
      have c4 := M.c4 k q
      have c5 := M.c5 k q
      have WS := Lib.hid (srcs_succ q)
      have SZ := Lib.hid (show ((l.take k).map Ms.s).length ≤ 100000 by rw [List.length_map, List.length_take]; omega)
      have HS := Lib.hid HB.out.size
      clear M
      generalize hp : nth l k = p at *
      clear hp
      have HA := Lib.hid ((Below.refl wr.heap.size wr).alloc (Nat.le_refl _) (.cells #[.int .i64 p.s, .int .i64 p.a, .int .i64 p.b, .int .i64 p.z, .int .i64 p.d, .int .i64 p.w] 71))
      go_wp2_with (at_builtin; refine Halt.mk ?_)
      unfold Halt
      refine wpList_oi rfl (.tmp 12) (.tmp 15) rfl w.heap.size u3 ((l.take k).map Ms.s) rfl (wr.alloc (.cells #[.int .i64 p.s, .int .i64 p.a, .int .i64 p.b, .int .i64 p.z, .int .i64 p.d, .int .i64 p.w] 71)) (HO.out.below HA.out) _ p.s 1 (by rw [World.size_alloc]; rfl) SZ.out (by have := HS.out; simp; omega) ?_
      intro u2 w5 ho5 hg5 hat5
      have HO5 : Hid (OI w.heap.size w5 u2 ((l.take (k + 1)).map Ms.s)) := Lib.hid (by rw [WS.out]; exact ho5)
      have HB5 : Hid (Below w.heap.size w w5) := Lib.hid (below_grown ((HB.out.trans (HA.out.mono HS.out)).alloc (by simp; have := HS.out; omega) _) hg5 (by simp; have := HS.out; omega) (fun k hk => (World.ownsRow.lt HO.out k hk).1))
      clear hg5 hat5 c0 c1 c2 c3 c4 c5
      obtain ⟨g5, cap5, hu2⟩ := Go.Joins.ownsRow_form ho5 (show 0 < ((l.take k).map Ms.s ++ [p.s]).length by rw [List.length_append, List.length_singleton]; omega)
      obtain ⟨N5, hN5⟩ : ∃ N, ((l.take k).map Ms.s ++ [p.s]).length = N := ⟨_, rfl⟩
      rw [hN5] at hu2
      clear ho5 hN5
      subst hu2
      go_wp2
      go_roundw
      case rel => exact ⟨k + 1, by go_num, by omega, HB5, HO5⟩
      case measure => simp [intOf]; omega
    · obtain rfl : k = l.length := by omega
      rw [List.take_length] at HO
      have HS := HB.out.size
      have L1 : (l.map Ms.s).length ≤ 100000 := by rw [List.length_map]; omega
      have L2 : (srtL l).length ≤ 100000 := by rw [srt_len]; omega
      have SO := Lib.hid (sort_own HO.out L1 HS)
      have CO := Lib.hid fun w1 (h : OI w.heap.size w1 u3 (srtL l)) (hs : w.heap.size ≤ w1.heap.size) => compact_own h L2 hs
      have FM : (∃ x y z, u3 = .slice x y z) := by
        rcases oi_cases HO.out with ⟨h, _⟩ | ⟨g, cap', h, _⟩
        · exact ⟨_, _, _, h⟩
        · exact ⟨_, _, _, h⟩
      obtain ⟨x3, y3, z3, rfl⟩ := FM
      clear HO
      go_wp2_with fail
      refine SO.out.mono ?_
      rintro e w1 ⟨rfl, ho1, hb1⟩
      have C1 := Lib.hid (CO.out w1 ho1 (Nat.le_trans HS hb1.size))
      have HB1 := Lib.hid (HB.out.trans hb1)
      clear ho1 hb1
      go_wp2_with fail
      refine C1.out.mono ?_
      rintro e w2 ⟨⟨u, rfl, ho2⟩, hb2⟩
      have HB2 := Lib.hid (HB1.out.trans hb2)
      have HO2 : Hid (OI w.heap.size w2 u (srcL l)) := Lib.hid ho2
      clear hb2
      have FM : (∃ x y z, u = .slice x y z) := by
        rcases oi_cases ho2 with ⟨h, _⟩ | ⟨g, cap', h, _⟩
        · exact ⟨_, _, _, h⟩
        · exact ⟨_, _, _, h⟩
      obtain ⟨x4, y4, z4, rfl⟩ := FM
      clear ho2
      go_wp2
      go_ret
      exact ⟨⟨_, rfl, HO2.out⟩, HB2.out⟩
theorem src_any (l : List Ms) (v : Value) (w : World) (h : LstAt l v w) (hl : l.length ≤ 17) :
    Calls Tryz.prog 94 #[v] w fun e w' => (∃ u, e = .returned u ∧ OI w.heap.size w' u (srcL l)) ∧ Below w.heap.size w w' := by
  rcases h with ⟨rfl, rfl⟩ | ⟨b, o, cap, rfl, h2, h3, h4⟩
  · exact src_nil w
  · exact src_some l b o cap w h4 h2 h3 hl
end Go.Proofs.YtajmjkliblippaaGreatDoor.S44
namespace Go.Proofs.YtajmjkliblippaaGreatDoor.S44
set_option linter.unusedVariables false
open Go.RowKit
def okS (l : List Ms) (s : Int) : Bool := decide (0 < (corL (woL l s)).length)
def fuS (l : List Ms) (s : Int) : Bool := fullB (woL l s)
def rgtL (l : List Ms) (k : Nat) : List Int := ((srcL l).take k).filter (okS l)
theorem rgtL_succ {l : List Ms} {k : Nat} (h : k < (srcL l).length) : rgtL l (k + 1) = if okS l ((srcL l).getD k 0) = true then rgtL l k ++ [(srcL l).getD k 0] else rgtL l k := by
  have e : (srcL l).getD k 0 = (srcL l)[k] := by rw [List.getD_eq_getElem?_getD, List.getElem?_eq_getElem h]; rfl
  unfold rgtL
  rw [List.take_succ_eq_append_getElem h, List.filter_append, e]
  by_cases q : okS l (srcL l)[k] = true
  · rw [if_pos q]
    simp [q]
  · rw [if_neg q]
    simp [q]
theorem rgtL_len (l : List Ms) (k : Nat) : (rgtL l k).length ≤ l.length := by
  unfold rgtL
  have h1 := List.length_filter_le (okS l) ((srcL l).take k)
  rw [List.length_take] at h1
  have := src_len l
  omega
/-- what Fault says of a list of right sources -/
def verd (c : Nat) (r : List Int) : Int × Int := if 0 < c then (0, 0) else if r.length = 0 then (0, 11) else if 1 < r.length then (0, 8) else (r.getD 0 0, 0)
def fltF (l : List Ms) : Int × Int :=
  if chkL l = 0 then (if fullB l = true then (if (srcL l).all (fuS l) = true then verd (corL l).length ((srcL l).filter (okS l)) else (0, 14)) else (0, 14)) else (0, chkL l)
theorem wo_ed {l : List Ms} (he : ∀ m ∈ l, EdM m) (s : Int) : ∀ m ∈ woL l s, EdM m := fun m hm => he m (List.mem_filter.1 hm).1
theorem slc_of {B : Nat} {w : World} {v : Value} {l : List Int} (h : OI B w v l) : ∃ p cap, v = .slice p l.length cap := by
  rcases oi_cases h with ⟨rfl, rfl⟩ | ⟨g, cap, rfl, _⟩
  · exact ⟨none, 0, rfl⟩
  · exact ⟨_, _, rfl⟩
theorem slm_of {B : Nat} {w : World} {v : Value} {l : List Ms} (h : OM B w v l) : ∃ p cap, v = .slice p l.length cap := by
  rcases om_cases h with ⟨rfl, rfl⟩ | ⟨g, cap, rfl, _⟩
  · exact ⟨none, 0, rfl⟩
  · exact ⟨_, _, rfl⟩
def FlR (l : List Ms) (w W1 : World) (v u : Value) (wr : World) : Prop :=
  ∃ k : Nat, u = .int .i64 k ∧ k ≤ (srcL l).length ∧ Hid (Below W1.heap.size W1 wr) ∧ Hid (OI W1.heap.size wr v (rgtL l k)) ∧ Hid (∀ j, j < k → fuS l ((srcL l).getD j 0) = true)
def FlP (l : List Ms) (w : World) (e : Ending) (w' : World) : Prop := e = .returned (.tuple #[.int .i64 (fltF l).1, .int .i64 (fltF l).2]) ∧ Below w.heap.size w w'
set_option maxHeartbeats 8000000 in
theorem flt_any (l : List Ms) (v : Value) (w : World) (h : LstAt l v w) :
    Calls Tryz.prog 60 #[v] w (FlP l w) := by
  have CH := fun w hv => check_any l v w hv
  have H := Lib.hid h
  clear h
  by_cases hc : chkL l = 0
  · obtain ⟨he, hl⟩ := ed_of hc
    rw [hc] at CH
    have HCH := Lib.hid CH
    have FU := fun w hv => full_any l v w hv he hl
    have CO := Lib.hid fun w hv => corners_any l v w hv he hl
    have SR := Lib.hid fun w hv => src_any l v w hv hl
    have WO := Lib.hid fun s w hv => wo_any l s v w hv hl
    have E0 : fltF l = if fullB l = true then (if (srcL l).all (fuS l) = true then verd (corL l).length ((srcL l).filter (okS l)) else (0, 14)) else (0, 14) := by unfold fltF; rw [if_pos hc]
    have HE := Lib.hid he
    clear CH hc he
    cases hf : fullB l with
    | false =>
      rw [hf] at FU
      have HFU := Lib.hid FU
      have E := Lib.hid (show fltF l = (0, 14) by rw [E0, hf]; rfl)
      clear FU hf E0
      go_enter Tryz.func60, Tryz.ntmps60
      go_wp2_with fail
      refine (HCH.out _ H.out).mono ?_
      rintro e w1 ⟨rfl, hb1⟩
      have HB1 := Lib.hid hb1
      clear hb1
      go_wp2_with fail
      refine (HFU.out _ (H.out.below HB1.out)).mono ?_
      rintro e w2 ⟨rfl, hb2⟩
      have HB2 := Lib.hid (HB1.out.trans (hb2.mono HB1.out.size))
      clear hb2
      go_wp2
      go_ret2
      exact ⟨by rw [E.out]; rfl, HB2.out⟩
    | true =>
      rw [hf] at FU
      have HFU := Lib.hid FU
      have E := Lib.hid (show fltF l = if (srcL l).all (fuS l) = true then verd (corL l).length ((srcL l).filter (okS l)) else (0, 14) by rw [E0, hf]; rfl)
      clear FU hf E0
      go_enter Tryz.func60, Tryz.ntmps60
      go_wp2_with fail
      refine (HCH.out _ H.out).mono ?_
      rintro e w1 ⟨rfl, hb1⟩
      have HB1 := Lib.hid hb1
      clear hb1
      go_wp2_with fail
      refine (HFU.out _ (H.out.below HB1.out)).mono ?_
      rintro e w2 ⟨rfl, hb2⟩
      have HB2 := Lib.hid (HB1.out.trans (hb2.mono HB1.out.size))
      clear hb2
      go_wp2_with fail
      refine (SR.out _ (H.out.below HB2.out)).mono ?_
      rintro e w3 ⟨⟨u, rfl, hoi⟩, hb3⟩
      have HB3 := Lib.hid (HB2.out.trans (hb3.mono HB2.out.size))
      have HOI := Lib.hid hoi
      have HL := Lib.hid (H.out.below HB3.out)
      clear hb3
      obtain ⟨p, cap, rfl⟩ := slc_of hoi
      clear hoi
      go_wp2_with fail
      go_loopw [5, 22] (FlR l w w3) (fun _ i _ => (srcL l).length - (intOf i).toNat)
      case atStart => exact ⟨0, rfl, Nat.zero_le _, Lib.hid (Below.refl _ _), Lib.hid (by unfold rgtL; rw [List.take_zero, List.filter_nil]; exact World.ownsRow_nil _ _ _ _), Lib.hid fun j hj => absurd hj (by omega)⟩
      case round =>
        obtain ⟨k, rfl, hk, HB, HO, HF⟩ := hrel
        have HS := Lib.hid HB.out.size
        have HLr := Lib.hid (HL.out.below HB.out)
        have HBr := Lib.hid (HB3.out.trans (HB.out.mono HB3.out.size))
        by_cases q : k < (srcL l).length
        · have q' : decide (k < (srcL l).length) = true := by simpa using q
          have HPO : ∃ g, p = some ⟨g, 0, none⟩ ∧ (srcL l).length ≤ cap ∧ cap ≤ 9223372036854775807 ∧ IntsAt (srcL l) g wr := by
            rcases oi_cases HOI.out with ⟨e, hz⟩ | ⟨g, c, e, h1, h2, _, h3⟩
            · rw [hz] at q; exact absurd q (by simp)
            · cases e
              exact ⟨g, rfl, h1, h2, h3.below HB.out⟩
          obtain ⟨g, rfl, hcap, hcm, hia⟩ := HPO
          have c0 := hia.c k q
          have RS := Lib.hid (rgtL_succ q)
          have MEM : (srcL l).getD k 0 ∈ srcL l := by
            rw [List.getD_eq_getElem?_getD, List.getElem?_eq_getElem q]
            exact List.getElem_mem q
          have FALLS := fun h : fuS l ((srcL l).getD k 0) = false => show fltF l = (0, 14) by
            rw [E.out, if_neg]
            intro e
            have := List.all_eq_true.1 e _ MEM
            rw [h] at this
            cases this
          have HFA := Lib.hid FALLS
          have SZ := Lib.hid (show (rgtL l k).length ≤ 100000 by have := rgtL_len l k; omega)
          clear hia MEM FALLS
          generalize hsk : (srcL l).getD k 0 = s at *
          have HSK := Lib.hid hsk
          clear hsk
          have FUS := Lib.hid fun v w (h : LstAt (woL l s) v w) => full_any (woL l s) v w h (wo_ed HE.out s) (by have := woL_len l s; omega)
          have COS := Lib.hid fun v w (h : LstAt (woL l s) v w) => corners_any (woL l s) v w h (wo_ed HE.out s) (by have := woL_len l s; omega)
          have EFU := Lib.hid (show fuS l s = fullB (woL l s) from rfl)
          go_wp2_with fail
          refine (WO.out s _ HLr.out).mono ?_
          rintro e w4 ⟨⟨u4, rfl, hom⟩, hb4⟩
          have HL4 := Lib.hid hom.lst
          have HB4 := Lib.hid hb4
          clear hb4
          obtain ⟨p4, cap4, rfl⟩ := slm_of hom
          clear hom
          generalize hN4 : (woL l s).length = N4 at *
          clear hN4
          have FU4 := FUS.out _ _ HL4.out
          rw [← EFU.out] at FU4
          cases hfs : fuS l s with
          | false =>
            have EE := Lib.hid (HFA.out hfs)
            rw [hfs] at FU4
            have HFU4 := Lib.hid FU4
            clear FU4 hfs
            go_wp2_with fail
            refine HFU4.out.mono ?_
            rintro e w5 ⟨rfl, hb5⟩
            have HB5 := Lib.hid ((HBr.out.trans (HB4.out.mono HBr.out.size)).trans (hb5.mono (by have := HBr.out.size; have := HB4.out.size; omega)))
            clear hb5
            go_wp2
            go_ret2
            exact ⟨by rw [EE.out]; rfl, HB5.out⟩
          | true =>
            have HFk := Lib.hid (show ∀ j, j < k → fuS l ((srcL l).getD j 0) = true from HF.out)
            rw [hfs] at FU4
            have HFU4 := Lib.hid FU4
            have HFS := Lib.hid hfs
            clear FU4 hfs
            go_wp2_with fail
            refine HFU4.out.mono ?_
            rintro e w5 ⟨rfl, hb5⟩
            have HL5 := Lib.hid (HL4.out.below hb5)
            have HB5 := Lib.hid (HB4.out.trans (hb5.mono HB4.out.size))
            clear hb5
            go_wp2_with fail
            refine (COS.out _ _ HL5.out).mono ?_
            rintro e w6 ⟨⟨u6, rfl, hoc⟩, hb6⟩
            obtain ⟨p6, cap6, rfl⟩ := oc_len hoc
            have HB6 := Lib.hid (HB5.out.trans (hb6.mono HB5.out.size))
            clear hb6 hoc
            have HR6 := Lib.hid (show Below w3.heap.size w3 w6 from HB.out.trans (HB6.out.mono HS.out))
            have HO6 := Lib.hid (HO.out.below HB6.out)
            have OKE := Lib.hid (show okS l s = decide (0 < (corL (woL l s)).length) from rfl)
            generalize (corL (woL l s)).length = N6 at *
            have HF2 : Hid (∀ j, j < k + 1 → fuS l ((srcL l).getD j 0) = true) := Lib.hid fun j hj => by
              by_cases e : j = k
              · rw [e, HSK.out]; exact HFS.out
              · exact HFk.out j (by omega)
            by_cases hz : 0 < N6
            · have gz : decide (0 < (N6 : Int)) = true := by simp; omega
              have gz2 : decide (0 < N6) = true := by simpa using hz
              have RS2 := Lib.hid (RS.out.trans (if_pos (by rw [OKE.out]; exact decide_eq_true hz)))
              have HS6 := Lib.hid (show w3.heap.size ≤ w6.heap.size from HR6.out.size)
              clear hz
              go_wp2_with (at_builtin; refine Halt.mk ?_)
              unfold Halt
              refine wpList_oi rfl (.tmp 36) (.tmp 38) rfl w3.heap.size u5 (rgtL l k) rfl w6 HO6.out _ s 1 rfl SZ.out HS6.out ?_
              intro u2 w7 ho7 hg7 hat7
              have HO7 : Hid (OI w3.heap.size w7 u2 (rgtL l (k + 1))) := Lib.hid (by rw [RS2.out]; exact ho7)
              have HB7 : Hid (Below w3.heap.size w3 w7) := Lib.hid (below_grown (HR6.out.alloc HS6.out _) hg7 (by simp; have := HS6.out; omega) (fun k hk => (World.ownsRow.lt HO6.out k hk).1))
              clear hg7 hat7
              obtain ⟨g7, cap7, hu2⟩ := Go.Joins.ownsRow_form ho7 (show 0 < (rgtL l k ++ [s]).length by rw [List.length_append, List.length_singleton]; omega)
              obtain ⟨N7, hN7⟩ : ∃ N, (rgtL l k ++ [s]).length = N := ⟨_, rfl⟩
              rw [hN7] at hu2
              clear ho7 hN7
              subst hu2
              go_wp2
              go_roundw
              case rel => exact ⟨k + 1, by go_num, by omega, HB7, HO7, HF2⟩
              case measure => simp [intOf]; omega
            · have gz : decide (0 < (N6 : Int)) = false := by simp; omega
              have gz2 : decide (0 < N6) = false := by simpa using hz
              have RS2 := Lib.hid (RS.out.trans (if_neg (by rw [OKE.out]; simpa using hz)))
              clear hz
              go_wp2
              go_roundw
              case rel => exact ⟨k + 1, by go_num, by omega, HR6, Lib.hid (by rw [RS2.out]; exact HO6.out), HF2⟩
              case measure => simp [intOf]; omega
        · obtain rfl : k = (srcL l).length := by omega
          have q' : decide ((srcL l).length < (srcL l).length) = false := by simp
          have ER : rgtL l (srcL l).length = (srcL l).filter (okS l) := by unfold rgtL; rw [List.take_length]
          have HALL : (srcL l).all (fuS l) = true := List.all_eq_true.2 fun x hx => by
            obtain ⟨i, hi, rfl⟩ := List.getElem_of_mem hx
            have := HF.out i hi
            rw [List.getD_eq_getElem?_getD, List.getElem?_eq_getElem hi] at this
            exact this
          have EV := Lib.hid (show fltF l = verd (corL l).length (rgtL l (srcL l).length) by rw [E.out, if_pos HALL, ER])
          have COR := Lib.hid (CO.out _ HLr.out)
          clear ER HALL hk q
          generalize rgtL l (srcL l).length = r at *
          go_wp2_with fail
          refine COR.out.mono ?_
          rintro e w4 ⟨⟨u4, rfl, hoc⟩, hb4⟩
          have HB4 := Lib.hid (HBr.out.trans (hb4.mono HBr.out.size))
          have HO4 := Lib.hid (HO.out.below hb4)
          obtain ⟨p4, cap4, rfl⟩ := oc_len hoc
          clear hb4 hoc
          generalize (corL l).length = N4 at *
          by_cases hz : 0 < N4
          · have gz : decide (0 < (N4 : Int)) = true := by simp; omega
            have gz2 : decide (0 < N4) = true := by simpa using hz
            have EE := Lib.hid (show fltF l = (0, 0) by rw [EV.out]; unfold verd; rw [if_pos hz])
            clear hz
            go_wp2
            go_ret2
            exact ⟨by rw [EE.out]; rfl, HB4.out⟩
          · have gz : decide (0 < (N4 : Int)) = false := by simp; omega
            have gz2 : decide (0 < N4) = false := by simpa using hz
            have EV2 := Lib.hid (show fltF l = if r.length = 0 then (0, 11) else if 1 < r.length then (0, 8) else (r.getD 0 0, 0) by rw [EV.out]; unfold verd; rw [if_neg hz])
            clear hz
            obtain ⟨M, hM⟩ : ∃ M, r.length = M := ⟨_, rfl⟩
            rw [hM] at EV2
            by_cases h0 : M = 0
            · have EE := Lib.hid (EV2.out.trans (if_pos h0))
              have g0 : ((M : Int) == 0) = true := by rw [beq_iff_eq]; omega
              obtain ⟨p8, cap8, hu8⟩ := slc_of HO4.out
              rw [hM] at hu8
              subst hu8
              clear h0
              go_wp2
              go_ret2
              exact ⟨by rw [EE.out]; rfl, HB4.out⟩
            · have EV3 := Lib.hid (EV2.out.trans (if_neg h0))
              have g0 : ((M : Int) == 0) = false := by rw [beq_eq_false_iff_ne]; omega
              by_cases h1 : 1 < M
              · have EE := Lib.hid (EV3.out.trans (if_pos h1))
                have g1 : decide (1 < (M : Int)) = true := by simp; omega
                have g1' : decide (1 < M) = true := by simpa using h1
                obtain ⟨p8, cap8, hu8⟩ := slc_of HO4.out
                rw [hM] at hu8
                subst hu8
                clear h0 h1
                go_wp2
                go_ret2
                exact ⟨by rw [EE.out]; rfl, HB4.out⟩
              · have EE := Lib.hid (EV3.out.trans (if_neg h1))
                have g1 : decide (1 < (M : Int)) = false := by simp; omega
                have g1' : decide (1 < M) = false := by simpa using h1
                have hp : 0 < r.length := by omega
                rcases oi_cases HO4.out with ⟨_, hz⟩ | ⟨g8, cap8, hu8, c1, c2, _, hia⟩
                · rw [hz] at hp; exact absurd hp (by simp)
                · have c0 := hia.c 0 hp
                  rw [hM] at hu8 c1
                  subst hu8
                  obtain rfl : M = 1 := by omega
                  clear h0 h1 hia
                  generalize r.getD 0 0 = x8 at *
                  go_wp2
                  go_ret2
                  exact ⟨by rw [EE.out]; rfl, HB4.out⟩
  · have g : (chkL l != 0) = true := by simpa using hc
    have HCH := Lib.hid CH
    have E := Lib.hid (show fltF l = (0, chkL l) by unfold fltF; rw [if_neg hc])
    clear CH hc
    generalize chkL l = c at *
    go_enter Tryz.func60, Tryz.ntmps60
    go_wp2_with fail
    refine (HCH.out _ H.out).mono ?_
    rintro e w1 ⟨rfl, hb1⟩
    have HB1 := Lib.hid hb1
    clear hb1
    go_wp2
    go_ret2
    exact ⟨by rw [E.out]; rfl, HB1.out⟩
end Go.Proofs.YtajmjkliblippaaGreatDoor.S44
namespace Go.Proofs.YtajmjkliblippaaGreatDoor.S44
set_option linter.unusedVariables false
open Go.RowKit
theorem MsAt.drop {l : List Ms} {b o : Nat} {w : World} (h : MsAt l b o w) (k : Nat) : MsAt (l.drop k) b (o + k * 6) w := by
  have e : ∀ i, i < (l.drop k).length → k + i < l.length ∧ nth (l.drop k) i = nth l (k + i) := fun i hi => by
    rw [List.length_drop] at hi
    refine ⟨by omega, ?_⟩
    unfold nth
    rw [List.getD_eq_getElem?_getD, List.getD_eq_getElem?_getD, List.getElem?_drop]
  have a : ∀ i, o + k * 6 + i * 6 = o + (k + i) * 6 := fun i => by omega
  refine ⟨h.lt, fun i hi => ?_, fun i hi => ?_, fun i hi => ?_, fun i hi => ?_, fun i hi => ?_, fun i hi => ?_⟩ <;> rw [(e i hi).2, a]
  · exact h.c0 _ (e i hi).1
  · exact h.c1 _ (e i hi).1
  · exact h.c2 _ (e i hi).1
  · exact h.c3 _ (e i hi).1
  · exact h.c4 _ (e i hi).1
  · exact h.c5 _ (e i hi).1
end Go.Proofs.YtajmjkliblippaaGreatDoor.S44
namespace Go.Proofs.YtajmjkliblippaaGreatDoor.S44
set_option linter.unusedVariables false
open Go.RowKit
structure PtAt (x y : Int) (bp : Nat) (w : World) : Prop where
  lt : bp < w.heap.size
  c0 : w.cell? ⟨bp, 0, none⟩ = some (.int .i64 x)
  c1 : w.cell? ⟨bp, 1, none⟩ = some (.int .i64 y)
theorem PtAt.below {x y : Int} {bp : Nat} {w w' : World} (h : PtAt x y bp w) (hb : Below w.heap.size w w') : PtAt x y bp w' :=
  ⟨Nat.lt_of_lt_of_le h.lt hb.size, (hb.cell (p := ⟨bp, 0, none⟩) h.lt).trans h.c0, (hb.cell (p := ⟨bp, 1, none⟩) h.lt).trans h.c1⟩
end Go.Proofs.YtajmjkliblippaaGreatDoor.S44
namespace Go.Proofs.YtajmjkliblippaaGreatDoor
set_option linter.unusedVariables false
/-- what a report of the tick gives -/
def rowT (tk cx cy x y : Int) (r : Rp) : List Ms := if r.t = tk then (rowsN r cx cy x y).1 else []
def rowsT (tk cx cy x y : Int) (L : List Rp) : List Ms := L.flatMap (rowT tk cx cy x y)
theorem rowsT_len (tk cx cy x y : Int) : ∀ L : List Rp, (rowsT tk cx cy x y L).length ≤ 2 * L.length
  | [] => by simp [rowsT]
  | r :: L => by
    have ih := rowsT_len tk cx cy x y L
    unfold rowsT at *
    rw [List.flatMap_cons, List.length_append, List.length_cons]
    have : (rowT tk cx cy x y r).length ≤ 2 := by
      unfold rowT
      split
      · exact rowsN_len r cx cy x y
      · simp
    omega
theorem rowsT_succ (tk cx cy x y : Int) {L : List Rp} {k : Nat} (h : k < L.length) : rowsT tk cx cy x y (L.take (k + 1)) = rowsT tk cx cy x y (L.take k) ++ rowT tk cx cy x y (nthR L k) := by
  have e : L.take (k + 1) = L.take k ++ [nthR L k] := by
    rw [List.take_succ_eq_append_getElem h]
    congr 1
    unfold nthR
    rw [List.getD_eq_getElem?_getD, List.getElem?_eq_getElem h]
    rfl
  unfold rowsT
  rw [e, List.flatMap_append]
  simp
theorem rowT_other {tk cx cy x y : Int} {r : Rp} (h : r.t ≠ tk) : rowT tk cx cy x y r = [] := if_neg h
theorem rowT_bad {tk cx cy x y : Int} {r : Rp} (h : (rowsN r cx cy x y).2 ≠ 0) : rowT tk cx cy x y r = [] := by
  unfold rowT
  split
  · exact rowsN_bad h
  · rfl
theorem rowT_good {tk cx cy x y : Int} {r : Rp} (h : r.t = tk) : rowT tk cx cy x y r = (rowsN r cx cy x y).1 := if_pos h
/-- what two ranges have in common -/
def ovL (a x b y : Int) : Int := max (a - x) (b - y)
def ovH (a x b y : Int) : Int := min (a + x) (b + y)
def ovM (a x b y : Int) : Int := (ovL a x b y + ovH a x b y) / 2
def mrgB (a b : Bx4) : Bx4 := ⟨ovM a.cx a.x b.cx b.x, ovM a.cy a.y b.cy b.y, ovH a.cx a.x b.cx b.x - ovM a.cx a.x b.cx b.x, ovH a.cy a.y b.cy b.y - ovM a.cy a.y b.cy b.y⟩
def mrgF (a b : Bx4) : Bx4 × Int :=
  if bxV a = true then (if bxV b = true then (if ovL a.cx a.x b.cx b.x ≤ ovH a.cx a.x b.cx b.x ∧ ovL a.cy a.y b.cy b.y ≤ ovH a.cy a.y b.cy b.y then (mrgB a b, 0) else (bx0, 11)) else (bx0, 1)) else (bx0, 1)
def toB (b : BoxI) : Bx4 := ⟨b.cx, b.cy, b.x, b.y⟩
/-- the levels without the excluded source -/
def fixL (l : List Ms) : BoxI × Int := levF (woL l (S44.fltF l).1)
/-- the fix: its box, the excluded source, and whether there is one -/
def fixF (l : List Ms) (a : Bx4) : (Bx4 × Int) × Bool :=
  if (S44.fltF l).2 = 0 then (if (fixL l).2 = 0 then (((mrgF a (toB (fixL l).1)).1, (S44.fltF l).1), decide ((mrgF a (toB (fixL l).1)).2 = 0)) else ((bx0, 0), false)) else ((bx0, 0), false)
/-- a state after a cycle: its box, the missed cycles, the excluded source -/
structure Cyc where
  box : Bx4
  ms : Int
  ex : Int
def cycF (c : Bx4) (m : Int) (l : List Ms) : Cyc := if (fixF l c).2 = true then ⟨(fixF l c).1.1, 0, (fixF l c).1.2⟩ else ⟨c, min (m + 1) 1000, 0⟩
def stpC (b : Bx4) (t m tick ve vn dr : Int) (L : List Rp) : Cyc :=
  cycF (movB b ve vn dr (tick - t)) m (rowsT tick (movB b ve vn dr (tick - t)).cx (movB b ve vn dr (tick - t)).cy (movB b ve vn dr (tick - t)).x (movB b ve vn dr (tick - t)).y L)
/-- the error of a step -/
def stpE2 (b : Bx4) (t m tick ve vn dr rq : Int) (n : Nat) : Int :=
  if chkS b t m ≠ 0 then chkS b t m else if tick ≤ t then 16 else if 1099511627776 < tick ∨ rq < 0 ∨ 2000000 < rq then 2 else if 8 < n then 3 else (cstF b ve vn dr (tick - t)).2
theorem stp_ok2 {b : Bx4} {t m tick ve vn dr rq : Int} {n : Nat} (h : stpE2 b t m tick ve vn dr rq n = 0) : chkS b t m = 0 ∧ t < tick ∧ (tick ≤ 1099511627776 ∧ 0 ≤ rq ∧ rq ≤ 2000000) ∧ n ≤ 8 ∧ (cstF b ve vn dr (tick - t)).2 = 0 := by
  unfold stpE2 at h
  split at h
  · rename_i h1; exact absurd h h1
  · rename_i h1
    split at h
    · cases h
    · rename_i h2
      split at h
      · cases h
      · rename_i h3
        split at h
        · cases h
        · rename_i h4
          exact ⟨Decidable.not_not.1 h1, by omega, by omega, by omega, h⟩
theorem flt_chk2 {l : List Ms} (h : (S44.fltF l).2 = 0) : chkL l = 0 := by
  by_cases hc : chkL l = 0
  · exact hc
  · unfold S44.fltF at h
    rw [if_neg hc] at h
    exact absurd h hc
end Go.Proofs.YtajmjkliblippaaGreatDoor
namespace Go.Proofs.YtajmjkliblippaaGreatDoor
set_option linter.unusedVariables false
open Go.RowKit
set_option maxHeartbeats 8000000 in
set_option maxRecDepth 100000 in
theorem ovl_any (a x b y : Int) (w : World) (ha : -2000000 ≤ a ∧ a ≤ 2000000) (hx : 0 ≤ x ∧ x ≤ 2000000) (hb : -2000000 ≤ b ∧ b ≤ 2000000) (hy : 0 ≤ y ∧ y ≤ 2000000) :
    Calls Tryz.prog 99 #[.int .i64 a, .int .i64 x, .int .i64 b, .int .i64 y] w fun e w' => e = .returned (.tuple #[.int .i64 (ovM a x b y), .int .i64 (ovH a x b y - ovM a x b y), .bool (decide (ovL a x b y ≤ ovH a x b y))]) ∧ Below w.heap.size w w' := by
  obtain ⟨a0, a1⟩ := ha
  obtain ⟨x0, x1⟩ := hx
  obtain ⟨b0, b1⟩ := hb
  obtain ⟨y0, y1⟩ := hy
  have EL := Lib.hid (show ovL a x b y = max (a - x) (b - y) from rfl)
  have EH := Lib.hid (show ovH a x b y = min (a + x) (b + y) from rfl)
  have EM := Lib.hid (show ovM a x b y = (max (a - x) (b - y) + min (a + x) (b + y)) / 2 from rfl)
  go_enter Tryz.func99, Tryz.ntmps99
  go_wp2
  go_ret3
  rw [EL.out, EH.out, EM.out]
  exact ⟨rfl, Below.refl _ _⟩
set_option maxHeartbeats 40000000 in
set_option maxRecDepth 100000 in
theorem merge_any (a b : Bx4) (w : World) : Calls Tryz.prog 63 #[.agg #[.int .i64 a.cx, .int .i64 a.cy, .int .i64 a.x, .int .i64 a.y], .agg #[.int .i64 b.cx, .int .i64 b.cy, .int .i64 b.x, .int .i64 b.y]] w fun e w' => e = .returned (.tuple #[.agg #[.int .i64 (mrgF a b).1.cx, .int .i64 (mrgF a b).1.cy, .int .i64 (mrgF a b).1.x, .int .i64 (mrgF a b).1.y], .int .i64 (mrgF a b).2]) ∧ Below w.heap.size w w' := by
  have VA0 := fun w => ival_any a w
  have VB0 := fun w => ival_any b w
  have EV0 : mrgF a b = if bxV a = true then (if bxV b = true then (if ovL a.cx a.x b.cx b.x ≤ ovH a.cx a.x b.cx b.x ∧ ovL a.cy a.y b.cy b.y ≤ ovH a.cy a.y b.cy b.y then (mrgB a b, 0) else (bx0, 11)) else (bx0, 1)) else (bx0, 1) := rfl
  cases hv : bxV a with
  | false =>
    rw [hv] at VA0
    have VA := Lib.hid VA0
    have EV := Lib.hid (EV0.trans (if_neg (by rw [hv]; decide)))
    clear EV0 VA0 hv VB0
    generalize mrgF a b = q at *
    obtain ⟨ax, ay, a1, a2⟩ := a
    obtain ⟨bx, by', b1, b2⟩ := b
    simp only at VA
    obtain ⟨KA, KB, KZ, HB⟩ := ent3 w #[.int .i64 ax, .int .i64 ay, .int .i64 a1, .int .i64 a2] 25 #[.int .i64 bx, .int .i64 (by'), .int .i64 b1, .int .i64 b2] 25 #[.int .i64 0, .int .i64 0, .int .i64 0, .int .i64 0] 25
    go_enter Tryz.func63, Tryz.ntmps63
    go_wp2_with fail
    generalize ((w.alloc (.cells #[.int .i64 ax, .int .i64 ay, .int .i64 a1, .int .i64 a2] 25)).alloc (.cells #[.int .i64 bx, .int .i64 (by'), .int .i64 b1, .int .i64 b2] 25)).alloc (.cells #[.int .i64 0, .int .i64 0, .int .i64 0, .int .i64 0] 25) = w0 at *
    refine (VA.out _).mono ?_
    rintro e1 w1 ⟨rfl, hb1⟩
    replace HB := hT HB hb1
    replace KA := hK KA hb1
    replace KB := hK KB hb1
    replace KZ := hK KZ hb1
    clear hb1
    obtain ⟨yZ_0, yZ_1, yZ_2, yZ_3, yZ_z, yZ_f0, yZ_f1, yZ_f2, yZ_f3⟩ := blf4 KZ
    go_wp2
    have hs := st4 w1 (w.heap.size + 1 + 1) 0 (.int .i64 0) 1 (.int .i64 0) 2 (.int .i64 0) 3 (.int .i64 0)
    replace KA := oB hs KA (by omega)
    replace KB := oB hs KB (by omega)
    replace KZ := Lib.hid (blk_set (blk_set (blk_set (blk_set KZ.out (j := 0) (by simp) (.int .i64 0)) (j := 1) (by simp) (.int .i64 0)) (j := 2) (by simp) (.int .i64 0)) (j := 3) (by simp) (.int .i64 0))
    replace HB := oH hs HB (by omega)
    clear hs
    clear yZ_0 yZ_1 yZ_2 yZ_3 yZ_z yZ_f0 yZ_f1 yZ_f2 yZ_f3
    generalize (((w1.setCell ⟨(w.heap.size + 1 + 1), 0, none⟩ (.int .i64 0)).setCell ⟨(w.heap.size + 1 + 1), 1, none⟩ (.int .i64 0)).setCell ⟨(w.heap.size + 1 + 1), 2, none⟩ (.int .i64 0)).setCell ⟨(w.heap.size + 1 + 1), 3, none⟩ (.int .i64 0) = w2 at *
    simp only [List.set] at KZ
    obtain ⟨yZ_0, yZ_1, yZ_2, yZ_3, yZ_z⟩ := blk4 KZ
    refine bodyPost_ret (v := .tuple #[.agg #[.int .i64 0, .int .i64 0, .int .i64 0, .int .i64 0], .int .i64 1]) (by simp [results, Tryz.results63, go_sem, yZ_0, yZ_1, yZ_2, yZ_3]) rfl ⟨by rw [EV.out]; rfl, HB.out⟩
  | true =>
    rw [hv, if_pos rfl] at EV0
    rw [hv] at VA0
    have VA := Lib.hid VA0
    clear VA0
    cases hb : bxV b with
    | false =>
      rw [hb] at VB0
      have VB := Lib.hid VB0
      have EV := Lib.hid (EV0.trans (if_neg (by rw [hb]; decide)))
      clear EV0 VB0 hv hb
      generalize mrgF a b = q at *
      obtain ⟨ax, ay, a1, a2⟩ := a
      obtain ⟨bx, by', b1, b2⟩ := b
      simp only at VA VB
      obtain ⟨KA, KB, KZ, HB⟩ := ent3 w #[.int .i64 ax, .int .i64 ay, .int .i64 a1, .int .i64 a2] 25 #[.int .i64 bx, .int .i64 (by'), .int .i64 b1, .int .i64 b2] 25 #[.int .i64 0, .int .i64 0, .int .i64 0, .int .i64 0] 25
      go_enter Tryz.func63, Tryz.ntmps63
      go_wp2_with fail
      generalize ((w.alloc (.cells #[.int .i64 ax, .int .i64 ay, .int .i64 a1, .int .i64 a2] 25)).alloc (.cells #[.int .i64 bx, .int .i64 (by'), .int .i64 b1, .int .i64 b2] 25)).alloc (.cells #[.int .i64 0, .int .i64 0, .int .i64 0, .int .i64 0] 25) = w0 at *
      refine (VA.out _).mono ?_
      rintro e1 w1 ⟨rfl, hb1⟩
      replace HB := hT HB hb1
      replace KA := hK KA hb1
      replace KB := hK KB hb1
      replace KZ := hK KZ hb1
      clear hb1
      obtain ⟨yB_0, yB_1, yB_2, yB_3, yB_z⟩ := blk4 KB
      go_wp2_with fail
      refine (VB.out _).mono ?_
      rintro e2 w2 ⟨rfl, hb2⟩
      replace HB := hT HB hb2
      replace KA := hK KA hb2
      replace KB := hK KB hb2
      replace KZ := hK KZ hb2
      clear yB_0 yB_1 yB_2 yB_3 yB_z
      clear hb2
      obtain ⟨yZ_0, yZ_1, yZ_2, yZ_3, yZ_z, yZ_f0, yZ_f1, yZ_f2, yZ_f3⟩ := blf4 KZ
      go_wp2
      have hs := st4 w2 (w.heap.size + 1 + 1) 0 (.int .i64 0) 1 (.int .i64 0) 2 (.int .i64 0) 3 (.int .i64 0)
      replace KA := oB hs KA (by omega)
      replace KB := oB hs KB (by omega)
      replace KZ := Lib.hid (blk_set (blk_set (blk_set (blk_set KZ.out (j := 0) (by simp) (.int .i64 0)) (j := 1) (by simp) (.int .i64 0)) (j := 2) (by simp) (.int .i64 0)) (j := 3) (by simp) (.int .i64 0))
      replace HB := oH hs HB (by omega)
      clear hs
      clear yZ_0 yZ_1 yZ_2 yZ_3 yZ_z yZ_f0 yZ_f1 yZ_f2 yZ_f3
      generalize (((w2.setCell ⟨(w.heap.size + 1 + 1), 0, none⟩ (.int .i64 0)).setCell ⟨(w.heap.size + 1 + 1), 1, none⟩ (.int .i64 0)).setCell ⟨(w.heap.size + 1 + 1), 2, none⟩ (.int .i64 0)).setCell ⟨(w.heap.size + 1 + 1), 3, none⟩ (.int .i64 0) = w3 at *
      simp only [List.set] at KZ
      obtain ⟨yZ_0, yZ_1, yZ_2, yZ_3, yZ_z⟩ := blk4 KZ
      refine bodyPost_ret (v := .tuple #[.agg #[.int .i64 0, .int .i64 0, .int .i64 0, .int .i64 0], .int .i64 1]) (by simp [results, Tryz.results63, go_sem, yZ_0, yZ_1, yZ_2, yZ_3]) rfl ⟨by rw [EV.out]; rfl, HB.out⟩
    | true =>
      rw [hb, if_pos rfl] at EV0
      rw [hb] at VB0
      have VB := Lib.hid VB0
      clear VB0
      have v1 := bxV_iff.1 hv
      have v2 := bxV_iff.1 hb
      have OX0 := fun w => ovl_any a.cx a.x b.cx b.x w (by omega) (by omega) (by omega) (by omega)
      have OY0 := fun w => ovl_any a.cy a.y b.cy b.y w (by omega) (by omega) (by omega) (by omega)
      clear hv hb v1 v2
      unfold mrgB at EV0
      obtain ⟨ox, hox⟩ : ∃ z, decide (ovL a.cx a.x b.cx b.x ≤ ovH a.cx a.x b.cx b.x) = z := ⟨_, rfl⟩
      obtain ⟨oy, hoy⟩ : ∃ z, decide (ovL a.cy a.y b.cy b.y ≤ ovH a.cy a.y b.cy b.y) = z := ⟨_, rfl⟩
      rw [hox] at OX0
      rw [hoy] at OY0
      have EX : ox = true → oy = true → mrgF a b = (⟨ovM a.cx a.x b.cx b.x, ovM a.cy a.y b.cy b.y, ovH a.cx a.x b.cx b.x - ovM a.cx a.x b.cx b.x, ovH a.cy a.y b.cy b.y - ovM a.cy a.y b.cy b.y⟩, 0) := fun h1 h2 => EV0.trans (if_pos ⟨of_decide_eq_true (hox.trans h1), of_decide_eq_true (hoy.trans h2)⟩)
      have EN : ox = false ∨ oy = false → mrgF a b = (bx0, 11) := fun h => EV0.trans (if_neg fun ⟨h1, h2⟩ => by
        rw [decide_eq_true h1] at hox
        rw [decide_eq_true h2] at hoy
        subst hox hoy
        simp at h)
      clear hox hoy EV0
      generalize ovH a.cx a.x b.cx b.x - ovM a.cx a.x b.cx b.x = wx at *
      generalize ovH a.cy a.y b.cy b.y - ovM a.cy a.y b.cy b.y = wy at *
      generalize ovM a.cx a.x b.cx b.x = mx at *
      generalize ovM a.cy a.y b.cy b.y = my at *
      generalize mrgF a b = q at *
      obtain ⟨ax, ay, a1, a2⟩ := a
      obtain ⟨bx, by', b1, b2⟩ := b
      simp only at VA VB OX0 OY0
      have OX := Lib.hid OX0
      have OY := Lib.hid OY0
      clear OX0 OY0
      cases ox with
      | false =>
        have EV := Lib.hid (EN (.inl rfl))
        clear EN EX
        cases oy with
        | false =>
          obtain ⟨KA, KB, KZ, HB⟩ := ent3 w #[.int .i64 ax, .int .i64 ay, .int .i64 a1, .int .i64 a2] 25 #[.int .i64 bx, .int .i64 (by'), .int .i64 b1, .int .i64 b2] 25 #[.int .i64 0, .int .i64 0, .int .i64 0, .int .i64 0] 25
          go_enter Tryz.func63, Tryz.ntmps63
          go_wp2_with fail
          generalize ((w.alloc (.cells #[.int .i64 ax, .int .i64 ay, .int .i64 a1, .int .i64 a2] 25)).alloc (.cells #[.int .i64 bx, .int .i64 (by'), .int .i64 b1, .int .i64 b2] 25)).alloc (.cells #[.int .i64 0, .int .i64 0, .int .i64 0, .int .i64 0] 25) = w0 at *
          refine (VA.out _).mono ?_
          rintro e1 w1 ⟨rfl, hb1⟩
          replace HB := hT HB hb1
          replace KA := hK KA hb1
          replace KB := hK KB hb1
          replace KZ := hK KZ hb1
          clear hb1
          obtain ⟨yB_0, yB_1, yB_2, yB_3, yB_z⟩ := blk4 KB
          go_wp2_with fail
          refine (VB.out _).mono ?_
          rintro e2 w2 ⟨rfl, hb2⟩
          replace HB := hT HB hb2
          replace KA := hK KA hb2
          replace KB := hK KB hb2
          replace KZ := hK KZ hb2
          clear yB_0 yB_1 yB_2 yB_3 yB_z
          clear hb2
          go_upto_region 5 with (fail)
          obtain ⟨KC, hb3⟩ := alB w2 #[.int .i64 0, .int .i64 0, .int .i64 0, .int .i64 0] 25
          have hnC := HB.out.size
          have nzC_A := KA.out.lt
          have nzC_B := KB.out.lt
          have nzC_Z := KZ.out.lt
          replace HB := hT HB hb3
          replace KA := hK KA hb3
          replace KB := hK KB hb3
          replace KZ := hK KZ hb3
          clear hb3
          generalize w2.alloc (.cells #[.int .i64 0, .int .i64 0, .int .i64 0, .int .i64 0] 25) = w3 at *
          generalize w2.heap.size = bC at *
          have neC_A : bC ≠ w.heap.size := by omega
          have neC_B : bC ≠ (w.heap.size + 1) := by omega
          have neC_Z : bC ≠ (w.heap.size + 1 + 1) := by omega
          clear nzC_A nzC_B nzC_Z
          obtain ⟨yA_0, yA_1, yA_2, yA_3, yA_z⟩ := blk4 KA
          obtain ⟨yB_0, yB_1, yB_2, yB_3, yB_z⟩ := blk4 KB
          go_wp2_with fail
          refine (OX.out _).mono ?_
          rintro e4 w4 ⟨rfl, hb4⟩
          replace HB := hT HB hb4
          replace KA := hK KA hb4
          replace KB := hK KB hb4
          replace KZ := hK KZ hb4
          replace KC := hK KC hb4
          clear yA_0 yA_1 yA_2 yA_3 yA_z yB_0 yB_1 yB_2 yB_3 yB_z
          clear hb4
          obtain ⟨yC_0, yC_1, yC_2, yC_3, yC_z, yC_f0, yC_f1, yC_f2, yC_f3⟩ := blf4 KC
          go_upto_region 6 with (fail)
          have hs := st2 w4 bC 0 (.int .i64 mx) 2 (.int .i64 wx)
          replace KA := oB hs KA (by omega)
          replace KB := oB hs KB (by omega)
          replace KZ := oB hs KZ (by omega)
          replace KC := Lib.hid (blk_set (blk_set KC.out (j := 0) (by simp) (.int .i64 mx)) (j := 2) (by simp) (.int .i64 wx))
          replace HB := oH hs HB (by omega)
          clear hs
          clear yC_0 yC_1 yC_2 yC_3 yC_z yC_f0 yC_f1 yC_f2 yC_f3
          generalize (w4.setCell ⟨bC, 0, none⟩ (.int .i64 mx)).setCell ⟨bC, 2, none⟩ (.int .i64 wx) = w5 at *
          simp only [List.set] at KC
          obtain ⟨yA_0, yA_1, yA_2, yA_3, yA_z⟩ := blk4 KA
          obtain ⟨yB_0, yB_1, yB_2, yB_3, yB_z⟩ := blk4 KB
          go_wp2_with fail
          refine (OY.out _).mono ?_
          rintro e6 w6 ⟨rfl, hb6⟩
          replace HB := hT HB hb6
          replace KA := hK KA hb6
          replace KB := hK KB hb6
          replace KZ := hK KZ hb6
          replace KC := hK KC hb6
          clear yA_0 yA_1 yA_2 yA_3 yA_z yB_0 yB_1 yB_2 yB_3 yB_z
          clear hb6
          obtain ⟨yC_0, yC_1, yC_2, yC_3, yC_z, yC_f0, yC_f1, yC_f2, yC_f3⟩ := blf4 KC
          go_upto_region 7 with (fail)
          have hs := st2 w6 bC 1 (.int .i64 my) 3 (.int .i64 wy)
          replace KA := oB hs KA (by omega)
          replace KB := oB hs KB (by omega)
          replace KZ := oB hs KZ (by omega)
          replace KC := Lib.hid (blk_set (blk_set KC.out (j := 1) (by simp) (.int .i64 my)) (j := 3) (by simp) (.int .i64 wy))
          replace HB := oH hs HB (by omega)
          clear hs
          clear yC_0 yC_1 yC_2 yC_3 yC_z yC_f0 yC_f1 yC_f2 yC_f3
          generalize (w6.setCell ⟨bC, 1, none⟩ (.int .i64 my)).setCell ⟨bC, 3, none⟩ (.int .i64 wy) = w7 at *
          simp only [List.set] at KC
          obtain ⟨yZ_0, yZ_1, yZ_2, yZ_3, yZ_z, yZ_f0, yZ_f1, yZ_f2, yZ_f3⟩ := blf4 KZ
          go_wp2
          have hs := st4 w7 (w.heap.size + 1 + 1) 0 (.int .i64 0) 1 (.int .i64 0) 2 (.int .i64 0) 3 (.int .i64 0)
          replace KA := oB hs KA (by omega)
          replace KB := oB hs KB (by omega)
          replace KZ := Lib.hid (blk_set (blk_set (blk_set (blk_set KZ.out (j := 0) (by simp) (.int .i64 0)) (j := 1) (by simp) (.int .i64 0)) (j := 2) (by simp) (.int .i64 0)) (j := 3) (by simp) (.int .i64 0))
          replace KC := oB hs KC (by omega)
          replace HB := oH hs HB (by omega)
          clear hs
          clear yZ_0 yZ_1 yZ_2 yZ_3 yZ_z yZ_f0 yZ_f1 yZ_f2 yZ_f3
          generalize (((w7.setCell ⟨(w.heap.size + 1 + 1), 0, none⟩ (.int .i64 0)).setCell ⟨(w.heap.size + 1 + 1), 1, none⟩ (.int .i64 0)).setCell ⟨(w.heap.size + 1 + 1), 2, none⟩ (.int .i64 0)).setCell ⟨(w.heap.size + 1 + 1), 3, none⟩ (.int .i64 0) = w8 at *
          simp only [List.set] at KZ
          obtain ⟨yZ_0, yZ_1, yZ_2, yZ_3, yZ_z⟩ := blk4 KZ
          refine bodyPost_ret (v := .tuple #[.agg #[.int .i64 0, .int .i64 0, .int .i64 0, .int .i64 0], .int .i64 11]) (by simp [results, Tryz.results63, go_sem, yZ_0, yZ_1, yZ_2, yZ_3]) rfl ⟨by rw [EV.out]; rfl, HB.out⟩
        | true =>
          obtain ⟨KA, KB, KZ, HB⟩ := ent3 w #[.int .i64 ax, .int .i64 ay, .int .i64 a1, .int .i64 a2] 25 #[.int .i64 bx, .int .i64 (by'), .int .i64 b1, .int .i64 b2] 25 #[.int .i64 0, .int .i64 0, .int .i64 0, .int .i64 0] 25
          go_enter Tryz.func63, Tryz.ntmps63
          go_wp2_with fail
          generalize ((w.alloc (.cells #[.int .i64 ax, .int .i64 ay, .int .i64 a1, .int .i64 a2] 25)).alloc (.cells #[.int .i64 bx, .int .i64 (by'), .int .i64 b1, .int .i64 b2] 25)).alloc (.cells #[.int .i64 0, .int .i64 0, .int .i64 0, .int .i64 0] 25) = w0 at *
          refine (VA.out _).mono ?_
          rintro e1 w1 ⟨rfl, hb1⟩
          replace HB := hT HB hb1
          replace KA := hK KA hb1
          replace KB := hK KB hb1
          replace KZ := hK KZ hb1
          clear hb1
          obtain ⟨yB_0, yB_1, yB_2, yB_3, yB_z⟩ := blk4 KB
          go_wp2_with fail
          refine (VB.out _).mono ?_
          rintro e2 w2 ⟨rfl, hb2⟩
          replace HB := hT HB hb2
          replace KA := hK KA hb2
          replace KB := hK KB hb2
          replace KZ := hK KZ hb2
          clear yB_0 yB_1 yB_2 yB_3 yB_z
          clear hb2
          go_upto_region 5 with (fail)
          obtain ⟨KC, hb3⟩ := alB w2 #[.int .i64 0, .int .i64 0, .int .i64 0, .int .i64 0] 25
          have hnC := HB.out.size
          have nzC_A := KA.out.lt
          have nzC_B := KB.out.lt
          have nzC_Z := KZ.out.lt
          replace HB := hT HB hb3
          replace KA := hK KA hb3
          replace KB := hK KB hb3
          replace KZ := hK KZ hb3
          clear hb3
          generalize w2.alloc (.cells #[.int .i64 0, .int .i64 0, .int .i64 0, .int .i64 0] 25) = w3 at *
          generalize w2.heap.size = bC at *
          have neC_A : bC ≠ w.heap.size := by omega
          have neC_B : bC ≠ (w.heap.size + 1) := by omega
          have neC_Z : bC ≠ (w.heap.size + 1 + 1) := by omega
          clear nzC_A nzC_B nzC_Z
          obtain ⟨yA_0, yA_1, yA_2, yA_3, yA_z⟩ := blk4 KA
          obtain ⟨yB_0, yB_1, yB_2, yB_3, yB_z⟩ := blk4 KB
          go_wp2_with fail
          refine (OX.out _).mono ?_
          rintro e4 w4 ⟨rfl, hb4⟩
          replace HB := hT HB hb4
          replace KA := hK KA hb4
          replace KB := hK KB hb4
          replace KZ := hK KZ hb4
          replace KC := hK KC hb4
          clear yA_0 yA_1 yA_2 yA_3 yA_z yB_0 yB_1 yB_2 yB_3 yB_z
          clear hb4
          obtain ⟨yC_0, yC_1, yC_2, yC_3, yC_z, yC_f0, yC_f1, yC_f2, yC_f3⟩ := blf4 KC
          go_upto_region 6 with (fail)
          have hs := st2 w4 bC 0 (.int .i64 mx) 2 (.int .i64 wx)
          replace KA := oB hs KA (by omega)
          replace KB := oB hs KB (by omega)
          replace KZ := oB hs KZ (by omega)
          replace KC := Lib.hid (blk_set (blk_set KC.out (j := 0) (by simp) (.int .i64 mx)) (j := 2) (by simp) (.int .i64 wx))
          replace HB := oH hs HB (by omega)
          clear hs
          clear yC_0 yC_1 yC_2 yC_3 yC_z yC_f0 yC_f1 yC_f2 yC_f3
          generalize (w4.setCell ⟨bC, 0, none⟩ (.int .i64 mx)).setCell ⟨bC, 2, none⟩ (.int .i64 wx) = w5 at *
          simp only [List.set] at KC
          obtain ⟨yA_0, yA_1, yA_2, yA_3, yA_z⟩ := blk4 KA
          obtain ⟨yB_0, yB_1, yB_2, yB_3, yB_z⟩ := blk4 KB
          go_wp2_with fail
          refine (OY.out _).mono ?_
          rintro e6 w6 ⟨rfl, hb6⟩
          replace HB := hT HB hb6
          replace KA := hK KA hb6
          replace KB := hK KB hb6
          replace KZ := hK KZ hb6
          replace KC := hK KC hb6
          clear yA_0 yA_1 yA_2 yA_3 yA_z yB_0 yB_1 yB_2 yB_3 yB_z
          clear hb6
          obtain ⟨yC_0, yC_1, yC_2, yC_3, yC_z, yC_f0, yC_f1, yC_f2, yC_f3⟩ := blf4 KC
          go_upto_region 7 with (fail)
          have hs := st2 w6 bC 1 (.int .i64 my) 3 (.int .i64 wy)
          replace KA := oB hs KA (by omega)
          replace KB := oB hs KB (by omega)
          replace KZ := oB hs KZ (by omega)
          replace KC := Lib.hid (blk_set (blk_set KC.out (j := 1) (by simp) (.int .i64 my)) (j := 3) (by simp) (.int .i64 wy))
          replace HB := oH hs HB (by omega)
          clear hs
          clear yC_0 yC_1 yC_2 yC_3 yC_z yC_f0 yC_f1 yC_f2 yC_f3
          generalize (w6.setCell ⟨bC, 1, none⟩ (.int .i64 my)).setCell ⟨bC, 3, none⟩ (.int .i64 wy) = w7 at *
          simp only [List.set] at KC
          obtain ⟨yZ_0, yZ_1, yZ_2, yZ_3, yZ_z, yZ_f0, yZ_f1, yZ_f2, yZ_f3⟩ := blf4 KZ
          go_wp2
          have hs := st4 w7 (w.heap.size + 1 + 1) 0 (.int .i64 0) 1 (.int .i64 0) 2 (.int .i64 0) 3 (.int .i64 0)
          replace KA := oB hs KA (by omega)
          replace KB := oB hs KB (by omega)
          replace KZ := Lib.hid (blk_set (blk_set (blk_set (blk_set KZ.out (j := 0) (by simp) (.int .i64 0)) (j := 1) (by simp) (.int .i64 0)) (j := 2) (by simp) (.int .i64 0)) (j := 3) (by simp) (.int .i64 0))
          replace KC := oB hs KC (by omega)
          replace HB := oH hs HB (by omega)
          clear hs
          clear yZ_0 yZ_1 yZ_2 yZ_3 yZ_z yZ_f0 yZ_f1 yZ_f2 yZ_f3
          generalize (((w7.setCell ⟨(w.heap.size + 1 + 1), 0, none⟩ (.int .i64 0)).setCell ⟨(w.heap.size + 1 + 1), 1, none⟩ (.int .i64 0)).setCell ⟨(w.heap.size + 1 + 1), 2, none⟩ (.int .i64 0)).setCell ⟨(w.heap.size + 1 + 1), 3, none⟩ (.int .i64 0) = w8 at *
          simp only [List.set] at KZ
          obtain ⟨yZ_0, yZ_1, yZ_2, yZ_3, yZ_z⟩ := blk4 KZ
          refine bodyPost_ret (v := .tuple #[.agg #[.int .i64 0, .int .i64 0, .int .i64 0, .int .i64 0], .int .i64 11]) (by simp [results, Tryz.results63, go_sem, yZ_0, yZ_1, yZ_2, yZ_3]) rfl ⟨by rw [EV.out]; rfl, HB.out⟩
      | true =>
        cases oy with
        | false =>
          have EV := Lib.hid (EN (.inr rfl))
          clear EN EX
          obtain ⟨KA, KB, KZ, HB⟩ := ent3 w #[.int .i64 ax, .int .i64 ay, .int .i64 a1, .int .i64 a2] 25 #[.int .i64 bx, .int .i64 (by'), .int .i64 b1, .int .i64 b2] 25 #[.int .i64 0, .int .i64 0, .int .i64 0, .int .i64 0] 25
          go_enter Tryz.func63, Tryz.ntmps63
          go_wp2_with fail
          generalize ((w.alloc (.cells #[.int .i64 ax, .int .i64 ay, .int .i64 a1, .int .i64 a2] 25)).alloc (.cells #[.int .i64 bx, .int .i64 (by'), .int .i64 b1, .int .i64 b2] 25)).alloc (.cells #[.int .i64 0, .int .i64 0, .int .i64 0, .int .i64 0] 25) = w0 at *
          refine (VA.out _).mono ?_
          rintro e1 w1 ⟨rfl, hb1⟩
          replace HB := hT HB hb1
          replace KA := hK KA hb1
          replace KB := hK KB hb1
          replace KZ := hK KZ hb1
          clear hb1
          obtain ⟨yB_0, yB_1, yB_2, yB_3, yB_z⟩ := blk4 KB
          go_wp2_with fail
          refine (VB.out _).mono ?_
          rintro e2 w2 ⟨rfl, hb2⟩
          replace HB := hT HB hb2
          replace KA := hK KA hb2
          replace KB := hK KB hb2
          replace KZ := hK KZ hb2
          clear yB_0 yB_1 yB_2 yB_3 yB_z
          clear hb2
          go_upto_region 5 with (fail)
          obtain ⟨KC, hb3⟩ := alB w2 #[.int .i64 0, .int .i64 0, .int .i64 0, .int .i64 0] 25
          have hnC := HB.out.size
          have nzC_A := KA.out.lt
          have nzC_B := KB.out.lt
          have nzC_Z := KZ.out.lt
          replace HB := hT HB hb3
          replace KA := hK KA hb3
          replace KB := hK KB hb3
          replace KZ := hK KZ hb3
          clear hb3
          generalize w2.alloc (.cells #[.int .i64 0, .int .i64 0, .int .i64 0, .int .i64 0] 25) = w3 at *
          generalize w2.heap.size = bC at *
          have neC_A : bC ≠ w.heap.size := by omega
          have neC_B : bC ≠ (w.heap.size + 1) := by omega
          have neC_Z : bC ≠ (w.heap.size + 1 + 1) := by omega
          clear nzC_A nzC_B nzC_Z
          obtain ⟨yA_0, yA_1, yA_2, yA_3, yA_z⟩ := blk4 KA
          obtain ⟨yB_0, yB_1, yB_2, yB_3, yB_z⟩ := blk4 KB
          go_wp2_with fail
          refine (OX.out _).mono ?_
          rintro e4 w4 ⟨rfl, hb4⟩
          replace HB := hT HB hb4
          replace KA := hK KA hb4
          replace KB := hK KB hb4
          replace KZ := hK KZ hb4
          replace KC := hK KC hb4
          clear yA_0 yA_1 yA_2 yA_3 yA_z yB_0 yB_1 yB_2 yB_3 yB_z
          clear hb4
          obtain ⟨yC_0, yC_1, yC_2, yC_3, yC_z, yC_f0, yC_f1, yC_f2, yC_f3⟩ := blf4 KC
          go_upto_region 6 with (fail)
          have hs := st2 w4 bC 0 (.int .i64 mx) 2 (.int .i64 wx)
          replace KA := oB hs KA (by omega)
          replace KB := oB hs KB (by omega)
          replace KZ := oB hs KZ (by omega)
          replace KC := Lib.hid (blk_set (blk_set KC.out (j := 0) (by simp) (.int .i64 mx)) (j := 2) (by simp) (.int .i64 wx))
          replace HB := oH hs HB (by omega)
          clear hs
          clear yC_0 yC_1 yC_2 yC_3 yC_z yC_f0 yC_f1 yC_f2 yC_f3
          generalize (w4.setCell ⟨bC, 0, none⟩ (.int .i64 mx)).setCell ⟨bC, 2, none⟩ (.int .i64 wx) = w5 at *
          simp only [List.set] at KC
          obtain ⟨yA_0, yA_1, yA_2, yA_3, yA_z⟩ := blk4 KA
          obtain ⟨yB_0, yB_1, yB_2, yB_3, yB_z⟩ := blk4 KB
          go_wp2_with fail
          refine (OY.out _).mono ?_
          rintro e6 w6 ⟨rfl, hb6⟩
          replace HB := hT HB hb6
          replace KA := hK KA hb6
          replace KB := hK KB hb6
          replace KZ := hK KZ hb6
          replace KC := hK KC hb6
          clear yA_0 yA_1 yA_2 yA_3 yA_z yB_0 yB_1 yB_2 yB_3 yB_z
          clear hb6
          obtain ⟨yC_0, yC_1, yC_2, yC_3, yC_z, yC_f0, yC_f1, yC_f2, yC_f3⟩ := blf4 KC
          go_upto_region 7 with (fail)
          have hs := st2 w6 bC 1 (.int .i64 my) 3 (.int .i64 wy)
          replace KA := oB hs KA (by omega)
          replace KB := oB hs KB (by omega)
          replace KZ := oB hs KZ (by omega)
          replace KC := Lib.hid (blk_set (blk_set KC.out (j := 1) (by simp) (.int .i64 my)) (j := 3) (by simp) (.int .i64 wy))
          replace HB := oH hs HB (by omega)
          clear hs
          clear yC_0 yC_1 yC_2 yC_3 yC_z yC_f0 yC_f1 yC_f2 yC_f3
          generalize (w6.setCell ⟨bC, 1, none⟩ (.int .i64 my)).setCell ⟨bC, 3, none⟩ (.int .i64 wy) = w7 at *
          simp only [List.set] at KC
          obtain ⟨yZ_0, yZ_1, yZ_2, yZ_3, yZ_z, yZ_f0, yZ_f1, yZ_f2, yZ_f3⟩ := blf4 KZ
          go_wp2
          have hs := st4 w7 (w.heap.size + 1 + 1) 0 (.int .i64 0) 1 (.int .i64 0) 2 (.int .i64 0) 3 (.int .i64 0)
          replace KA := oB hs KA (by omega)
          replace KB := oB hs KB (by omega)
          replace KZ := Lib.hid (blk_set (blk_set (blk_set (blk_set KZ.out (j := 0) (by simp) (.int .i64 0)) (j := 1) (by simp) (.int .i64 0)) (j := 2) (by simp) (.int .i64 0)) (j := 3) (by simp) (.int .i64 0))
          replace KC := oB hs KC (by omega)
          replace HB := oH hs HB (by omega)
          clear hs
          clear yZ_0 yZ_1 yZ_2 yZ_3 yZ_z yZ_f0 yZ_f1 yZ_f2 yZ_f3
          generalize (((w7.setCell ⟨(w.heap.size + 1 + 1), 0, none⟩ (.int .i64 0)).setCell ⟨(w.heap.size + 1 + 1), 1, none⟩ (.int .i64 0)).setCell ⟨(w.heap.size + 1 + 1), 2, none⟩ (.int .i64 0)).setCell ⟨(w.heap.size + 1 + 1), 3, none⟩ (.int .i64 0) = w8 at *
          simp only [List.set] at KZ
          obtain ⟨yZ_0, yZ_1, yZ_2, yZ_3, yZ_z⟩ := blk4 KZ
          refine bodyPost_ret (v := .tuple #[.agg #[.int .i64 0, .int .i64 0, .int .i64 0, .int .i64 0], .int .i64 11]) (by simp [results, Tryz.results63, go_sem, yZ_0, yZ_1, yZ_2, yZ_3]) rfl ⟨by rw [EV.out]; rfl, HB.out⟩
        | true =>
          have EV := Lib.hid (EX rfl rfl)
          clear EN EX
          obtain ⟨KA, KB, KZ, HB⟩ := ent3 w #[.int .i64 ax, .int .i64 ay, .int .i64 a1, .int .i64 a2] 25 #[.int .i64 bx, .int .i64 (by'), .int .i64 b1, .int .i64 b2] 25 #[.int .i64 0, .int .i64 0, .int .i64 0, .int .i64 0] 25
          go_enter Tryz.func63, Tryz.ntmps63
          go_wp2_with fail
          generalize ((w.alloc (.cells #[.int .i64 ax, .int .i64 ay, .int .i64 a1, .int .i64 a2] 25)).alloc (.cells #[.int .i64 bx, .int .i64 (by'), .int .i64 b1, .int .i64 b2] 25)).alloc (.cells #[.int .i64 0, .int .i64 0, .int .i64 0, .int .i64 0] 25) = w0 at *
          refine (VA.out _).mono ?_
          rintro e1 w1 ⟨rfl, hb1⟩
          replace HB := hT HB hb1
          replace KA := hK KA hb1
          replace KB := hK KB hb1
          replace KZ := hK KZ hb1
          clear hb1
          obtain ⟨yB_0, yB_1, yB_2, yB_3, yB_z⟩ := blk4 KB
          go_wp2_with fail
          refine (VB.out _).mono ?_
          rintro e2 w2 ⟨rfl, hb2⟩
          replace HB := hT HB hb2
          replace KA := hK KA hb2
          replace KB := hK KB hb2
          replace KZ := hK KZ hb2
          clear yB_0 yB_1 yB_2 yB_3 yB_z
          clear hb2
          go_upto_region 5 with (fail)
          obtain ⟨KC, hb3⟩ := alB w2 #[.int .i64 0, .int .i64 0, .int .i64 0, .int .i64 0] 25
          have hnC := HB.out.size
          have nzC_A := KA.out.lt
          have nzC_B := KB.out.lt
          have nzC_Z := KZ.out.lt
          replace HB := hT HB hb3
          replace KA := hK KA hb3
          replace KB := hK KB hb3
          replace KZ := hK KZ hb3
          clear hb3
          generalize w2.alloc (.cells #[.int .i64 0, .int .i64 0, .int .i64 0, .int .i64 0] 25) = w3 at *
          generalize w2.heap.size = bC at *
          have neC_A : bC ≠ w.heap.size := by omega
          have neC_B : bC ≠ (w.heap.size + 1) := by omega
          have neC_Z : bC ≠ (w.heap.size + 1 + 1) := by omega
          clear nzC_A nzC_B nzC_Z
          obtain ⟨yA_0, yA_1, yA_2, yA_3, yA_z⟩ := blk4 KA
          obtain ⟨yB_0, yB_1, yB_2, yB_3, yB_z⟩ := blk4 KB
          go_wp2_with fail
          refine (OX.out _).mono ?_
          rintro e4 w4 ⟨rfl, hb4⟩
          replace HB := hT HB hb4
          replace KA := hK KA hb4
          replace KB := hK KB hb4
          replace KZ := hK KZ hb4
          replace KC := hK KC hb4
          clear yA_0 yA_1 yA_2 yA_3 yA_z yB_0 yB_1 yB_2 yB_3 yB_z
          clear hb4
          obtain ⟨yC_0, yC_1, yC_2, yC_3, yC_z, yC_f0, yC_f1, yC_f2, yC_f3⟩ := blf4 KC
          go_upto_region 6 with (fail)
          have hs := st2 w4 bC 0 (.int .i64 mx) 2 (.int .i64 wx)
          replace KA := oB hs KA (by omega)
          replace KB := oB hs KB (by omega)
          replace KZ := oB hs KZ (by omega)
          replace KC := Lib.hid (blk_set (blk_set KC.out (j := 0) (by simp) (.int .i64 mx)) (j := 2) (by simp) (.int .i64 wx))
          replace HB := oH hs HB (by omega)
          clear hs
          clear yC_0 yC_1 yC_2 yC_3 yC_z yC_f0 yC_f1 yC_f2 yC_f3
          generalize (w4.setCell ⟨bC, 0, none⟩ (.int .i64 mx)).setCell ⟨bC, 2, none⟩ (.int .i64 wx) = w5 at *
          simp only [List.set] at KC
          obtain ⟨yA_0, yA_1, yA_2, yA_3, yA_z⟩ := blk4 KA
          obtain ⟨yB_0, yB_1, yB_2, yB_3, yB_z⟩ := blk4 KB
          go_wp2_with fail
          refine (OY.out _).mono ?_
          rintro e6 w6 ⟨rfl, hb6⟩
          replace HB := hT HB hb6
          replace KA := hK KA hb6
          replace KB := hK KB hb6
          replace KZ := hK KZ hb6
          replace KC := hK KC hb6
          clear yA_0 yA_1 yA_2 yA_3 yA_z yB_0 yB_1 yB_2 yB_3 yB_z
          clear hb6
          obtain ⟨yC_0, yC_1, yC_2, yC_3, yC_z, yC_f0, yC_f1, yC_f2, yC_f3⟩ := blf4 KC
          go_upto_region 7 with (fail)
          have hs := st2 w6 bC 1 (.int .i64 my) 3 (.int .i64 wy)
          replace KA := oB hs KA (by omega)
          replace KB := oB hs KB (by omega)
          replace KZ := oB hs KZ (by omega)
          replace KC := Lib.hid (blk_set (blk_set KC.out (j := 1) (by simp) (.int .i64 my)) (j := 3) (by simp) (.int .i64 wy))
          replace HB := oH hs HB (by omega)
          clear hs
          clear yC_0 yC_1 yC_2 yC_3 yC_z yC_f0 yC_f1 yC_f2 yC_f3
          generalize (w6.setCell ⟨bC, 1, none⟩ (.int .i64 my)).setCell ⟨bC, 3, none⟩ (.int .i64 wy) = w7 at *
          simp only [List.set] at KC
          obtain ⟨yZ_0, yZ_1, yZ_2, yZ_3, yZ_z, yZ_f0, yZ_f1, yZ_f2, yZ_f3⟩ := blf4 KZ
          obtain ⟨yC_0, yC_1, yC_2, yC_3, yC_z⟩ := blk4 KC
          go_wp2
          have hs := st4 w7 (w.heap.size + 1 + 1) 0 (.int .i64 mx) 1 (.int .i64 my) 2 (.int .i64 wx) 3 (.int .i64 wy)
          replace KA := oB hs KA (by omega)
          replace KB := oB hs KB (by omega)
          replace KZ := Lib.hid (blk_set (blk_set (blk_set (blk_set KZ.out (j := 0) (by simp) (.int .i64 mx)) (j := 1) (by simp) (.int .i64 my)) (j := 2) (by simp) (.int .i64 wx)) (j := 3) (by simp) (.int .i64 wy))
          replace KC := oB hs KC (by omega)
          replace HB := oH hs HB (by omega)
          clear hs
          clear yZ_0 yZ_1 yZ_2 yZ_3 yZ_z yZ_f0 yZ_f1 yZ_f2 yZ_f3 yC_0 yC_1 yC_2 yC_3 yC_z
          generalize (((w7.setCell ⟨(w.heap.size + 1 + 1), 0, none⟩ (.int .i64 mx)).setCell ⟨(w.heap.size + 1 + 1), 1, none⟩ (.int .i64 my)).setCell ⟨(w.heap.size + 1 + 1), 2, none⟩ (.int .i64 wx)).setCell ⟨(w.heap.size + 1 + 1), 3, none⟩ (.int .i64 wy) = w8 at *
          simp only [List.set] at KZ
          obtain ⟨yZ_0, yZ_1, yZ_2, yZ_3, yZ_z⟩ := blk4 KZ
          refine bodyPost_ret (v := .tuple #[.agg #[.int .i64 mx, .int .i64 my, .int .i64 wx, .int .i64 wy], .int .i64 0]) (by simp [results, Tryz.results63, go_sem, yZ_0, yZ_1, yZ_2, yZ_3]) rfl ⟨by rw [EV.out], HB.out⟩
end Go.Proofs.YtajmjkliblippaaGreatDoor
namespace Go.Proofs.YtajmjkliblippaaGreatDoor
set_option linter.unusedVariables false
open Go.RowKit
set_option maxHeartbeats 40000000 in
set_option maxRecDepth 100000 in
theorem fix_any (l : List Ms) (v : Value) (a : Bx4) (w : World) (h : LstAt l v w) : Calls Tryz.prog 33 #[v, .agg #[.int .i64 a.cx, .int .i64 a.cy, .int .i64 a.x, .int .i64 a.y]] w fun e w' => e = .returned (.tuple #[.agg #[.int .i64 (fixF l a).1.1.cx, .int .i64 (fixF l a).1.1.cy, .int .i64 (fixF l a).1.1.x, .int .i64 (fixF l a).1.1.y], .int .i64 (fixF l a).1.2, .bool (fixF l a).2]) ∧ Below w.heap.size w w' := by
  have EV0 : fixF l a = if (S44.fltF l).2 = 0 then (if (levF (woL l (S44.fltF l).1)).2 = 0 then (((mrgF a (toB (levF (woL l (S44.fltF l).1)).1)).1, (S44.fltF l).1), decide ((mrgF a (toB (levF (woL l (S44.fltF l).1)).1)).2 = 0)) else ((bx0, 0), false)) else ((bx0, 0), false) := rfl
  have FL := Lib.hid fun w h => S44.flt_any l v w h
  unfold S44.FlP at FL
  have WL := Lib.hid fun (h : (S44.fltF l).2 = 0) => show l.length ≤ 18 from Nat.le_trans (okL_of (flt_chk2 h)).len (by omega)
  generalize fixF l a = q at *
  generalize S44.fltF l = R at *
  obtain ⟨k, e⟩ := R
  simp only at FL WL EV0
  have LV := Lib.hid fun u w h => lev_any (woL l k) u w h
  generalize levF (woL l k) = R at *
  obtain ⟨⟨c0, c1, c2, c3⟩, el⟩ := R
  unfold toB at EV0
  unfold boxV at LV
  simp only at LV EV0
  have MG := Lib.hid fun w => merge_any a ⟨c0, c1, c2, c3⟩ w
  have EV1 := Lib.hid EV0
  clear EV0
  have EV0 := EV1
  clear EV1
  obtain ⟨ax, ay, a1, a2⟩ := a
  simp only at MG
  obtain ⟨KP, KZ, HB⟩ := ent2 w #[.int .i64 ax, .int .i64 ay, .int .i64 a1, .int .i64 a2] 25 #[.int .i64 0, .int .i64 0, .int .i64 0, .int .i64 0] 25
  have HL := Lib.hid (h.below (((Below.refl w.heap.size w).alloc (Nat.le_refl _) (.cells #[.int .i64 ax, .int .i64 ay, .int .i64 a1, .int .i64 a2] 25)).alloc (by simp) (.cells #[.int .i64 0, .int .i64 0, .int .i64 0, .int .i64 0] 25)))
  go_enter Tryz.func33, Tryz.ntmps33
  go_wp2_with fail
  generalize (w.alloc (.cells #[.int .i64 ax, .int .i64 ay, .int .i64 a1, .int .i64 a2] 25)).alloc (.cells #[.int .i64 0, .int .i64 0, .int .i64 0, .int .i64 0] 25) = w0 at *
  refine (FL.out _ HL.out).mono ?_
  rintro e1 w1 ⟨rfl, hb1⟩
  replace HB := hT HB hb1
  replace KP := hK KP hb1
  replace KZ := hK KZ hb1
  replace HL := Lib.hid (HL.out.below hb1)
  clear hb1
  by_cases he : e = 0
  · subst he
    have LN := WL.out rfl
    replace EV0 := Lib.hid (EV0.out.trans (if_pos rfl))
    clear WL
    go_wp2_with fail
    refine (wo_any l k v _ HL.out LN).mono ?_
    rintro e34 w34 ⟨⟨u2, rfl, ho2⟩, hb34⟩
    replace HB := hT HB hb34
    replace KP := hK KP hb34
    replace KZ := hK KZ hb34
    replace HL := Lib.hid (HL.out.below hb34)
    clear hb34
    have OL2 := Lib.hid ho2.lst
    clear ho2 LN
    have LV2 := Lib.hid fun w h => LV.out u2 w h
    clear LV
    go_wp2_with fail
    refine (LV2.out _ OL2.out).mono ?_
    rintro e35 w35 ⟨rfl, hb35⟩
    replace HB := hT HB hb35
    replace KP := hK KP hb35
    replace KZ := hK KZ hb35
    replace OL2 := Lib.hid (OL2.out.below hb35)
    clear hb35
    clear LV2
    go_upto_region 5 with (fail)
    obtain ⟨KL, hb36⟩ := alB w35 #[.int .i64 c0, .int .i64 c1, .int .i64 c2, .int .i64 c3] 25
    have hnL := HB.out.size
    have nzL_P := KP.out.lt
    have nzL_Z := KZ.out.lt
    replace HB := hT HB hb36
    replace KP := hK KP hb36
    replace KZ := hK KZ hb36
    replace OL2 := Lib.hid (OL2.out.below hb36)
    clear hb36
    generalize w35.alloc (.cells #[.int .i64 c0, .int .i64 c1, .int .i64 c2, .int .i64 c3] 25) = w36 at *
    generalize w35.heap.size = bL at *
    have neL_P : bL ≠ w.heap.size := by omega
    have neL_Z : bL ≠ (w.heap.size + 1) := by omega
    clear nzL_P nzL_Z
    by_cases hl : el = 0
    · subst hl
      replace EV0 := Lib.hid (EV0.out.trans (if_pos rfl))
      have MG2 := MG.out
      generalize mrgF ⟨ax, ay, a1, a2⟩ ⟨c0, c1, c2, c3⟩ = R at *
      obtain ⟨⟨d0, d1, d2, d3⟩, em⟩ := R
      simp only at MG2
      have MG3 := Lib.hid MG2
      clear MG MG2
      obtain ⟨yP_0, yP_1, yP_2, yP_3, yP_z⟩ := blk4 KP
      obtain ⟨yL_0, yL_1, yL_2, yL_3, yL_z⟩ := blk4 KL
      go_wp2_with fail
      refine (MG3.out _).mono ?_
      rintro e37 w37 ⟨rfl, hb37⟩
      replace HB := hT HB hb37
      replace KP := hK KP hb37
      replace KZ := hK KZ hb37
      replace KL := hK KL hb37
      replace OL2 := Lib.hid (OL2.out.below hb37)
      clear yP_0 yP_1 yP_2 yP_3 yP_z yL_0 yL_1 yL_2 yL_3 yL_z
      clear hb37
      clear MG3
      go_upto_region 8 with (fail)
      obtain ⟨KC, hb38⟩ := alB w37 #[.int .i64 d0, .int .i64 d1, .int .i64 d2, .int .i64 d3] 25
      have hnC := HB.out.size
      have nzC_P := KP.out.lt
      have nzC_Z := KZ.out.lt
      have nzC_L := KL.out.lt
      replace HB := hT HB hb38
      replace KP := hK KP hb38
      replace KZ := hK KZ hb38
      replace KL := hK KL hb38
      replace OL2 := Lib.hid (OL2.out.below hb38)
      clear hb38
      generalize w37.alloc (.cells #[.int .i64 d0, .int .i64 d1, .int .i64 d2, .int .i64 d3] 25) = w38 at *
      generalize w37.heap.size = bC at *
      have neC_P : bC ≠ w.heap.size := by omega
      have neC_Z : bC ≠ (w.heap.size + 1) := by omega
      have neC_L : bC ≠ bL := by omega
      clear nzC_P nzC_Z nzC_L
      by_cases hm : em = 0
      · subst hm
        have EV := EV0
        clear EV0
        obtain ⟨yZ_0, yZ_1, yZ_2, yZ_3, yZ_z, yZ_f0, yZ_f1, yZ_f2, yZ_f3⟩ := blf4 KZ
        obtain ⟨yC_0, yC_1, yC_2, yC_3, yC_z⟩ := blk4 KC
        go_wp2
        have hs := st4 w38 (w.heap.size + 1) 0 (.int .i64 d0) 1 (.int .i64 d1) 2 (.int .i64 d2) 3 (.int .i64 d3)
        replace KP := oB hs KP (by omega)
        replace KZ := Lib.hid (blk_set (blk_set (blk_set (blk_set KZ.out (j := 0) (by simp) (.int .i64 d0)) (j := 1) (by simp) (.int .i64 d1)) (j := 2) (by simp) (.int .i64 d2)) (j := 3) (by simp) (.int .i64 d3))
        replace KL := oB hs KL (by omega)
        replace KC := oB hs KC (by omega)
        replace HB := oH hs HB (by omega)
        clear hs
        clear yZ_0 yZ_1 yZ_2 yZ_3 yZ_z yZ_f0 yZ_f1 yZ_f2 yZ_f3 yC_0 yC_1 yC_2 yC_3 yC_z
        generalize (((w38.setCell ⟨(w.heap.size + 1), 0, none⟩ (.int .i64 d0)).setCell ⟨(w.heap.size + 1), 1, none⟩ (.int .i64 d1)).setCell ⟨(w.heap.size + 1), 2, none⟩ (.int .i64 d2)).setCell ⟨(w.heap.size + 1), 3, none⟩ (.int .i64 d3) = w39 at *
        simp only [List.set] at KZ
        obtain ⟨yZ_0, yZ_1, yZ_2, yZ_3, yZ_z⟩ := blk4 KZ
        refine bodyPost_ret (v := .tuple #[.agg #[.int .i64 d0, .int .i64 d1, .int .i64 d2, .int .i64 d3], .int .i64 k, .bool true]) (by simp [results, Tryz.results33, go_sem, yZ_0, yZ_1, yZ_2, yZ_3]) rfl ⟨by first | (rw [EV.out]; done) | (rw [EV.out]; rfl), HB.out⟩
      · have gm : (em == 0) = false := by simpa using hm
        have EV := Lib.hid (EV0.out.trans (by rw [show decide (em = 0) = false by simpa using hm]))
        clear EV0 hm
        obtain ⟨yZ_0, yZ_1, yZ_2, yZ_3, yZ_z, yZ_f0, yZ_f1, yZ_f2, yZ_f3⟩ := blf4 KZ
        obtain ⟨yC_0, yC_1, yC_2, yC_3, yC_z⟩ := blk4 KC
        go_wp2
        have hs := st4 w38 (w.heap.size + 1) 0 (.int .i64 d0) 1 (.int .i64 d1) 2 (.int .i64 d2) 3 (.int .i64 d3)
        replace KP := oB hs KP (by omega)
        replace KZ := Lib.hid (blk_set (blk_set (blk_set (blk_set KZ.out (j := 0) (by simp) (.int .i64 d0)) (j := 1) (by simp) (.int .i64 d1)) (j := 2) (by simp) (.int .i64 d2)) (j := 3) (by simp) (.int .i64 d3))
        replace KL := oB hs KL (by omega)
        replace KC := oB hs KC (by omega)
        replace HB := oH hs HB (by omega)
        clear hs
        clear yZ_0 yZ_1 yZ_2 yZ_3 yZ_z yZ_f0 yZ_f1 yZ_f2 yZ_f3 yC_0 yC_1 yC_2 yC_3 yC_z
        generalize (((w38.setCell ⟨(w.heap.size + 1), 0, none⟩ (.int .i64 d0)).setCell ⟨(w.heap.size + 1), 1, none⟩ (.int .i64 d1)).setCell ⟨(w.heap.size + 1), 2, none⟩ (.int .i64 d2)).setCell ⟨(w.heap.size + 1), 3, none⟩ (.int .i64 d3) = w39 at *
        simp only [List.set] at KZ
        obtain ⟨yZ_0, yZ_1, yZ_2, yZ_3, yZ_z⟩ := blk4 KZ
        refine bodyPost_ret (v := .tuple #[.agg #[.int .i64 d0, .int .i64 d1, .int .i64 d2, .int .i64 d3], .int .i64 k, .bool false]) (by simp [results, Tryz.results33, go_sem, yZ_0, yZ_1, yZ_2, yZ_3]) rfl ⟨by first | (rw [EV.out]; done) | (rw [EV.out]; rfl), HB.out⟩
    · have EV := Lib.hid (EV0.out.trans (if_neg hl))
      have gl : (el != 0) = true := by simpa using hl
      clear EV0 hl MG
      obtain ⟨yZ_0, yZ_1, yZ_2, yZ_3, yZ_z, yZ_f0, yZ_f1, yZ_f2, yZ_f3⟩ := blf4 KZ
      go_wp2
      have hs := st4 w36 (w.heap.size + 1) 0 (.int .i64 0) 1 (.int .i64 0) 2 (.int .i64 0) 3 (.int .i64 0)
      replace KP := oB hs KP (by omega)
      replace KZ := Lib.hid (blk_set (blk_set (blk_set (blk_set KZ.out (j := 0) (by simp) (.int .i64 0)) (j := 1) (by simp) (.int .i64 0)) (j := 2) (by simp) (.int .i64 0)) (j := 3) (by simp) (.int .i64 0))
      replace KL := oB hs KL (by omega)
      replace HB := oH hs HB (by omega)
      clear hs
      clear yZ_0 yZ_1 yZ_2 yZ_3 yZ_z yZ_f0 yZ_f1 yZ_f2 yZ_f3
      generalize (((w36.setCell ⟨(w.heap.size + 1), 0, none⟩ (.int .i64 0)).setCell ⟨(w.heap.size + 1), 1, none⟩ (.int .i64 0)).setCell ⟨(w.heap.size + 1), 2, none⟩ (.int .i64 0)).setCell ⟨(w.heap.size + 1), 3, none⟩ (.int .i64 0) = w37 at *
      simp only [List.set] at KZ
      obtain ⟨yZ_0, yZ_1, yZ_2, yZ_3, yZ_z⟩ := blk4 KZ
      refine bodyPost_ret (v := .tuple #[.agg #[.int .i64 0, .int .i64 0, .int .i64 0, .int .i64 0], .int .i64 0, .bool false]) (by simp [results, Tryz.results33, go_sem, yZ_0, yZ_1, yZ_2, yZ_3]) rfl ⟨by rw [EV.out]; rfl, HB.out⟩
  · have EV := Lib.hid (EV0.out.trans (if_neg he))
    have ge : (e != 0) = true := by simpa using he
    clear EV0 he WL LV
    obtain ⟨yZ_0, yZ_1, yZ_2, yZ_3, yZ_z, yZ_f0, yZ_f1, yZ_f2, yZ_f3⟩ := blf4 KZ
    go_wp2
    have hs := st4 w1 (w.heap.size + 1) 0 (.int .i64 0) 1 (.int .i64 0) 2 (.int .i64 0) 3 (.int .i64 0)
    replace KP := oB hs KP (by omega)
    replace KZ := Lib.hid (blk_set (blk_set (blk_set (blk_set KZ.out (j := 0) (by simp) (.int .i64 0)) (j := 1) (by simp) (.int .i64 0)) (j := 2) (by simp) (.int .i64 0)) (j := 3) (by simp) (.int .i64 0))
    replace HB := oH hs HB (by omega)
    clear hs
    clear yZ_0 yZ_1 yZ_2 yZ_3 yZ_z yZ_f0 yZ_f1 yZ_f2 yZ_f3
    generalize (((w1.setCell ⟨(w.heap.size + 1), 0, none⟩ (.int .i64 0)).setCell ⟨(w.heap.size + 1), 1, none⟩ (.int .i64 0)).setCell ⟨(w.heap.size + 1), 2, none⟩ (.int .i64 0)).setCell ⟨(w.heap.size + 1), 3, none⟩ (.int .i64 0) = w2 at *
    simp only [List.set] at KZ
    obtain ⟨yZ_0, yZ_1, yZ_2, yZ_3, yZ_z⟩ := blk4 KZ
    refine bodyPost_ret (v := .tuple #[.agg #[.int .i64 0, .int .i64 0, .int .i64 0, .int .i64 0], .int .i64 0, .bool false]) (by simp [results, Tryz.results33, go_sem, yZ_0, yZ_1, yZ_2, yZ_3]) rfl ⟨by rw [EV.out]; rfl, HB.out⟩
end Go.Proofs.YtajmjkliblippaaGreatDoor
namespace Go.Proofs.YtajmjkliblippaaGreatDoor
set_option linter.unusedVariables false
open Go.ChangeShapes Go.WideShapes Go.ChangeAt Go.RowKit Go.Joins

theorem cells_of_navstate : Tryz.prog.cellsOf 27 = 6 := by kernel_rfl
theorem cells_of_velocity : Tryz.prog.cellsOf 36 = 2 := by kernel_rfl

structure Pt where
  x : Int
  y : Int
def nthP (l : List Pt) (i : Nat) : Pt := l.getD i ⟨0, 0⟩
structure PtsAt (l : List Pt) (b o : Nat) (w : World) : Prop where
  lt : b < w.heap.size
  c0 : ∀ i, i < l.length → w.cell? ⟨b, o + i * 2, none⟩ = some (.int .i64 (nthP l i).x)
  c1 : ∀ i, i < l.length → w.cell? ⟨b, o + i * 2 + 1, none⟩ = some (.int .i64 (nthP l i).y)
theorem PtsAt.below {l : List Pt} {b o : Nat} {w w' : World} (h : PtsAt l b o w) (hb : Below w.heap.size w w') : PtsAt l b o w' :=
  ⟨Nat.lt_of_lt_of_le h.lt hb.size, fun i hi => (hb.cell (p := ⟨b, o + i * 2, none⟩) h.lt).trans (h.c0 i hi), fun i hi => (hb.cell (p := ⟨b, o + i * 2 + 1, none⟩) h.lt).trans (h.c1 i hi)⟩
def PlAt (l : List Pt) (v : Value) (w : World) : Prop := (v = .slice none 0 0 ∧ l = []) ∨ ∃ b o cap, v = .slice (some ⟨b, o, none⟩) l.length cap ∧ l.length ≤ cap ∧ cap ≤ 9223372036854775807 ∧ PtsAt l b o w
theorem PlAt.below {l : List Pt} {v : Value} {w w' : World} (h : PlAt l v w) (hb : Below w.heap.size w w') : PlAt l v w' := by
  rcases h with h | ⟨b, o, cap, h1, h2, h3, h4⟩
  · exact .inl h
  · exact .inr ⟨b, o, cap, h1, h2, h3, h4.below hb⟩
theorem pl_form {l : List Pt} {v : Value} {w : World} (h : PlAt l v w) : ∃ p cap, v = .slice p l.length cap := by
  rcases h with ⟨rfl, rfl⟩ | ⟨b, o, cap, rfl, _⟩
  · exact ⟨none, 0, rfl⟩
  · exact ⟨_, _, rfl⟩
theorem pl_at {l : List Pt} {p : Option Addr} {cap : Nat} {w : World} (h : PlAt l (.slice p l.length cap) w) {k : Nat} (q : k < l.length) : ∃ b o, p = some ⟨b, o, none⟩ ∧ l.length ≤ cap ∧ cap ≤ 9223372036854775807 ∧ PtsAt l b o w := by
  rcases h with ⟨_, rfl⟩ | ⟨b, o, cap', e, h2, h3, h4⟩
  · exact absurd q (by simp)
  · injection e with e1 e2 e3
    subst e3
    exact ⟨b, o, e1, h2, h3, h4⟩
theorem cells_of_navin : Tryz.prog.cellsOf 38 = 6 := by kernel_rfl
theorem cells_of_reports : Tryz.prog.cellsOf 34 = 1 := by kernel_rfl

section
variable {H : Type} {enc : TypeId × Value → H} {W : World} {base : Nat} {spare : Nat → Bool} {held : Bool} {b0 : Nat}

set_option maxRecDepth 100000 in
theorem trod_navstate {n : Nat} {c0 c1 c2 c3 c4 c5 : Value} {y : DataW H × List MemPlace} (h : DataW.trod enc Tryz.prog W base spare held n 27 [c0, c1, c2, c3, c4, c5] = some y) :
    ∃ a0 a1 a2 a3 a4 a5 : Int, c0 = .int .i64 a0 ∧ c1 = .int .i64 a1 ∧ c2 = .int .i64 a2 ∧ c3 = .int .i64 a3 ∧ c4 = .int .i64 a4 ∧ c5 = .int .i64 a5 ∧ y = (.agg [.agg [.agg [.lit (.int .i64 a0), .lit (.int .i64 a1)], .lit (.int .i64 a2), .lit (.int .i64 a3)], .lit (.int .i64 a4), .lit (.int .i64 a5)], []) ∧ (Lit.int .i64 a0).wf = true ∧ (Lit.int .i64 a1).wf = true ∧ (Lit.int .i64 a2).wf = true ∧ (Lit.int .i64 a3).wf = true ∧ (Lit.int .i64 a4).wf = true ∧ (Lit.int .i64 a5).wf = true := by
  obtain ⟨xs, m, _, hx, _, hlen, hg⟩ := DataW.trod_struct Tryz.underlying27 h
  match xs, hlen with
  | [y0, y1, y2], _ =>
    have h0 : DataW.trod enc Tryz.prog W base spare held m 25 (([c0, c1, c2, c3, c4, c5].drop 0).take (Tryz.prog.cellsOf 25)) = some y0 := hg 0 _ rfl
    rw [cells_of_box] at h0
    have g0 : DataW.trod enc Tryz.prog W base spare held m 25 [c0, c1, c2, c3] = some y0 := h0
    have h1 : DataW.trod enc Tryz.prog W base spare held m 2 (([c0, c1, c2, c3, c4, c5].drop 4).take (Tryz.prog.cellsOf 2)) = some y1 := hg 1 _ rfl
    rw [cells_of_int64] at h1
    have g1 : DataW.trod enc Tryz.prog W base spare held m 2 [c4] = some y1 := h1
    have h2 : DataW.trod enc Tryz.prog W base spare held m 3 (([c0, c1, c2, c3, c4, c5].drop 5).take (Tryz.prog.cellsOf 3)) = some y2 := hg 2 _ rfl
    rw [cells_of_int] at h2
    have g2 : DataW.trod enc Tryz.prog W base spare held m 3 [c5] = some y2 := h2
    obtain ⟨a0, a1, a2, a3, rfl, rfl, rfl, rfl, r0, w0, w1, w2, w3⟩ := trod_box g0
    obtain ⟨a4, e4, r1, w4⟩ := DataW.trod_int Tryz.underlying2 g1
    obtain rfl : c4 = .int .i64 a4 := by simpa using e4
    obtain ⟨a5, e5, r2, w5⟩ := DataW.trod_int Tryz.underlying3 g2
    obtain rfl : c5 = .int .i64 a5 := by simpa using e5
    subst r0 r1 r2
    exact ⟨a0, a1, a2, a3, a4, a5, rfl, rfl, rfl, rfl, rfl, rfl, hx, w0, w1, w2, w3, w4, w5⟩
set_option maxRecDepth 100000 in
theorem trod_navstate_mk {a0 a1 a2 a3 a4 a5 : Int} (m : Nat) (w0 : (Lit.int .i64 a0).wf = true) (w1 : (Lit.int .i64 a1).wf = true) (w2 : (Lit.int .i64 a2).wf = true) (w3 : (Lit.int .i64 a3).wf = true) (w4 : (Lit.int .i64 a4).wf = true) (w5 : (Lit.int .i64 a5).wf = true) :
    DataW.trod enc Tryz.prog W base spare held (m + 4) 27 [.int .i64 a0, .int .i64 a1, .int .i64 a2, .int .i64 a3, .int .i64 a4, .int .i64 a5] = some (.agg [.agg [.agg [.lit (.int .i64 a0), .lit (.int .i64 a1)], .lit (.int .i64 a2), .lit (.int .i64 a3)], .lit (.int .i64 a4), .lit (.int .i64 a5)], []) := by
  have i0 := trod_box_mk (enc := enc) (W := W) (base := base) (spare := spare) (held := held) m w0 w1 w2 w3
  have i1 := trod_int_mk (enc := enc) (w := W) (base := base) (spare := spare) (held := held) (m + 2) Tryz.underlying2 w4
  have i2 := trod_int_mk (enc := enc) (w := W) (base := base) (spare := spare) (held := held) (m + 2) Tryz.underlying3 w5
  have := trod_struct_mk (enc := enc) (w := W) (base := base) (spare := spare) (held := held) (n := m + 3) (cs := [.int .i64 a0, .int .i64 a1, .int .i64 a2, .int .i64 a3, .int .i64 a4, .int .i64 a5])
    (xs := [(.agg [.agg [.lit (.int .i64 a0), .lit (.int .i64 a1)], .lit (.int .i64 a2), .lit (.int .i64 a3)], []), (.lit (.int .i64 a4), []), (.lit (.int .i64 a5), [])]) Tryz.underlying27 (by rw [cells_of_navstate]; rfl)
    (by simp [cells_of_box, cells_of_int, cells_of_int64, i0, i1, i2])
  simpa using this
set_option maxRecDepth 100000 in
theorem open_navstate {v : Value} {d : DataW H} {p : List MemPlace} (hv : Value.okWide Tryz.prog W .any b0 27 v) (h : DataW.Trod enc Tryz.prog W base spare held 27 v d p) :
    ∃ a0 a1 a2 a3 a4 a5 : Int, v = .agg #[.int .i64 a0, .int .i64 a1, .int .i64 a2, .int .i64 a3, .int .i64 a4, .int .i64 a5] ∧ d = .agg [.agg [.agg [.lit (.int .i64 a0), .lit (.int .i64 a1)], .lit (.int .i64 a2), .lit (.int .i64 a3)], .lit (.int .i64 a4), .lit (.int .i64 a5)] ∧ p = [] ∧ (Lit.int .i64 a0).wf = true ∧ (Lit.int .i64 a1).wf = true ∧ (Lit.int .i64 a2).wf = true ∧ (Lit.int .i64 a3).wf = true ∧ (Lit.int .i64 a4).wf = true ∧ (Lit.int .i64 a5).wf = true := by
  obtain ⟨cs, rfl, hsz⟩ := okWide_struct Tryz.underlying27 hv
  obtain ⟨l⟩ := cs
  match l, hsz.trans cells_of_navstate with
  | [c0, c1, c2, c3, c4, c5], _ =>
    obtain ⟨fuel, hf⟩ := h
    have hf' : DataW.trod enc Tryz.prog W base spare held fuel 27 [c0, c1, c2, c3, c4, c5] = some (d, p) := hf
    obtain ⟨a0, a1, a2, a3, a4, a5, rfl, rfl, rfl, rfl, rfl, rfl, hy, w0, w1, w2, w3, w4, w5⟩ := trod_navstate hf'
    simp only [Prod.mk.injEq] at hy
    exact ⟨a0, a1, a2, a3, a4, a5, rfl, hy.1, hy.2, w0, w1, w2, w3, w4, w5⟩
set_option maxRecDepth 100000 in
theorem shut_navstate {a0 a1 a2 a3 a4 a5 : Int} (w0 : (Lit.int .i64 a0).wf = true) (w1 : (Lit.int .i64 a1).wf = true) (w2 : (Lit.int .i64 a2).wf = true) (w3 : (Lit.int .i64 a3).wf = true) (w4 : (Lit.int .i64 a4).wf = true) (w5 : (Lit.int .i64 a5).wf = true) :
    DataW.Trod enc Tryz.prog W base spare held 27 (.agg #[.int .i64 a0, .int .i64 a1, .int .i64 a2, .int .i64 a3, .int .i64 a4, .int .i64 a5]) (.agg [.agg [.agg [.lit (.int .i64 a0), .lit (.int .i64 a1)], .lit (.int .i64 a2), .lit (.int .i64 a3)], .lit (.int .i64 a4), .lit (.int .i64 a5)]) [] :=
  ⟨4, trod_navstate_mk (enc := enc) (W := W) (base := base) (spare := spare) (held := held) 0 w0 w1 w2 w3 w4 w5⟩
set_option maxRecDepth 100000 in
theorem trod_velocity {n : Nat} {c0 c1 : Value} {y : DataW H × List MemPlace} (h : DataW.trod enc Tryz.prog W base spare held n 36 [c0, c1] = some y) :
    ∃ a0 a1 : Int, c0 = .int .i64 a0 ∧ c1 = .int .i64 a1 ∧ y = (.agg [.lit (.int .i64 a0), .lit (.int .i64 a1)], []) ∧ (Lit.int .i64 a0).wf = true ∧ (Lit.int .i64 a1).wf = true := by
  obtain ⟨xs, m, _, hx, _, hlen, hg⟩ := DataW.trod_struct Tryz.underlying36 h
  match xs, hlen with
  | [y0, y1], _ =>
    have h0 : DataW.trod enc Tryz.prog W base spare held m 2 (([c0, c1].drop 0).take (Tryz.prog.cellsOf 2)) = some y0 := hg 0 _ rfl
    rw [cells_of_int64] at h0
    have g0 : DataW.trod enc Tryz.prog W base spare held m 2 [c0] = some y0 := h0
    have h1 : DataW.trod enc Tryz.prog W base spare held m 2 (([c0, c1].drop 1).take (Tryz.prog.cellsOf 2)) = some y1 := hg 1 _ rfl
    rw [cells_of_int64] at h1
    have g1 : DataW.trod enc Tryz.prog W base spare held m 2 [c1] = some y1 := h1
    obtain ⟨a0, e0, r0, w0⟩ := DataW.trod_int Tryz.underlying2 g0
    obtain rfl : c0 = .int .i64 a0 := by simpa using e0
    obtain ⟨a1, e1, r1, w1⟩ := DataW.trod_int Tryz.underlying2 g1
    obtain rfl : c1 = .int .i64 a1 := by simpa using e1
    subst r0 r1
    exact ⟨a0, a1, rfl, rfl, hx, w0, w1⟩
set_option maxRecDepth 100000 in
theorem trod_velocity_mk {a0 a1 : Int} (m : Nat) (w0 : (Lit.int .i64 a0).wf = true) (w1 : (Lit.int .i64 a1).wf = true) :
    DataW.trod enc Tryz.prog W base spare held (m + 2) 36 [.int .i64 a0, .int .i64 a1] = some (.agg [.lit (.int .i64 a0), .lit (.int .i64 a1)], []) := by
  have i0 := trod_int_mk (enc := enc) (w := W) (base := base) (spare := spare) (held := held) m Tryz.underlying2 w0
  have i1 := trod_int_mk (enc := enc) (w := W) (base := base) (spare := spare) (held := held) m Tryz.underlying2 w1
  have := trod_struct_mk (enc := enc) (w := W) (base := base) (spare := spare) (held := held) (n := m + 1) (cs := [.int .i64 a0, .int .i64 a1])
    (xs := [(.lit (.int .i64 a0), []), (.lit (.int .i64 a1), [])]) Tryz.underlying36 (by rw [cells_of_velocity]; rfl)
    (by simp [cells_of_int64, i0, i1])
  simpa using this
set_option maxRecDepth 100000 in
theorem open_velocity {v : Value} {d : DataW H} {p : List MemPlace} (hv : Value.okWide Tryz.prog W .any b0 36 v) (h : DataW.Trod enc Tryz.prog W base spare held 36 v d p) :
    ∃ a0 a1 : Int, v = .agg #[.int .i64 a0, .int .i64 a1] ∧ d = .agg [.lit (.int .i64 a0), .lit (.int .i64 a1)] ∧ p = [] ∧ (Lit.int .i64 a0).wf = true ∧ (Lit.int .i64 a1).wf = true := by
  obtain ⟨cs, rfl, hsz⟩ := okWide_struct Tryz.underlying36 hv
  obtain ⟨l⟩ := cs
  match l, hsz.trans cells_of_velocity with
  | [c0, c1], _ =>
    obtain ⟨fuel, hf⟩ := h
    have hf' : DataW.trod enc Tryz.prog W base spare held fuel 36 [c0, c1] = some (d, p) := hf
    obtain ⟨a0, a1, rfl, rfl, hy, w0, w1⟩ := trod_velocity hf'
    simp only [Prod.mk.injEq] at hy
    exact ⟨a0, a1, rfl, hy.1, hy.2, w0, w1⟩
set_option maxRecDepth 100000 in
theorem shut_velocity {a0 a1 : Int} (w0 : (Lit.int .i64 a0).wf = true) (w1 : (Lit.int .i64 a1).wf = true) :
    DataW.Trod enc Tryz.prog W base spare held 36 (.agg #[.int .i64 a0, .int .i64 a1]) (.agg [.lit (.int .i64 a0), .lit (.int .i64 a1)]) [] :=
  ⟨2, trod_velocity_mk (enc := enc) (W := W) (base := base) (spare := spare) (held := held) 0 w0 w1⟩
instance : Inhabited Pt := ⟨⟨0, 0⟩⟩
set_option maxRecDepth 100000 in
theorem open_points {v : Value} {d : DataW H} {p : List MemPlace} (hv : Value.okWide Tryz.prog W .any b0 135 v) (h : DataW.Trod enc Tryz.prog W 0 (fun _ => true) true 135 v d p) :
    ∃ l : List Pt, PlAt l v W ∧ ∀ i, i < l.length → (-9223372036854775808 ≤ (nthP l i).x ∧ (nthP l i).x ≤ 9223372036854775807) ∧ (-9223372036854775808 ≤ (nthP l i).y ∧ (nthP l i).y ≤ 9223372036854775807) := by
  have hok := hv
  simp only [Value.okWide, Tryz.underlying135, Cell.okWide] at hok
  obtain ⟨fuel, hf⟩ := h
  obtain ⟨ao, len, cap, rfl⟩ := okWide_slice Tryz.underlying135 hv
  rcases Go.Deep.open_slice Tryz.underlying135 hf with ⟨hc, _⟩ | ⟨a, len', cap', m, n, D, Pl, hc, _, hlc, _, hm, _, hi⟩
  · have hc' : [Value.slice ao len cap] = [Value.slice none 0 0] := hc
    exact ⟨[], .inl ⟨List.cons.inj hc' |>.1, rfl⟩, fun i hi => absurd hi (by simp)⟩
  · have hc0 : [Value.slice ao len cap] = [Value.slice (some a) len' cap'] := hc
    have hc' := (List.cons.inj hc0).1
    clear hc0
    cases hc'
    simp only [if_true] at hm
    subst hm
    have hhas : len ≤ m ∧ (m : Int) ≤ IntKind.i64.max ∧ W.has Tryz.prog .any b0 a 23 m := by simpa [Cell.ok, Tryz.underlying135] using hok
    obtain ⟨_, hmax, _, hsp, row, cells, hsh, _⟩ := hhas
    have hlt : a.block < W.heap.size := by
      unfold World.shape? at hsh
      split at hsh
      · rename_i q
        exact (Array.getElem?_eq_some_iff.1 q).1
      · cases hsh
    have key : ∀ i, i < len → ∃ x : Pt, ((-9223372036854775808 ≤ x.x ∧ x.x ≤ 9223372036854775807) ∧ (-9223372036854775808 ≤ x.y ∧ x.y ≤ 9223372036854775807)) ∧ W.cell? ⟨a.block, a.off + i * 2, none⟩ = some (.int .i64 x.x) ∧ W.cell? ⟨a.block, a.off + i * 2 + 1, none⟩ = some (.int .i64 x.y) := by
      intro i hil
      obtain ⟨cs, hcs, ht⟩ := hi i (by omega)
      rw [cells_of_point] at hcs
      obtain ⟨_, hl, hat⟩ := World.cells?_some hcs
      match cs, hl with
      | [c0, c1], _ =>
        obtain ⟨a0, a1, rfl, rfl, _, k0, k1⟩ := trod_point ht
        have ad : ∀ j, (a.add (i * 2)).add j = ⟨a.block, a.off + i * 2 + j, none⟩ := fun j => by
          rw [Go.Deep.add_add]
          unfold Addr.add
          obtain ⟨ab, af, asp⟩ := a
          simp only at hsp
          subst hsp
          split
          · rename_i e
            simp only [Addr.mk.injEq, and_true, true_and]
            omega
          · simp only [Addr.mk.injEq, and_true, true_and]
            omega
        refine ⟨⟨a0, a1⟩, ⟨bd64 k0, bd64 k1⟩, ?_, ?_⟩
        · have := hat 0 (by omega); rw [ad] at this; exact this
        · have := hat 1 (by omega); rw [ad] at this; exact this
    obtain ⟨f, hf⟩ := Go.Deep.choose_lt key
    have hlen : ((List.range len).map f).length = len := by simp
    have hn : ∀ i, i < len → nthP ((List.range len).map f) i = f i := fun i hil => by
      unfold nthP
      rw [List.getD_eq_getElem?_getD, List.getElem?_map, List.getElem?_range hil]
      rfl
    obtain ⟨ab, af, asp⟩ := a
    simp only at hsp
    subst hsp
    refine ⟨(List.range len).map f, .inr ⟨ab, af, m, by rw [hlen], by rw [hlen]; exact hlc, by simp [IntKind.max, IntKind.signed, IntKind.bits] at hmax; omega, hlt, ?_, ?_⟩, fun i hil => ?_⟩
    rotate_left 2
    · rw [hlen] at hil
      rw [hn i hil]
      exact (hf i hil).1
    all_goals
      intro i hil
      rw [hlen] at hil
      rw [hn i hil]
    · exact (hf i hil).2.1
    · exact (hf i hil).2.2
set_option maxRecDepth 100000 in
theorem open_navin {v : Value} {d : DataW H} {p : List MemPlace} (hv : Value.okWide Tryz.prog W .any b0 38 v) (h : DataW.Trod enc Tryz.prog W base spare held 38 v d p) :
    ∃ (a0 : Int) (r : Value) (a2 a3 a4 a5 : Int), v = .agg #[.int .i64 a0, r, .int .i64 a2, .int .i64 a3, .int .i64 a4, .int .i64 a5] := by
  obtain ⟨cs, rfl, hsz⟩ := okWide_struct Tryz.underlying38 hv
  obtain ⟨l⟩ := cs
  match l, hsz.trans cells_of_navin with
  | [c0, c1, c2, c3, c4, c5], _ =>
    obtain ⟨fuel, hf⟩ := h
    have hf' : DataW.trod enc Tryz.prog W base spare held fuel 38 [c0, c1, c2, c3, c4, c5] = some (d, p) := hf
    obtain ⟨xs, m, _, hx, _, hlen, hg⟩ := DataW.trod_struct Tryz.underlying38 hf'
    match xs, hlen with
    | [y0, y1, y2, y3, y4], _ =>
      have h0 : DataW.trod enc Tryz.prog W base spare held m 2 (([c0, c1, c2, c3, c4, c5].drop 0).take (Tryz.prog.cellsOf 2)) = some y0 := hg 0 _ rfl
      rw [cells_of_int64] at h0
      have g0 : DataW.trod enc Tryz.prog W base spare held m 2 [c0] = some y0 := h0
      have h2 : DataW.trod enc Tryz.prog W base spare held m 36 (([c0, c1, c2, c3, c4, c5].drop 2).take (Tryz.prog.cellsOf 36)) = some y2 := hg 2 _ rfl
      rw [cells_of_velocity] at h2
      have g2 : DataW.trod enc Tryz.prog W base spare held m 36 [c2, c3] = some y2 := h2
      have h3 : DataW.trod enc Tryz.prog W base spare held m 2 (([c0, c1, c2, c3, c4, c5].drop 4).take (Tryz.prog.cellsOf 2)) = some y3 := hg 3 _ rfl
      rw [cells_of_int64] at h3
      have g3 : DataW.trod enc Tryz.prog W base spare held m 2 [c4] = some y3 := h3
      have h4 : DataW.trod enc Tryz.prog W base spare held m 2 (([c0, c1, c2, c3, c4, c5].drop 5).take (Tryz.prog.cellsOf 2)) = some y4 := hg 4 _ rfl
      rw [cells_of_int64] at h4
      have g4 : DataW.trod enc Tryz.prog W base spare held m 2 [c5] = some y4 := h4
      obtain ⟨a0, e0, _, _⟩ := DataW.trod_int Tryz.underlying2 g0
      obtain rfl : c0 = .int .i64 a0 := by simpa using e0
      obtain ⟨a2, a3, rfl, rfl, _, _, _⟩ := trod_velocity g2
      obtain ⟨a4, e4, _, _⟩ := DataW.trod_int Tryz.underlying2 g3
      obtain rfl : c4 = .int .i64 a4 := by simpa using e4
      obtain ⟨a5, e5, _, _⟩ := DataW.trod_int Tryz.underlying2 g4
      obtain rfl : c5 = .int .i64 a5 := by simpa using e5
      exact ⟨a0, c1, a2, a3, a4, a5, rfl⟩
end
end Go.Proofs.YtajmjkliblippaaGreatDoor
namespace Go.Proofs.YtajmjkliblippaaGreatDoor
set_option linter.unusedVariables false
open Go.ChangeShapes Go.WideShapes Go.ChangeAt Go.RowKit Go.Joins

/-- a slice that reads as reports -/
def RlG (l : List Rp) (v : Value) (w : World) : Prop := ∃ p cap, v = .slice p l.length cap ∧ (l.length ≤ cap ∧ cap ≤ 9223372036854775807) ∧ ∀ k, k < l.length → ∃ b o, p = some ⟨b, o, none⟩ ∧ RpAt l b o w
theorem RlG.below {l : List Rp} {v : Value} {w w' : World} (h : RlG l v w) (hb : Below w.heap.size w w') : RlG l v w' := by
  obtain ⟨p, cap, e, hc, h⟩ := h
  exact ⟨p, cap, e, hc, fun k hk => by obtain ⟨b, o, e, r⟩ := h k hk; exact ⟨b, o, e, r.below hb⟩⟩
theorem rg_form {l : List Rp} {v : Value} {w : World} (h : RlG l v w) : ∃ p cap, v = .slice p l.length cap := by
  obtain ⟨p, cap, e, _⟩ := h
  exact ⟨p, cap, e⟩
theorem rg_cap {l : List Rp} {p : Option Addr} {n cap : Nat} {w : World} (h : RlG l (.slice p n cap) w) : n = l.length ∧ l.length ≤ cap ∧ cap ≤ 9223372036854775807 := by
  obtain ⟨p', cap', e, hc, _⟩ := h
  injection e with e1 e2 e3
  subst e3
  exact ⟨e2, hc⟩
theorem rg_at {l : List Rp} {p : Option Addr} {cap : Nat} {w : World} (h : RlG l (.slice p l.length cap) w) {k : Nat} (q : k < l.length) : ∃ b o, p = some ⟨b, o, none⟩ ∧ l.length ≤ cap ∧ cap ≤ 9223372036854775807 ∧ RpAt l b o w := by
  obtain ⟨p', cap', e, hc, h⟩ := h
  injection e with e1 e2 e3
  subst e1 e3
  obtain ⟨b, o, e, r⟩ := h k q
  exact ⟨b, o, e, hc.1, hc.2, r⟩
theorem rg_of {l : List Rp} {v : Value} {w : World} (h : RlAt l v w) : RlG l v w := by
  rcases h with ⟨rfl, rfl⟩ | ⟨b, o, cap, rfl, h2, h3, h4⟩
  · exact ⟨none, 0, rfl, ⟨Nat.le_refl _, by omega⟩, fun k hk => absurd hk (by simp)⟩
  · exact ⟨_, _, rfl, ⟨h2, h3⟩, fun k hk => ⟨b, o, rfl, h4⟩⟩
theorem rg_nil (w : World) : RlG [] (.slice none 0 0) w := ⟨none, 0, rfl, ⟨Nat.le_refl _, by omega⟩, fun k hk => absurd hk (by simp)⟩
theorem nthR_take {l : List Rp} {n i : Nat} (hi : i < (l.take n).length) : i < l.length ∧ nthR (l.take n) i = nthR l i := by
  rw [List.length_take] at hi
  refine ⟨by omega, ?_⟩
  unfold nthR
  rw [List.getD_eq_getElem?_getD, List.getD_eq_getElem?_getD, List.getElem?_take, if_pos (by omega)]
theorem rps_take {l : List Rp} {b o : Nat} {w : World} (h : RpAt l b o w) (n : Nat) : RpAt (l.take n) b o w :=
  ⟨h.lt, fun i hi => by rw [(nthR_take hi).2]; exact h.c0 i (nthR_take hi).1, fun i hi => by rw [(nthR_take hi).2]; exact h.c1 i (nthR_take hi).1, fun i hi => by rw [(nthR_take hi).2]; exact h.c2 i (nthR_take hi).1, fun i hi => by rw [(nthR_take hi).2]; exact h.c3 i (nthR_take hi).1, fun i hi => by rw [(nthR_take hi).2]; exact h.c4 i (nthR_take hi).1, fun i hi => by rw [(nthR_take hi).2]; exact h.c5 i (nthR_take hi).1, fun i hi => by rw [(nthR_take hi).2]; exact h.c6 i (nthR_take hi).1, fun i hi => by rw [(nthR_take hi).2]; exact h.c7 i (nthR_take hi).1⟩
theorem rg_take {l : List Rp} {p : Option Addr} {cap : Nat} {w : World} (h : RlG l (.slice p l.length cap) w) {n : Nat} (hn : n ≤ l.length) : RlG (l.take n) (.slice p n cap) w := by
  obtain ⟨p', cap', e, hc, h⟩ := h
  injection e with e1 e2 e3
  subst e1 e3
  have hl : (l.take n).length = n := by rw [List.length_take]; omega
  refine ⟨p, cap, by rw [hl], ⟨by omega, hc.2⟩, fun k hk => ?_⟩
  obtain ⟨b, o, e, r⟩ := h k (by omega)
  exact ⟨b, o, e, rps_take r n⟩
theorem cell_addr {W : World} {a : Addr} {v : Value} (h : W.cell? a = some v) : a.spot = none ∧ a.block < W.heap.size := by
  unfold World.cell? at h
  split at h
  · rename_i q
    split at h
    · cases h
    · rename_i hs
      exact ⟨by simpa using hs, (Array.getElem?_eq_some_iff.1 q).1⟩
  · cases h
theorem add_none {a : Addr} (hsp : a.spot = none) (i j : Nat) : (a.add i).add j = ⟨a.block, a.off + i + j, none⟩ := by
  rw [Go.Deep.add_add]
  unfold Addr.add
  obtain ⟨ab, af, asp⟩ := a
  simp only at hsp
  subst hsp
  split
  · rename_i e
    simp only [Addr.mk.injEq, and_true, true_and]
    omega
  · simp only [Addr.mk.injEq, and_true, true_and]
    omega
theorem max_le2 {n : Nat} (h : n ≤ maxLen) : n ≤ 9223372036854775807 := by unfold maxLen at h; omega
section
variable {H : Type} {enc : TypeId × Value → H} {W : World} {b0 : Nat}

set_option maxRecDepth 100000 in
theorem trod_reportsG {fuel : Nat} {c : Value} {y : DataW H × List MemPlace} (h : DataW.trod enc Tryz.prog W 0 (fun _ => true) true fuel 34 [c] = some y) :
    ∃ l : List Rp, RlG l c W ∧ ∀ i, i < l.length → 0 ≤ (nthR l i).k ∧ (nthR l i).k ≤ 255 := by
  rcases Go.Deep.open_slice Tryz.underlying34 h with ⟨hc, _⟩ | ⟨a, len, cap, m, n, D, Pl, hc, _, hlc, hcm, hm, _, hi⟩
  · obtain rfl : c = .slice none 0 0 := (List.cons.inj hc).1
    exact ⟨[], rg_nil W, fun i hi => absurd hi (by simp)⟩
  · obtain rfl : c = .slice (some a) len cap := (List.cons.inj hc).1
    simp only [if_true] at hm
    subst hm
    have cells : ∀ i, i < len → ∃ cs', cs'.length = 8 ∧ (∀ j (hj : j < 8), W.cell? ((a.add (i * 8)).add j) = cs'[j]?) ∧ DataW.trod enc Tryz.prog W 0 (fun _ => true) true n 49 cs' = some (D i, Pl i) := fun i hil => by
      obtain ⟨cs, hcs, ht⟩ := hi i (by omega)
      rw [cells_of_report] at hcs
      obtain ⟨_, hl, hat⟩ := World.cells?_some hcs
      exact ⟨cs, hl, fun j hj => by rw [hat j (by omega)], ht⟩
    have hsp : 0 < len → a.spot = none ∧ a.block < W.heap.size := fun hl => by
      obtain ⟨cs, hcl, hat, _⟩ := cells 0 hl
      have := hat 0 (by omega)
      rw [List.getElem?_eq_getElem (by omega)] at this
      exact cell_addr this
    have key : ∀ i, i < len → ∃ x : Rp, (0 ≤ x.k ∧ x.k ≤ 255) ∧ (a.spot = none ∧ a.block < W.heap.size) ∧ W.cell? ⟨a.block, a.off + i * 8, none⟩ = some (.int .i64 x.s) ∧ W.cell? ⟨a.block, a.off + i * 8 + 1, none⟩ = some (.int .u8 x.k) ∧ W.cell? ⟨a.block, a.off + i * 8 + 2, none⟩ = some (.int .i64 x.x) ∧ W.cell? ⟨a.block, a.off + i * 8 + 3, none⟩ = some (.int .i64 x.y) ∧ W.cell? ⟨a.block, a.off + i * 8 + 4, none⟩ = some (.int .i64 x.v) ∧ W.cell? ⟨a.block, a.off + i * 8 + 5, none⟩ = some (.int .i64 x.b) ∧ W.cell? ⟨a.block, a.off + i * 8 + 6, none⟩ = some (.int .i64 x.wt) ∧ W.cell? ⟨a.block, a.off + i * 8 + 7, none⟩ = some (.int .i64 x.t) := by
      intro i hil
      have hs := hsp (by omega)
      obtain ⟨cs, hl, hat, ht⟩ := cells i hil
      match cs, hl with
      | [c0, c1, c2, c3, c4, c5, c6, c7], _ =>
        obtain ⟨a0, a1, a2, a3, a4, a5, a6, a7, rfl, rfl, rfl, rfl, rfl, rfl, rfl, rfl, _, _, hk, _⟩ := trod_report ht
        have hk' : 0 ≤ a1 ∧ a1 ≤ 255 := by simp [Lit.wf, IntKind.min, IntKind.max, IntKind.signed, IntKind.bits] at hk; omega
        refine ⟨⟨a0, a1, a2, a3, a4, a5, a6, a7⟩, hk', hs, ?_, ?_, ?_, ?_, ?_, ?_, ?_, ?_⟩
        · have := hat 0 (by omega); rw [add_none hs.1] at this; exact this
        · have := hat 1 (by omega); rw [add_none hs.1] at this; exact this
        · have := hat 2 (by omega); rw [add_none hs.1] at this; exact this
        · have := hat 3 (by omega); rw [add_none hs.1] at this; exact this
        · have := hat 4 (by omega); rw [add_none hs.1] at this; exact this
        · have := hat 5 (by omega); rw [add_none hs.1] at this; exact this
        · have := hat 6 (by omega); rw [add_none hs.1] at this; exact this
        · have := hat 7 (by omega); rw [add_none hs.1] at this; exact this
    obtain ⟨f, hf⟩ := Go.Deep.choose_lt key
    have hlen : ((List.range len).map f).length = len := by simp
    have hn : ∀ i, i < len → nthR ((List.range len).map f) i = f i := fun i hil => by
      unfold nthR
      rw [List.getD_eq_getElem?_getD, List.getElem?_map, List.getElem?_range hil]
      rfl
    refine ⟨(List.range len).map f, ⟨some a, m, by rw [hlen], ⟨by rw [hlen]; exact hlc, max_le2 hcm⟩, fun k hk => ?_⟩, fun i hil => ?_⟩
    · rw [hlen] at hk
      have hs := (hf k hk).2.1
      obtain ⟨ab, af, asp⟩ := a
      simp only at hs
      obtain ⟨rfl, hlt⟩ := hs
      refine ⟨ab, af, rfl, hlt, ?_, ?_, ?_, ?_, ?_, ?_, ?_, ?_⟩
      all_goals
        intro i hil
        rw [hlen] at hil
        rw [hn i hil]
      · exact (hf i hil).2.2.1
      · exact (hf i hil).2.2.2.1
      · exact (hf i hil).2.2.2.2.1
      · exact (hf i hil).2.2.2.2.2.1
      · exact (hf i hil).2.2.2.2.2.2.1
      · exact (hf i hil).2.2.2.2.2.2.2.1
      · exact (hf i hil).2.2.2.2.2.2.2.2.1
      · exact (hf i hil).2.2.2.2.2.2.2.2.2
    · rw [hlen] at hil
      rw [hn i hil]
      exact (hf i hil).1
set_option maxRecDepth 100000 in
theorem trod_navinG {n : Nat} {c0 c1 c2 c3 c4 c5 : Value} {y : DataW H × List MemPlace} (h : DataW.trod enc Tryz.prog W 0 (fun _ => true) true n 38 [c0, c1, c2, c3, c4, c5] = some y) :
    ∃ (a0 a2 a3 a4 a5 : Int) (l : List Rp), c0 = .int .i64 a0 ∧ c2 = .int .i64 a2 ∧ c3 = .int .i64 a3 ∧ c4 = .int .i64 a4 ∧ c5 = .int .i64 a5 ∧ RlG l c1 W ∧ ∀ i, i < l.length → 0 ≤ (nthR l i).k ∧ (nthR l i).k ≤ 255 := by
  obtain ⟨xs, m, _, hx, _, hlen, hg⟩ := DataW.trod_struct Tryz.underlying38 h
  match xs, hlen with
  | [y0, y1, y2, y3, y4], _ =>
    have h0 : DataW.trod enc Tryz.prog W 0 (fun _ => true) true m 2 (([c0, c1, c2, c3, c4, c5].drop 0).take (Tryz.prog.cellsOf 2)) = some y0 := hg 0 _ rfl
    rw [cells_of_int64] at h0
    have g0 : DataW.trod enc Tryz.prog W 0 (fun _ => true) true m 2 [c0] = some y0 := h0
    have h1 : DataW.trod enc Tryz.prog W 0 (fun _ => true) true m 34 (([c0, c1, c2, c3, c4, c5].drop 1).take (Tryz.prog.cellsOf 34)) = some y1 := hg 1 _ rfl
    rw [cells_of_reports] at h1
    have g1 : DataW.trod enc Tryz.prog W 0 (fun _ => true) true m 34 [c1] = some y1 := h1
    have h2 : DataW.trod enc Tryz.prog W 0 (fun _ => true) true m 36 (([c0, c1, c2, c3, c4, c5].drop 2).take (Tryz.prog.cellsOf 36)) = some y2 := hg 2 _ rfl
    rw [cells_of_velocity] at h2
    have g2 : DataW.trod enc Tryz.prog W 0 (fun _ => true) true m 36 [c2, c3] = some y2 := h2
    have h3 : DataW.trod enc Tryz.prog W 0 (fun _ => true) true m 2 (([c0, c1, c2, c3, c4, c5].drop 4).take (Tryz.prog.cellsOf 2)) = some y3 := hg 3 _ rfl
    rw [cells_of_int64] at h3
    have g3 : DataW.trod enc Tryz.prog W 0 (fun _ => true) true m 2 [c4] = some y3 := h3
    have h4 : DataW.trod enc Tryz.prog W 0 (fun _ => true) true m 2 (([c0, c1, c2, c3, c4, c5].drop 5).take (Tryz.prog.cellsOf 2)) = some y4 := hg 4 _ rfl
    rw [cells_of_int64] at h4
    have g4 : DataW.trod enc Tryz.prog W 0 (fun _ => true) true m 2 [c5] = some y4 := h4
    obtain ⟨a0, e0, _, _⟩ := DataW.trod_int Tryz.underlying2 g0
    obtain rfl : c0 = .int .i64 a0 := by simpa using e0
    obtain ⟨l, hl, hk⟩ := trod_reportsG g1
    obtain ⟨a2, a3, rfl, rfl, _, _, _⟩ := trod_velocity g2
    obtain ⟨a4, e4, _, _⟩ := DataW.trod_int Tryz.underlying2 g3
    obtain rfl : c4 = .int .i64 a4 := by simpa using e4
    obtain ⟨a5, e5, _, _⟩ := DataW.trod_int Tryz.underlying2 g4
    obtain rfl : c5 = .int .i64 a5 := by simpa using e5
    exact ⟨a0, a2, a3, a4, a5, l, rfl, rfl, rfl, rfl, rfl, hl, hk⟩
set_option maxRecDepth 100000 in
theorem open_navinG {v : Value} {d : DataW H} {p : List MemPlace} (hv : Value.okWide Tryz.prog W .any b0 38 v) (h : DataW.Trod enc Tryz.prog W 0 (fun _ => true) true 38 v d p) :
    ∃ (a0 : Int) (r : Value) (a2 a3 a4 a5 : Int) (l : List Rp), v = .agg #[.int .i64 a0, r, .int .i64 a2, .int .i64 a3, .int .i64 a4, .int .i64 a5] ∧ RlG l r W ∧ ∀ i, i < l.length → 0 ≤ (nthR l i).k ∧ (nthR l i).k ≤ 255 := by
  obtain ⟨cs, rfl, hsz⟩ := okWide_struct Tryz.underlying38 hv
  obtain ⟨l⟩ := cs
  match l, hsz.trans cells_of_navin with
  | [c0, c1, c2, c3, c4, c5], _ =>
    obtain ⟨fuel, hf⟩ := h
    have hf' : DataW.trod enc Tryz.prog W 0 (fun _ => true) true fuel 38 [c0, c1, c2, c3, c4, c5] = some (d, p) := hf
    obtain ⟨a0, a2, a3, a4, a5, l, rfl, rfl, rfl, rfl, rfl, hl, hk⟩ := trod_navinG hf'
    exact ⟨a0, c1, a2, a3, a4, a5, l, rfl, hl, hk⟩
end
end Go.Proofs.YtajmjkliblippaaGreatDoor
namespace Go.Proofs.YtajmjkliblippaaGreatDoor
set_option linter.unusedVariables false
open Go.RowKit
def NwR (L : List Rp) (tk cx cy x y : Int) (W : World) (v5 v13 : Value) (wr : World) : Prop := ∃ k : Nat, v13 = .int .i64 k ∧ k ≤ L.length ∧ Hid (Below W.heap.size W wr) ∧ Hid (OM W.heap.size wr v5 (rowsT tk cx cy x y (L.take k)))
theorem below_om2 {B B' : Nat} {w : World} {v : Value} {l : List Ms} (hB : B ≤ B') (h : OM B' w v l) : OM B w v l := by
  unfold OM World.ownsRow at *
  obtain ⟨h1, h2⟩ := h
  refine ⟨h1, ?_⟩
  rcases h2 with h2 | ⟨g, cap, cur, e, hb, r⟩
  · exact .inl h2
  · exact .inr ⟨g, cap, cur, e, Nat.le_trans hB hb, r⟩
set_option maxHeartbeats 40000000 in
set_option maxRecDepth 100000 in
theorem nrows_any (L : List Rp) (v : Value) (tk ve vn dr rq cx cy x y : Int) (w : World) (h : RlG L v w) (hK : ∀ i, i < L.length → 0 ≤ (nthR L i).k ∧ (nthR L i).k ≤ 255) (hn : L.length ≤ 20000) :
    Calls Tryz.prog 34 #[.agg #[.int .i64 tk, v, .int .i64 ve, .int .i64 vn, .int .i64 dr, .int .i64 rq], .agg #[.int .i64 cx, .int .i64 cy, .int .i64 x, .int .i64 y]] w fun e w' => (∃ u, e = .returned u ∧ OM w.heap.size w' u (rowsT tk cx cy x y L)) ∧ Below w.heap.size w w' := by
  have KK := Lib.hid hK
  have HN := Lib.hid hn
  clear hK hn
  obtain ⟨p, cap, rfl⟩ := rg_form h
  have H0 := Lib.hid h
  obtain ⟨KI, KB, HB⟩ := ent2 w #[.int .i64 tk, .slice p L.length cap, .int .i64 ve, .int .i64 vn, .int .i64 dr, .int .i64 rq] 38 #[.int .i64 cx, .int .i64 cy, .int .i64 x, .int .i64 y] 25
  go_enter Tryz.func34, Tryz.ntmps34
  clear h
  have KI1 := KI
  have KB1 := KB
  have HB1 := HB
  have hI1 := KI.out.lt
  have hB1 := KB.out.lt
  go_wp2
  have hz1 : ((w.alloc (.cells #[.int .i64 tk, .slice p L.length cap, .int .i64 ve, .int .i64 vn, .int .i64 dr, .int .i64 rq] 38)).alloc (.cells #[.int .i64 cx, .int .i64 cy, .int .i64 x, .int .i64 y] 25)).heap.size = w.heap.size + 1 + 1 := by simp
  generalize (w.alloc (.cells #[.int .i64 tk, .slice p L.length cap, .int .i64 ve, .int .i64 vn, .int .i64 dr, .int .i64 rq] 38)).alloc (.cells #[.int .i64 cx, .int .i64 cy, .int .i64 x, .int .i64 y] 25) = w1 at *
  have h11 := HB.out.size
  go_loopw [5, 13] (NwR L tk cx cy x y w1) (fun _ i _ => L.length - (intOf i).toNat)
  case atStart => exact ⟨0, rfl, Nat.zero_le _, Lib.hid (Below.refl _ _), Lib.hid (World.ownsRow_nil _ _ _ _)⟩
  case round =>
    clear KI KB HB
    obtain ⟨k, rfl, hk, HBR, HO⟩ := hrel
    have KI := Lib.hid (blk_keep KI1.out HBR.out hI1)
    have KB := Lib.hid (blk_keep KB1.out HBR.out hB1)
    have HB := Lib.hid (HB1.out.trans (HBR.out.mono h11))
    by_cases q : k < L.length
    · have q' : decide (k < L.length) = true := by simpa using q
      obtain ⟨b, o, rfl, hcap, hmax, RA⟩ := rg_at (H0.out.below HB.out) q
      have HR := Lib.hid RA
      have c0 := RA.c0 k q
      have c1 := RA.c1 k q
      have c2 := RA.c2 k q
      have c3 := RA.c3 k q
      have c4 := RA.c4 k q
      have c5 := RA.c5 k q
      have c6 := RA.c6 k q
      have c7 := RA.c7 k q
      have clt := RA.lt
      clear RA
      have hkk := KK.out k q
      have SU := Lib.hid (rowsT_succ tk cx cy x y q)
      have LN := Lib.hid (show (rowsT tk cx cy x y (L.take k)).length ≤ 50000 by have h1 := rowsT_len tk cx cy x y (L.take k); have h2 := List.length_take_le k L; have := HN.out; omega)
      obtain ⟨rr, hrr⟩ : ∃ z, nthR L k = z := ⟨_, rfl⟩
      rw [hrr] at c0 c1 c2 c3 c4 c5 c6 c7 hkk SU
      clear hrr
      have RW := Lib.hid fun w => rowsN_any rr cx cy x y w hkk.1 hkk.2
      have N0 := Lib.hid fun h => rowT_other (tk := tk) (cx := cx) (cy := cy) (x := x) (y := y) (r := rr) h
      have N1 := Lib.hid fun h => rowT_bad (tk := tk) (cx := cx) (cy := cy) (x := x) (y := y) (r := rr) h
      have N2 := Lib.hid fun h => rowT_good (tk := tk) (cx := cx) (cy := cy) (x := x) (y := y) (r := rr) h
      have RL := Lib.hid (rowsN_len rr cx cy x y)
      have RG := Lib.hid (rowsN_good (r := rr) (cx := cx) (cy := cy) (bx := x) (b2 := y))
      clear hkk
      generalize rowT tk cx cy x y rr = rt at *
      obtain ⟨R, hR⟩ : ∃ z, rowsN rr cx cy x y = z := ⟨_, rfl⟩
      rw [hR] at RW N1 N2 RL RG
      clear hR
      obtain ⟨pl, en⟩ := R
      simp only at RW N1 N2 RL RG
      go_upto_region 5 with (fail)
      obtain ⟨KG, hb21⟩ := alB wr #[.int .i64 rr.s, .int .u8 rr.k, .int .i64 rr.x, .int .i64 rr.y, .int .i64 rr.v, .int .i64 rr.b, .int .i64 rr.wt, .int .i64 rr.t] 49
      have hnG := HB.out.size
      have nzG_I := KI.out.lt
      have nzG_B := KB.out.lt
      replace HB := hT HB hb21
      replace KI := hK KI hb21
      replace KB := hK KB hb21
      replace HO := Lib.hid (HO.out.below hb21)
      replace HR := Lib.hid (HR.out.below hb21)
      replace HBR := Lib.hid (HBR.out.trans (hb21.mono (Nat.le_trans (Nat.le_refl w1.heap.size) HBR.out.size)))
      clear hb21
      generalize wr.alloc (.cells #[.int .i64 rr.s, .int .u8 rr.k, .int .i64 rr.x, .int .i64 rr.y, .int .i64 rr.v, .int .i64 rr.b, .int .i64 rr.wt, .int .i64 rr.t] 49) = w21 at *
      generalize wr.heap.size = bG at *
      have neG_I : bG ≠ w.heap.size := by omega
      have neG_B : bG ≠ (w.heap.size + 1) := by omega
      clear nzG_I nzG_B
      clear c0 c1 c2 c3 c4 c5 c6 c7 clt
      by_cases ht : rr.t = tk
      · have g : (rr.t != tk) = false := by simpa using ht
        have N3 := Lib.hid (N2.out ht)
        clear N0 N2 ht
        obtain ⟨yI_0, yI_1, yI_2, yI_3, yI_4, yI_5, yI_z⟩ := blk6 KI
        obtain ⟨yB_0, yB_1, yB_2, yB_3, yB_z⟩ := blk4 KB
        obtain ⟨yG_0, yG_1, yG_2, yG_3, yG_4, yG_5, yG_6, yG_7, yG_z⟩ := blk8 KG
        go_wp2_with fail
        refine (RW.out _).mono ?_
        rintro e22 w22 ⟨ur, rfl, hrn, hb22⟩
        replace HB := hT HB hb22
        replace KI := hK KI hb22
        replace KB := hK KB hb22
        replace KG := hK KG hb22
        replace HO := Lib.hid (HO.out.below hb22)
        replace HR := Lib.hid (HR.out.below hb22)
        replace HBR := Lib.hid (HBR.out.trans (hb22.mono (Nat.le_trans (Nat.le_refl w1.heap.size) HBR.out.size)))
        clear yI_0 yI_1 yI_2 yI_3 yI_4 yI_5 yI_z yB_0 yB_1 yB_2 yB_3 yB_z yG_0 yG_1 yG_2 yG_3 yG_4 yG_5 yG_6 yG_7 yG_z
        clear hb22
        clear RW
        by_cases he : en = 0
        · subst he
          have hne := RG.out (by first | rfl | trivial)
          obtain ⟨kk, hur, hk2⟩ : ∃ kk : Nat, ur = .slice (some ⟨kk, 0, none⟩) pl.length pl.length ∧ w22.heap[kk]? = some (.cells (msC pl).toArray 71) := by
            rcases hrn with ⟨e, _⟩ | ⟨kk, _, e, _, h2⟩
            · exact absurd e hne
            · exact ⟨kk, e, h2⟩
          subst hur
          clear hrn RG
          have HK2 := Lib.hid hk2
          clear hk2
          have OL := Lib.hid (World.ownsRow.lt HO.out)
          go_wp2_with (at_builtin; refine Halt.mk ?_)
          unfold Halt
          refine wpList_oml rfl (.tmp 30) (.tmp 31) rfl w1.heap.size u5 (rowsT tk cx cy x y (L.take k)) rfl w22 HO.out kk pl rfl HK2.out (by have := LN.out; have := RL.out; omega) HBR.out.size ?_
          intro u2 w5 ho5 hg5 hat5
          clear hat5 HK2
          have HBR5 := Lib.hid (below_grown HBR.out hg5 HBR.out.size fun k hk => (OL.out k hk).1)
          have HB5 := Lib.hid (below_grown HB.out hg5 HB.out.size fun k hk => Nat.le_trans h11 (OL.out k hk).1)
          clear hg5
          obtain ⟨g5, cap5, hu2⟩ := Go.Joins.ownsRow_form ho5 (show 0 < (rowsT tk cx cy x y (L.take k) ++ pl).length by rw [List.length_append]; have := List.length_pos_iff.2 hne; omega)
          rw [← N3.out] at ho5 hu2
          rw [← SU.out] at ho5 hu2
          have HO6 := Lib.hid ho5
          obtain ⟨N5, hN5⟩ : ∃ N, (rowsT tk cx cy x y (L.take (k + 1))).length = N := ⟨_, rfl⟩
          rw [hN5] at hu2
          clear ho5 hN5
          subst hu2
          clear HO OL hne LN RL SU N1 N3 KG hnG neG_I neG_B HBR HB
          have HBR := HBR5
          go_wp2
          exact ⟨⟨k + 1, by go_num, by omega, HBR, HO6⟩, by simp [intOf]; omega⟩
        · have ge : (en == 0) = false := by simpa using he
          have HO6 := Lib.hid (show OM w1.heap.size w22 u5 (rowsT tk cx cy x y (L.take (k + 1))) from by rw [SU.out, N1.out he, List.append_nil]; exact HO.out)
          clear HO SU N1 N3 RG RL LN
          clear he hrn
          go_wp2
          exact ⟨⟨k + 1, by go_num, by omega, HBR, HO6⟩, by simp [intOf]; omega⟩
      · have g : (rr.t != tk) = true := by simpa using ht
        have HO6 := Lib.hid (show OM w1.heap.size w21 u5 (rowsT tk cx cy x y (L.take (k + 1))) from by rw [SU.out, N0.out ht, List.append_nil]; exact HO.out)
        clear HO SU N0 N1 N2 RG RL LN
        clear ht RW
        obtain ⟨yI_0, yI_1, yI_2, yI_3, yI_4, yI_5, yI_z⟩ := blk6 KI
        obtain ⟨yG_0, yG_1, yG_2, yG_3, yG_4, yG_5, yG_6, yG_7, yG_z⟩ := blk8 KG
        go_wp2
        exact ⟨⟨k + 1, by go_num, by omega, HBR, HO6⟩, by simp [intOf]; omega⟩
    · obtain rfl : k = L.length := by omega
      have q' : decide (L.length < L.length) = false := by simp
      have HO2 := Lib.hid (below_om2 h11 HO.out)
      rw [List.take_length] at HO2
      clear HO
      go_wp2
      go_ret
      exact ⟨⟨_, rfl, HO2.out⟩, HB.out⟩
end Go.Proofs.YtajmjkliblippaaGreatDoor
namespace Go.Proofs.YtajmjkliblippaaGreatDoor
set_option linter.unusedVariables false
open Go.RowKit
set_option maxHeartbeats 8000000 in
set_option maxRecDepth 100000 in
theorem ncheck_any (b : Bx4) (t m : Int) (w : World) : Calls Tryz.prog 14 #[.agg #[.int .i64 b.cx, .int .i64 b.cy, .int .i64 b.x, .int .i64 b.y, .int .i64 t, .int .i64 m]] w fun e w' => e = .returned (.int .i64 (chkS b t m)) ∧ Below w.heap.size w w' := by
  have VA0 := fun w => ival_any b w
  have EV0 : chkS b t m = if bxV b = true then (if 0 ≤ t ∧ t ≤ 1099511627776 ∧ 0 ≤ m ∧ m ≤ 1000 then 0 else 2) else 1 := rfl
  generalize chkS b t m = q at *
  cases hv : bxV b with
  | false =>
    rw [hv, if_neg (by decide)] at EV0
    rw [hv] at VA0
    have VA := Lib.hid VA0
    have EV := Lib.hid EV0
    clear EV0 VA0 hv
    obtain ⟨cx, cy, x, y⟩ := b
    simp only at VA
    obtain ⟨KS, HB⟩ := ent1 w #[.int .i64 cx, .int .i64 cy, .int .i64 x, .int .i64 y, .int .i64 t, .int .i64 m] 27
    go_enter Tryz.func14, Tryz.ntmps14
    go_wp2_with fail
    generalize w.alloc (.cells #[.int .i64 cx, .int .i64 cy, .int .i64 x, .int .i64 y, .int .i64 t, .int .i64 m] 27) = w0 at *
    refine (VA.out _).mono ?_
    rintro e1 w1 ⟨rfl, hb1⟩
    replace HB := hT HB hb1
    replace KS := hK KS hb1
    clear hb1
    go_wp2
    all_goals go_ret
    all_goals exact ⟨ret_int EV.out.symm, HB.out⟩
  | true =>
    rw [hv, if_pos rfl] at EV0
    rw [hv] at VA0
    have VA := Lib.hid VA0
    clear VA0 hv
    obtain ⟨cx, cy, x, y⟩ := b
    simp only at VA
    by_cases h0 : t < 0
    · have g0 : decide (t < 0) = true := by simpa using h0
      have EV := Lib.hid (EV0.trans (if_neg (by omega)))
      clear EV0 h0
      obtain ⟨KS, HB⟩ := ent1 w #[.int .i64 cx, .int .i64 cy, .int .i64 x, .int .i64 y, .int .i64 t, .int .i64 m] 27
      go_enter Tryz.func14, Tryz.ntmps14
      go_wp2_with fail
      generalize w.alloc (.cells #[.int .i64 cx, .int .i64 cy, .int .i64 x, .int .i64 y, .int .i64 t, .int .i64 m] 27) = w0 at *
      refine (VA.out _).mono ?_
      rintro e1 w1 ⟨rfl, hb1⟩
      replace HB := hT HB hb1
      replace KS := hK KS hb1
      clear hb1
      obtain ⟨yS_0, yS_1, yS_2, yS_3, yS_4, yS_5, yS_z⟩ := blk6 KS
      go_wp2
      all_goals go_ret
      all_goals exact ⟨ret_int EV.out.symm, HB.out⟩
    · have g0 : decide (t < 0) = false := by simpa using h0
      by_cases h1 : 1099511627776 < t
      · have g1 : decide (1099511627776 < t) = true := by simpa using h1
        have EV := Lib.hid (EV0.trans (if_neg (by omega)))
        clear EV0 h0 h1
        obtain ⟨KS, HB⟩ := ent1 w #[.int .i64 cx, .int .i64 cy, .int .i64 x, .int .i64 y, .int .i64 t, .int .i64 m] 27
        go_enter Tryz.func14, Tryz.ntmps14
        go_wp2_with fail
        generalize w.alloc (.cells #[.int .i64 cx, .int .i64 cy, .int .i64 x, .int .i64 y, .int .i64 t, .int .i64 m] 27) = w0 at *
        refine (VA.out _).mono ?_
        rintro e1 w1 ⟨rfl, hb1⟩
        replace HB := hT HB hb1
        replace KS := hK KS hb1
        clear hb1
        obtain ⟨yS_0, yS_1, yS_2, yS_3, yS_4, yS_5, yS_z⟩ := blk6 KS
        go_wp2
        all_goals go_ret
        all_goals exact ⟨ret_int EV.out.symm, HB.out⟩
      · have g1 : decide (1099511627776 < t) = false := by simpa using h1
        by_cases h2 : m < 0
        · have g2 : decide (m < 0) = true := by simpa using h2
          have EV := Lib.hid (EV0.trans (if_neg (by omega)))
          clear EV0 h0 h1 h2
          obtain ⟨KS, HB⟩ := ent1 w #[.int .i64 cx, .int .i64 cy, .int .i64 x, .int .i64 y, .int .i64 t, .int .i64 m] 27
          go_enter Tryz.func14, Tryz.ntmps14
          go_wp2_with fail
          generalize w.alloc (.cells #[.int .i64 cx, .int .i64 cy, .int .i64 x, .int .i64 y, .int .i64 t, .int .i64 m] 27) = w0 at *
          refine (VA.out _).mono ?_
          rintro e1 w1 ⟨rfl, hb1⟩
          replace HB := hT HB hb1
          replace KS := hK KS hb1
          clear hb1
          obtain ⟨yS_0, yS_1, yS_2, yS_3, yS_4, yS_5, yS_z⟩ := blk6 KS
          go_wp2
          all_goals go_ret
          all_goals exact ⟨ret_int EV.out.symm, HB.out⟩
        · have g2 : decide (m < 0) = false := by simpa using h2
          by_cases h3 : 1000 < m
          · have g3 : decide (1000 < m) = true := by simpa using h3
            have EV := Lib.hid (EV0.trans (if_neg (by omega)))
            clear EV0 h0 h1 h2 h3
            obtain ⟨KS, HB⟩ := ent1 w #[.int .i64 cx, .int .i64 cy, .int .i64 x, .int .i64 y, .int .i64 t, .int .i64 m] 27
            go_enter Tryz.func14, Tryz.ntmps14
            go_wp2_with fail
            generalize w.alloc (.cells #[.int .i64 cx, .int .i64 cy, .int .i64 x, .int .i64 y, .int .i64 t, .int .i64 m] 27) = w0 at *
            refine (VA.out _).mono ?_
            rintro e1 w1 ⟨rfl, hb1⟩
            replace HB := hT HB hb1
            replace KS := hK KS hb1
            clear hb1
            obtain ⟨yS_0, yS_1, yS_2, yS_3, yS_4, yS_5, yS_z⟩ := blk6 KS
            go_wp2
            all_goals go_ret
            all_goals exact ⟨ret_int EV.out.symm, HB.out⟩
          · have g3 : decide (1000 < m) = false := by simpa using h3
            have EV := Lib.hid (EV0.trans (if_pos (by omega)))
            clear EV0 h0 h1 h2 h3
            obtain ⟨KS, HB⟩ := ent1 w #[.int .i64 cx, .int .i64 cy, .int .i64 x, .int .i64 y, .int .i64 t, .int .i64 m] 27
            go_enter Tryz.func14, Tryz.ntmps14
            go_wp2_with fail
            generalize w.alloc (.cells #[.int .i64 cx, .int .i64 cy, .int .i64 x, .int .i64 y, .int .i64 t, .int .i64 m] 27) = w0 at *
            refine (VA.out _).mono ?_
            rintro e1 w1 ⟨rfl, hb1⟩
            replace HB := hT HB hb1
            replace KS := hK KS hb1
            clear hb1
            obtain ⟨yS_0, yS_1, yS_2, yS_3, yS_4, yS_5, yS_z⟩ := blk6 KS
            go_wp2
            all_goals go_ret
            all_goals exact ⟨ret_int EV.out.symm, HB.out⟩
def useB (lx ly rq : Int) : Bool := decide (lx ≤ rq) && decide (ly ≤ rq)
set_option maxHeartbeats 8000000 in
set_option maxRecDepth 100000 in
theorem usable_any (px py lx ly ex rq : Int) (us : Bool) (w : World) : Calls Tryz.prog 22 #[.agg #[.int .i64 px, .int .i64 py, .int .i64 lx, .int .i64 ly, .bool us, .int .i64 ex], .int .i64 rq] w fun e w' => e = .returned (.bool (useB lx ly rq)) ∧ Below w.heap.size w w' := by
  have EV0 : useB lx ly rq = (decide (lx ≤ rq) && decide (ly ≤ rq)) := rfl
  generalize useB lx ly rq = q at *
  cases h : decide (lx ≤ rq) <;> cases h2 : decide (ly ≤ rq) <;> rw [h, h2] at EV0 <;> simp at EV0
  all_goals
    have EV := Lib.hid EV0
    clear EV0
    obtain ⟨KE, HB⟩ := ent1 w #[.int .i64 px, .int .i64 py, .int .i64 lx, .int .i64 ly, .bool us, .int .i64 ex] 41
    go_enter Tryz.func22, Tryz.ntmps22
    go_wp2
    go_ret
    exact ⟨ret_b EV.out.symm, HB.out⟩
end Go.Proofs.YtajmjkliblippaaGreatDoor
namespace Go.Proofs.YtajmjkliblippaaGreatDoor
open Go Go.Sort Go.RowKit

section
variable {P : Program} {ops : Array Oper} {md : Region.Mode} {C : World → Prop}

/-- a value, and the very world -/
def calmUpon (w : World) (v : Value) : Result Next → Prop
  | .ok (.value u) w' => w' = w ∧ u = v
  | _ => False
/-- in this state, in every world of the class, the operation yields v and leaves the world as it is -/
def Calm (P : Program) (ops : Array Oper) (C : World → Prop) (o : Oper) (v : Value) (a : Act) : Prop :=
  (Region.wanted o (yielded ops a.tmps) = true ∧ ∀ w, C w → calmUpon w v ((execOp a.eval o).run P w)) ∨ (Region.wanted o (yielded ops a.tmps) = false ∧ v = undef)
/-- the walk of such operations, in the order of a list -/
def wpCalm (P : Program) (ops : Array Oper) (C : World → Prop) (Q : Act → Prop) : List Oper → Act → Prop
  | [], a => Q a
  | o :: rest, a => if Region.wanted o (yielded ops a.tmps) then ∃ v, (∀ w, C w → calmUpon w v ((execOp a.eval o).run P w)) ∧ wpCalm P ops C Q rest (a.put o.dst v) else wpCalm P ops C Q rest (a.put o.dst undef)
theorem wpCalm_nil {Q : Act → Prop} {a : Act} (h : Q a) : wpCalm P ops C Q [] a := h
theorem wpCalm_step {Q : Act → Prop} {a : Act} {o : Oper} {rest : List Oper}
    (h : ∀ K : Act → Prop, (∀ a, wpCalm P ops C Q rest a → K a) → if Region.wanted o (yielded ops a.tmps) then ∃ v, (∀ w, C w → calmUpon w v ((execOp a.eval o).run P w)) ∧ K (a.put o.dst v) else K (a.put o.dst undef)) : wpCalm P ops C Q (o :: rest) a :=
  h _ (fun _ h => h)
theorem calm_intro {w : World} {u : Value} : calmUpon w u (.ok (.value u) w) := ⟨rfl, rfl⟩

theorem Calm.of_same {o : Oper} {v : Value} {a a' : Act} (hy : Calm P ops C o v a) (he : execOp a'.eval o = execOp a.eval o)
    (hw : Region.wanted o (yielded ops a'.tmps) = Region.wanted o (yielded ops a.tmps)) : Calm P ops C o v a' := by
  unfold Calm at *
  rw [he, hw]
  exact hy
theorem Calm.wpOp {Q : Exit → Act → World → Prop} {i : Nat} {o : Oper} {v : Value} {a : Act} {w : World} {K : Act → World → Prop} (hi : ops[i]? = some o) (hy : Calm P ops C o v a) (hC : C w) (h : K (a.put o.dst v) w) : wpOp P ops Q i K a w := by
  unfold Go.wpOp
  simp only [hi]
  rcases hy with ⟨hw, hv⟩ | ⟨hw, rfl⟩
  · simp only [hw, if_true]
    refine .inl ?_
    have h3 := hv w hC
    unfold Oper.wp
    generalize (execOp a.eval o).run P w = r at *
    cases r with
    | ok n w' =>
      cases n <;> simp only [calmUpon] at h3
      case value u =>
        obtain ⟨e1, e2⟩ := h3
        subst e1 e2
        exact h
    | halt x w' => simp only [calmUpon] at h3
  · simp only [hw, Bool.false_eq_true, if_false]
    exact h

/-- a way out that is the normal one alone -/
def OnlyNormal (Q : Exit → Act → World → Prop) : Prop := ∀ e a w, Q e a w → e = .normal
theorem wpOp_put {Q : Exit → Act → World → Prop} (hQ : OnlyNormal Q) {j : Nat} {oi oj : Oper} {v : Value} (hj : ops[j]? = some oj) (hap : oi.apart ops oj = true)
    (hsi : ∀ cs b, oi.op ≠ .select cs b) (hsj : ∀ cs b, oj.op ≠ .select cs b) {K : Act → World → Prop} {a : Act} {w : World}
    (hy : Calm P ops C oi v a) (h : wpOp P ops Q j K (a.put oi.dst v) w) : wpOp P ops Q j (fun a' w' => Calm P ops C oi v a' ∧ K (a'.put oi.dst v) w') a w := by
  obtain ⟨h1, h2, h3⟩ := Oper.apart_spec hap
  have keep : ∀ (a : Act), Calm P ops C oi v a → ∀ u, Calm P ops C oi v (a.put oj.dst u) := fun a hy u =>
    hy.of_same (execOp_put oi hsi a oj.dst u h3) (wanted_put oi a oj.dst u h3)
  unfold wpOp at *
  simp only [hj] at *
  rw [wanted_put oj a oi.dst v h1] at h
  split
  · rename_i hw
    simp only [hw, if_true] at h
    rcases h with h | ⟨_, a9, w9, h9⟩
    · refine .inl ?_
      unfold Oper.wp at *
      rw [execOp_put oj hsj a oi.dst v h1] at h
      generalize (execOp a.eval oj).run P w = r at *
      cases r with
      | ok n w' =>
        cases n <;> simp only [Oper.upon] at h ⊢
        case value u => exact ⟨keep a hy u, by rw [← Act.put_comm a v u h2]; exact h⟩
        case skip => exact ⟨keep a hy _, by rw [← Act.put_comm a v undef h2]; exact h⟩
        case defer d =>
          have e3 : ({ a.put oi.dst v with defers := d :: (a.put oi.dst v).defers } : Act) = ({ a with defers := d :: a.defers } : Act).put oi.dst v := by cases oi.dst <;> rfl
          have e4 : ({ a with defers := d :: a.defers } : Act).put oj.dst undef = { a.put oj.dst undef with defers := d :: a.defers } := by cases oj.dst <;> rfl
          rw [e3] at h
          refine ⟨?_, by rw [← Act.put_comm _ v undef h2]; exact h⟩
          rw [e4]
          exact (keep a hy undef).of_same rfl rfl
        case enter f args =>
          refine Calls.mono h (fun e w'' he => ?_)
          cases e with
          | returned u => exact ⟨keep a hy u, by rw [← Act.put_comm a v u h2]; exact he⟩
          | panicked chain => exact absurd (hQ _ _ _ he) (by simp)
          | outgrown => obtain ⟨_, _, hx⟩ := he; exact absurd (hQ _ _ _ hx) (by simp)
        case row rw args => exact Rows.mono h (fun u w'' he => ⟨keep a hy u, by rw [← Act.put_comm a v u h2]; exact he⟩)
      | halt x w' =>
        cases x <;> simp only [Oper.upon] at h ⊢
        exact absurd (hQ _ _ _ h) (by simp)
    · exact absurd (hQ _ _ _ h9) (by simp)
  · rename_i hw
    simp only [hw] at h
    exact ⟨keep a hy _, by rw [← Act.put_comm a v undef h2]; exact h⟩

/-- whatever order is picked from here on, the class kept at every step -/
def wpAnyC (P : Program) (md : Region.Mode) (ops : Array Oper) (Q : Exit → Act → World → Prop) (C : World → Prop) : Nat → Array Bool → Act → World → Prop
  | 0, listed, a, w => C w ∧ Region.ready md ops listed = [] ∧ Q .normal a w
  | f + 1, listed, a, w => C w ∧ (Region.ready md ops listed = [] → Q .normal a w) ∧ ∀ i ∈ Region.ready md ops listed, wpOp P ops Q i (wpAnyC P md ops Q C f (listed.setIfInBounds i true)) a w
theorem wpAnyC_in {Q : Exit → Act → World → Prop} {f : Nat} {listed : Array Bool} {a : Act} {w : World} (h : wpAnyC P md ops Q C f listed a w) : C w := by
  cases f with
  | zero => exact h.1
  | succ f => exact h.1
theorem wpAny_of_C {Q : Exit → Act → World → Prop} : ∀ (f : Nat) (listed : Array Bool) (a : Act) (w : World), wpAnyC P md ops Q C f listed a w → wpAny P md ops Q f listed a w
  | 0, _, _, _, h => h.2
  | f + 1, _, _, _, h => ⟨h.2.1, fun i hi => wpOp_mono (fun a w h => wpAny_of_C f _ a w h) (h.2.2 i hi)⟩

theorem wpAnyC_first {Q : Exit → Act → World → Prop} (hQ : OnlyNormal Q) {i : Nat} {oi : Oper} {v : Value} (hi : ops[i]? = some oi) (hsel : ∀ (j : Nat) (o : Oper) cs b, ops[j]? = some o → o.op ≠ .select cs b) :
    ∀ (f : Nat) (listed : Array Bool) (a : Act) (w : World),
      (∀ j oj, ops[j]? = some oj → j ≠ i → listed.getD j true = false → (∀ e ∈ oj.after, Region.binds md e = true → e.on ≠ i) → oi.apart ops oj = true) →
      i ∈ Region.ready md ops listed → Calm P ops C oi v a →
      wpAnyC P md ops Q C f (listed.setIfInBounds i true) (a.put oi.dst v) w → wpAnyC P md ops Q C (f + 1) listed a w := by
  intro f
  induction f with
  | zero =>
    intro listed a w _ hr hy H
    refine ⟨H.1, fun h => (by rw [h] at hr; cases hr), fun j hj => ?_⟩
    by_cases hji : j = i
    · subst hji; exact hy.wpOp hi H.1 H
    · have := ready_mono hj hji
      rw [H.2.1] at this
      cases this
  | succ f ih =>
    intro listed a w hfree hr hy H
    refine ⟨H.1, fun h => (by rw [h] at hr; cases hr), fun j hj => ?_⟩
    by_cases hji : j = i
    · subst hji; exact hy.wpOp hi H.1 H
    · have h1 := H.2.2 j (ready_mono hj hji)
      obtain ⟨hjun, oj, hoj, hall⟩ := mem_ready.1 hj
      have hnot : ∀ e ∈ oj.after, Region.binds md e = true → e.on ≠ i := fun e he hb heq => by
        have h1 := hall e he hb
        have h0 := (mem_ready.1 hr).1
        rw [heq] at h1
        rcases Nat.lt_or_ge i listed.size with h' | h'
        · simp [h'] at h0 h1; rw [h0] at h1; cases h1
        · simp [Array.getElem?_eq_none h'] at h1
      have h2 := wpOp_put hQ hoj (hfree j oj hoj hji hjun hnot) (fun cs b => hsel i oi cs b hi) (fun cs b => hsel j oj cs b hoj) hy h1
      have hfree' : ∀ k ok, ops[k]? = some ok → k ≠ i → (listed.setIfInBounds j true).getD k true = false →
          (∀ e ∈ ok.after, Region.binds md e = true → e.on ≠ i) → oi.apart ops ok = true := fun k ok hk hki hun hno => by
        refine hfree k ok hk hki ?_ hno
        by_cases hjk : j = k
        · subst hjk; exact hjun
        · rw [getD_set_ne true hjk] at hun; exact hun
      refine wpOp_mono (fun a' w' h3 => ih (listed.setIfInBounds j true) a' w' hfree' (ready_mono hr (Ne.symm hji)) h3.1 ?_) h2
      rw [Array.setIfInBounds_comm _ _ hji]
      exact h3.2

/-- some operations of a list -/
def pick (l : List Oper) (is : List Nat) : List Oper := is.filterMap fun i => l[i]?
def fin (is : List Nat) (listed : Array Bool) : Array Bool := is.foldl (fun r i => r.setIfInBounds i true) listed
def headsB (md : Region.Mode) (ops : Array Oper) : List Nat → Array Bool → Bool
  | [], _ => true
  | i :: is, listed => (Region.ready md ops listed).contains i && Region.free md ops listed i && headsB md ops is (listed.setIfInBounds i true)
theorem wpAnyC_heads {l : List Oper} {Q : Exit → Act → World → Prop} (hQ : OnlyNormal Q) (hsel : Region.noSelect l.toArray = true) : ∀ (is : List Nat) (f : Nat) (listed : Array Bool) (a : Act) (w : World),
    headsB md l.toArray is listed = true → wpCalm P l.toArray C (fun a' => wpAnyC P md l.toArray Q C f (fin is listed) a' w) (pick l is) a → wpAnyC P md l.toArray Q C (f + is.length) listed a w
  | [], f, listed, a, w, _, h => h
  | i :: is, f, listed, a, w, hB, h => by
    simp only [headsB, Bool.and_eq_true] at hB
    obtain ⟨⟨hr, hf⟩, hB'⟩ := hB
    have hr' : i ∈ Region.ready md l.toArray listed := by simpa using hr
    obtain ⟨_, o, ho, _⟩ := mem_ready.1 hr'
    have ho' : l[i]? = some o := by simpa using ho
    have hp : pick l (i :: is) = o :: pick l is := by unfold pick; rw [List.filterMap_cons, ho']
    rw [hp] at h
    show wpAnyC P md l.toArray Q C ((f + is.length) + 1) listed a w
    unfold wpCalm at h
    by_cases hw : Region.wanted o (yielded l.toArray a.tmps) = true
    · rw [if_pos hw] at h
      obtain ⟨v, h1, h2⟩ := h
      exact wpAnyC_first hQ ho (Region.noSelect_spec hsel) _ listed a w (Region.free_spec ho hf) hr' (.inl ⟨hw, h1⟩) (wpAnyC_heads hQ hsel is f _ _ w hB' h2)
    · rw [if_neg hw] at h
      exact wpAnyC_first hQ ho (Region.noSelect_spec hsel) _ listed a w (Region.free_spec ho hf) hr' (.inr ⟨by simpa using hw, rfl⟩) (wpAnyC_heads hQ hsel is f _ _ w hB' h)

/-- behind one operation -/
def Then1 (K : Act → World → Prop) : Exit → Act → World → Prop
  | .normal, a, w => K a w
  | _, _, _ => False
theorem Then1.mk {K : Act → World → Prop} {a : Act} {w : World} (h : K a w) : Then1 K .normal a w := h
theorem wpOp_of_list {Q : Exit → Act → World → Prop} {i : Nat} {o : Oper} {K : Act → World → Prop} {a : Act} {w : World} (hi : ops[i]? = some o) (h : wpList P ops (Then1 K) [o] a w) : wpOp P ops Q i K a w := by
  unfold wpOp
  simp only [hi]
  unfold wpList at h
  split
  · rename_i q
    rw [if_pos q] at h
    rcases h with h | ⟨_, a9, w9, h9⟩
    · refine .inl ?_
      unfold Oper.wp at *
      generalize (execOp a.eval o).run P w = r at *
      cases r with
      | ok n w' =>
        cases n <;> first | exact h | skip
        case enter f args => exact Calls.mono h (fun e w'' he => by cases e <;> first | exact he | exact (he : False).elim | (obtain ⟨_, _, hx⟩ := he; exact (hx : False).elim))
      | halt x w' => cases x <;> first | exact (h : False).elim | exact h
    · exact (h9 : False).elim
  · rename_i q
    rw [if_neg q] at h
    exact h
/-- one of several operations comes up -/
theorem wpAnyC_node {Q : Exit → Act → World → Prop} {f : Nat} {listed : Array Bool} {a : Act} {w : World} {i : Nat} {rs : List Nat} (hr : Region.ready md ops listed = i :: rs) (hC : C w)
    (h : ∀ j ∈ i :: rs, wpOp P ops Q j (wpAnyC P md ops Q C f (listed.setIfInBounds j true)) a w) : wpAnyC P md ops Q C (f + 1) listed a w :=
  ⟨hC, fun h0 => (by rw [hr] at h0; cases h0), fun j hj => h j (by rw [hr] at hj; exact hj)⟩
theorem all1 {p : Nat → Prop} {i : Nat} (h : p i) : ∀ j ∈ [i], p j := fun j hj => by rw [List.mem_singleton.1 hj]; exact h
theorem all2 {p : Nat → Prop} {i k : Nat} (h : p i) (h2 : p k) : ∀ j ∈ [i, k], p j := fun j hj => by
  rcases List.mem_cons.1 hj with rfl | hj
  · exact h
  · rw [List.mem_singleton.1 hj]; exact h2
theorem all3 {p : Nat → Prop} {i k m : Nat} (h : p i) (h2 : p k) (h3 : p m) : ∀ j ∈ [i, k, m], p j := fun j hj => by
  rcases List.mem_cons.1 hj with rfl | hj
  · exact h
  · exact all2 h2 h3 j hj
theorem wpAnyC_leaf {Q : Exit → Act → World → Prop} {f : Nat} {listed : Array Bool} {a : Act} {w : World} (hr : Region.ready md ops listed = []) (hC : C w) (h : Q .normal a w) : wpAnyC P md ops Q C f listed a w := by
  cases f with
  | zero => exact ⟨hC, hr, h⟩
  | succ f => exact ⟨hC, fun _ => h, fun i hi => (by rw [hr] at hi; cases hi)⟩
/-- the region -/
theorem wp_region_calm {id : Nat} {Q : Exit → Act → World → Prop} {a : Act} {w : World} {l : List Oper} (C : World → Prop) (hm : P.follows .mixedOrders = true) (h : wpAnyC P .any l.toArray Q C l.toArray.size (Array.replicate l.toArray.size false) a w.drew) : (Code.region id l.toArray true).wp P Q a w :=
  wp_region_any hm (wpAny_of_C _ _ _ _ h)
/-- the normal way out alone -/
def OneOut (R : Act → World → Prop) : Exit → Act → World → Prop
  | .normal, a, w => R a w
  | _, _, _ => False
theorem OneOut.mk {R : Act → World → Prop} {a : Act} {w : World} (h : R a w) : OneOut R .normal a w := h
theorem oneOut_normal {R : Act → World → Prop} : OnlyNormal (OneOut R) := fun e a w h => by
  cases e <;> first | rfl | exact (h : False).elim
theorem OneOut.imp {R : Act → World → Prop} {Q : Exit → Act → World → Prop} (k : ∀ a w, R a w → Q .normal a w) : ∀ (e : Exit) (a : Act) (w : World), OneOut R e a w → Q e a w := fun e a w h => by
  cases e <;> first | exact k a w h | exact (h : False).elim
/-- all ways through a region, joined: their states are alike but for the numbers of one or two new blocks -/
theorem wp_one {P : Program} {c : Code} {Q : Exit → Act → World → Prop} {a : Act} {w : World} {F : Nat → Act} {R : Nat → World → Prop} (h : c.wp P (OneOut fun a' w' => ∃ b, a' = F b ∧ R b w') a w) (k : ∀ b w', R b w' → Q .normal (F b) w') : c.wp P Q a w :=
  Code.wp_mono (OneOut.imp fun a' w' ⟨b, ha, hr⟩ => by subst ha; exact k b w' hr) h
theorem wp_two {P : Program} {c : Code} {Q : Exit → Act → World → Prop} {a : Act} {w : World} {F : Nat → Nat → Act} {R : Nat → Nat → World → Prop} (h : c.wp P (OneOut fun a' w' => ∃ b d, a' = F b d ∧ R b d w') a w) (k : ∀ b d w', R b d w' → Q .normal (F b d) w') : c.wp P Q a w :=
  Code.wp_mono (OneOut.imp fun a' w' ⟨b, d, ha, hr⟩ => by subst ha; exact k b d w' hr) h
end
end Go.Proofs.YtajmjkliblippaaGreatDoor
