/-
  Walks and laws of the layers below, gathered from several texts.
-/
import Derived.Lib.SmallJoins
import Derived.Deep.Onto
import Derived.Test.YtidelghgjibndaaGreatShelf
import Derived.Test.YtidelghgjibndaaGreatFixPlain
import Derived.WalkKit
import Derived.WalkSpells
import Derived.Lib.Hide
import Derived.Deep.QuietTactic
import Derived.BigQuiet
import Derived.Laws.Bits64
import Derived.IntWalk
import Derived.Test.YtidelghgjibndaaGreatProg
import Derived.Test.YtidelghgjibndaaGreatRefDivPlain
import Derived.Lib.Mul64
import Derived.Laws.Bits64b
import Derived.Lib.Zigzag
import Derived.Laws.OwnMore
import Derived.Lib.SlicesCompact
import Derived.Lib.RowBridge
import Derived.Sort.OwnSortedInts
import Derived.Deep.RegionHeld3
import Derived.Lib.QuietBelow
import Derived.Test.YtidelghgjibndaaGreatTD6
namespace Go.Proofs.YtidelghgjibndaaGreat.S44
set_option linter.unusedVariables false
open Go.RowKit
/-- an edge's copy in a block of its own -/
structure EdgeAt (m : Ms) (c : Int) (be : Nat) (W : World) : Prop where
  lt : be < W.heap.size
  c0 : W.cell? ⟨be, 0, none⟩ = some (.int .i64 m.a)
  c1 : W.cell? ⟨be, 1, none⟩ = some (.int .i64 m.b)
  c2 : W.cell? ⟨be, 2, none⟩ = some (.int .i64 c)
theorem edge_new (m : Ms) (c : Int) (w : World) (t : TypeId) : EdgeAt m c w.heap.size (w.alloc (.cells #[.int .i64 m.a, .int .i64 m.b, .int .i64 c] t)) :=
  ⟨by simp, by rw [World.cell?_alloc_at _ _ _ _ rfl]; rfl, by rw [World.cell?_alloc_at _ _ _ _ rfl]; rfl, by rw [World.cell?_alloc_at _ _ _ _ rfl]; rfl⟩
theorem EdgeAt.same {m : Ms} {c : Int} {be : Nat} {W w' : World} (h : EdgeAt m c be W) (hk : w'.heap[be]? = W.heap[be]?) (hs : W.heap.size ≤ w'.heap.size) : EdgeAt m c be w' :=
  ⟨Nat.lt_of_lt_of_le h.lt hs, (World.cell?_of_block (w := W) (a := ⟨be, 0, none⟩) hk).trans h.c0, (World.cell?_of_block (w := W) (a := ⟨be, 1, none⟩) hk).trans h.c1, (World.cell?_of_block (w := W) (a := ⟨be, 2, none⟩) hk).trans h.c2⟩
theorem EdgeAt.below {m : Ms} {c : Int} {be : Nat} {W w' : World} (h : EdgeAt m c be W) (hb : Below W.heap.size W w') : EdgeAt m c be w' := h.same (hb.block be h.lt) hb.size
structure CrAt (p : Cr) (bp : Nat) (W : World) : Prop where
  lt : bp < W.heap.size
  c0 : W.cell? ⟨bp, 0, none⟩ = some (.int .i64 p.x)
  c1 : W.cell? ⟨bp, 1, none⟩ = some (.int .i64 p.y)
  c2 : W.cell? ⟨bp, 2, none⟩ = some (.int .i64 p.d)
theorem cr_new (p : Cr) (w : World) (t : TypeId) : CrAt p w.heap.size (w.alloc (.cells #[.int .i64 p.x, .int .i64 p.y, .int .i64 p.d] t)) :=
  ⟨by simp, by rw [World.cell?_alloc_at _ _ _ _ rfl]; rfl, by rw [World.cell?_alloc_at _ _ _ _ rfl]; rfl, by rw [World.cell?_alloc_at _ _ _ _ rfl]; rfl⟩
theorem CrAt.below {p : Cr} {be : Nat} {W w' : World} (h : CrAt p be W) (hb : Below W.heap.size W w') : CrAt p be w' :=
  ⟨Nat.lt_of_lt_of_le h.lt hb.size, (hb.cell (p := ⟨be, 0, none⟩) h.lt).trans h.c0, (hb.cell (p := ⟨be, 1, none⟩) h.lt).trans h.c1, (hb.cell (p := ⟨be, 2, none⟩) h.lt).trans h.c2⟩
theorem own_below {bo : Nat} {W w' : World} {k : Nat} (hl : bo < W.heap.size) (hb : Below W.heap.size W w') (hn : ¬ OwnC bo W k) : ¬ OwnC bo w' k := fun h => hn (by
  rcases h with h | ⟨u, h1, h2⟩
  · exact .inl h
  · exact .inr ⟨u, by rw [← h1]; exact (hb.cell (p := ⟨bo, 0, none⟩) hl).symm, h2⟩)
/-- the state in the closure's loops -/
structure CorSt (w W : World) (bl bo : Nat) (v : Value) (n : Ms) (bn : Nat) (C : List Cr) (wr : World) : Prop where
  ex : ∃ u, CorI w bl bo v u C wr
  kx : KeepX (OwnC bo) W wr
  cp : CopyAt n bn wr
  nn : ¬ OwnC bo wr bn
theorem CorSt.keep {w W : World} {bl bo : Nat} {v : Value} {n : Ms} {bn : Nat} {C : List Cr} {wr w' : World} (h : CorSt w W bl bo v n bn C wr) (hb : Below wr.heap.size wr w') : CorSt w W bl bo v n bn C w' := by
  obtain ⟨u, hu⟩ := h.ex
  exact ⟨⟨u, hu.keep hb⟩, h.kx.trans (keepx_below hu.lt hb), h.cp.below hb, own_below hu.lt hb h.nn⟩
def Q1 (w W : World) (bl bo : Nat) (v : Value) (l : List Ms) (m n : Ms) (bn : Nat) (C : List Cr) (s : Value) (wr : World) : Prop := ∃ i : Nat, s = .int .i64 i ∧ i ≤ 2 ∧ Hid (CorSt w W bl bo v n bn (C ++ crn l m n (2 * i)) wr)
def Q2 (w W : World) (bl bo : Nat) (v : Value) (l : List Ms) (m n : Ms) (bn : Nat) (C : List Cr) (i be : Nat) (s : Value) (wr : World) : Prop := ∃ j : Nat, s = .int .i64 j ∧ j ≤ 2 ∧ Hid (CorSt w W bl bo v n bn (C ++ crn l m n (2 * i + j)) wr) ∧ Hid (EdgeAt m (edgeC m (tag2 i)) be wr) ∧ Hid (¬ OwnC bo wr be)
def CorPost (w W : World) (bl bo : Nat) (v : Value) (l : List Ms) (m n : Ms) (C : List Cr) (e : Ending) (w' : World) : Prop := e = .returned (.tuple #[]) ∧ (∃ u, CorI w bl bo v u (C ++ crn l m n 4) w') ∧ KeepX (OwnC bo) W w'
theorem crn_at (l : List Ms) (m n : Ms) {i j : Nat} (hj : j < 2) : crn l m n (2 * i + (j + 1)) = crn l m n (2 * i + j) ++ pickC l m n (tag2 i) (tag2 j) := by
  rw [← Nat.add_assoc, crn_succ, show (2 * i + j) / 2 = i by omega, show (2 * i + j) % 2 = j by omega]
set_option maxHeartbeats 16000000 in
set_option maxRecDepth 100000 in
theorem cor_fn (l : List Ms) (v u : Value) (m n : Ms) (w W : World) (bl bo : Nat) (C : List Cr) (hI : CorI w bl bo v u C W) (hlb : bl ≠ bo) (hV : LstAt l v w) (he : ∀ m ∈ l, EdM m) (hm : EdM m) (hn : EdM n) (hC : C.length ≤ 2000) :
    Calls Tryz.prog 67 #[.agg #[.int .i64 m.s, .int .i64 m.a, .int .i64 m.b, .int .i64 m.z, .int .i64 m.d, .int .i64 m.w], .agg #[.int .i64 n.s, .int .i64 n.a, .int .i64 n.b, .int .i64 n.z, .int .i64 n.d, .int .i64 n.w], .pointer (some ⟨bl, 0, none⟩), .pointer (some ⟨bo, 0, none⟩)] W
      (CorPost w W bl bo v l m n C) := by
  have HI := Lib.hid hI
  have HLB := Lib.hid hlb
  have HV := Lib.hid hV
  have HEd := Lib.hid he
  have HM := Lib.hid hm
  have HN := Lib.hid hn
  have CN := Lib.hid (copy_new n (W.alloc (.cells #[.int .i64 m.s, .int .i64 m.a, .int .i64 m.b, .int .i64 m.z, .int .i64 m.d, .int .i64 m.w] 59)) 59)
  clear hI hlb hV he hm hn
  go_enter Tryz.func67, Tryz.ntmps67
  go_wp2_with fail
  refine (edges_any m _ HM.out).mono ?_
  rintro e w1 ⟨rfl, hb1⟩
  have hbW : Below W.heap.size W w1 := (((Below.refl W.heap.size W).alloc (Nat.le_refl _) _).alloc (by simp) _).trans (hb1.mono (by simp; omega))
  have S1 : CorSt w W bl bo v n (W.heap.size + 1) (C ++ crn l m n (2 * 0)) w1 := by
    refine ⟨⟨u, ?_⟩, keepx_below HI.out.lt hbW, ?_, own_below HI.out.lt hbW (own_new HI.out (by omega))⟩
    · have e : C ++ crn l m n (2 * 0) = C := by unfold crn; simp
      rw [e]
      exact HI.out.keep hbW
    · have := CN.out.below hb1
      simpa using this
  have HS1 := Lib.hid S1
  clear hbW S1 hb1 CN
  generalize W.heap.size + 1 = bn at *
  go_wp2_with fail
  go_loopw [14] (Q1 w W bl bo v l m n bn C) (fun i _ => 2 - (intOf i).toNat)
  case atStart => exact ⟨0, rfl, by omega, HS1⟩
  case round =>
    obtain ⟨i, rfl, hi, HS⟩ := hrel
    by_cases q : i < 2
    · have q' : decide ((i : Int) < 2) = true := by simp; omega
      have ix1 : ∀ w, (Instr.index 130 (.agg #[.int .i64 m.a, .int .i64 m.b, .int .i64 (edgeC m false), .int .i64 m.a, .int .i64 m.b, .int .i64 (edgeC m true)]) (.int .i64 (i : Int))).run Tryz.prog w = .ok (.agg #[.int .i64 m.a, .int .i64 m.b, .int .i64 (edgeC m (tag2 i))]) w := by
        intro w
        rcases (show i = 0 ∨ i = 1 by omega) with rfl | rfl <;> rfl
      have cn := HS.out.cp
      have c0 := cn.c0
      have c1 := cn.c1
      have c2 := cn.c2
      have c3 := cn.c3
      have c4 := cn.c4
      have c5 := cn.c5
      have hbn := cn.lt
      clear cn
      have EN := Lib.hid (edge_new m (edgeC m (tag2 i)) wr 129)
      go_wp2_with fail
      refine (edges_any n _ HN.out).mono ?_
      rintro e w2 ⟨rfl, hb2⟩
      have hbr : Below wr.heap.size wr w2 := ((Below.refl wr.heap.size wr).alloc (Nat.le_refl _) _).trans (hb2.mono (by simp))
      have HS2 := Lib.hid (HS.out.keep hbr)
      have HE2 := Lib.hid (EN.out.below hb2)
      have HO2 : Hid (¬ OwnC bo w2 wr.heap.size) := by
        obtain ⟨u0, hu0⟩ := HS.out.ex
        exact own_below hu0.lt hbr (own_new hu0 (Nat.le_refl _))
      clear c0 c1 c2 c3 c4 c5 hbn hbr hb2 EN ix1 HS
      generalize wr.heap.size = be at *
      go_wp2_with fail
      go_loopw [19] (Q2 w W bl bo v l m n bn C i be) (fun j _ => 2 - (intOf j).toNat)
      case atStart => exact ⟨0, rfl, by omega, HS2, HE2, HO2⟩
      case round =>
        obtain ⟨j, rfl, hj, HS, HE, HO⟩ := hrel
        by_cases r : j < 2
        · have r' : decide ((j : Int) < 2) = true := by simp; omega
          have ix2 : ∀ w, (Instr.index 130 (.agg #[.int .i64 n.a, .int .i64 n.b, .int .i64 (edgeC n false), .int .i64 n.a, .int .i64 n.b, .int .i64 (edgeC n true)]) (.int .i64 (j : Int))).run Tryz.prog w = .ok (.agg #[.int .i64 n.a, .int .i64 n.b, .int .i64 (edgeC n (tag2 j))]) w := by
            intro w
            rcases (show j = 0 ∨ j = 1 by omega) with rfl | rfl <;> rfl
          have he := HE.out
          have x0 := he.c0
          have x1 := he.c1
          have x2 := he.c2
          have hbe := he.lt
          have hsm1 := Lib.hid (edge_sm HM.out (tag2 i))
          have hsm2 := Lib.hid (edge_sm HN.out (tag2 j))
          have CA := Lib.hid (crn_at l m n (i := i) r)
          have MT := Lib.hid fun w => meet_any m n (edgeC m (tag2 i)) (edgeC n (tag2 j)) w HM.out HN.out hsm1.out hsm2.out
          obtain ⟨u1, hu1⟩ := HS.out.ex
          have HU := Lib.hid hu1
          clear he hu1
          by_cases hd : detM m n = 0
          · have PK := Lib.hid (show pickC l m n (tag2 i) (tag2 j) = [] by unfold pickC; rw [if_pos hd])
            have EM : meetF m n (edgeC m (tag2 i)) (edgeC n (tag2 j)) = (⟨0, 0, 0⟩, false) := by unfold meetF; rw [if_pos hd]
            have MT2 := MT.out
            rw [EM] at MT2
            have HMT := Lib.hid MT2
            clear hd EM MT2 MT
            go_wp2_with fail
            refine (HMT.out _).mono ?_
            rintro e w3 ⟨rfl, hb3⟩
            have hbr : Below wr.heap.size wr w3 := ((Below.refl wr.heap.size wr).alloc (Nat.le_refl _) _).trans (hb3.mono (by simp))
            have HB := Lib.hid hbr
            clear x0 x1 x2 hbe hb3 hbr
            go_wp2
            go_roundw
            case rel =>
              have hb := HB.out.alloc HB.out.size (.cells #[.int .i64 0, .int .i64 0, .int .i64 0] 133)
              refine ⟨j + 1, by go_num, by omega, ?_, HE.out.below hb, own_below HU.out.lt hb HO.out⟩
              rw [CA.out, PK.out, List.append_nil]
              exact HS.out.keep hb
            case measure => simp [intOf]; omega
          · have EM : meetF m n (edgeC m (tag2 i)) (edgeC n (tag2 j)) = (crossC m n (edgeC m (tag2 i)) (edgeC n (tag2 j)), true) := by unfold meetF; rw [if_neg hd]
            have MT2 := MT.out
            rw [EM] at MT2
            have HMT := Lib.hid MT2
            have SP := Lib.hid (cross_sm HM.out HN.out hsm1.out hsm2.out)
            have PK0 : pickC l m n (tag2 i) (tag2 j) = if holdsB l (crossC m n (edgeC m (tag2 i)) (edgeC n (tag2 j))) = true then [crossC m n (edgeC m (tag2 i)) (edgeC n (tag2 j))] else [] := by unfold pickC; rw [if_neg hd]
            clear hd EM MT2 MT
            generalize crossC m n (edgeC m (tag2 i)) (edgeC n (tag2 j)) = p at *
            have HO0 := fun v w hv => holds_any l p v w hv HEd.out SP.out
            have CNP := Lib.hid fun w => cr_new p w 133
            cases hh : holdsB l p with
            | false =>
              rw [hh] at HO0
              have HH := Lib.hid HO0
              have PK := Lib.hid (show pickC l m n (tag2 i) (tag2 j) = [] by rw [PK0, hh]; rfl)
              clear hh PK0 HO0
              go_wp2_with fail
              refine (HMT.out _).mono ?_
              rintro e w3 ⟨rfl, hb3⟩
              have hbr : Below wr.heap.size wr w3 := ((Below.refl wr.heap.size wr).alloc (Nat.le_refl _) _).trans (hb3.mono (by simp))
              have HB := Lib.hid (hbr.alloc hbr.size (.cells #[.int .i64 p.x, .int .i64 p.y, .int .i64 p.d] 133))
              have HU3 := HU.out.keep HB.out
              have k0 := HU3.lst
              have CP := CNP.out w3
              have k1 := CP.c0
              have k2 := CP.c1
              have k3 := CP.c2
              have LV := Lib.hid (HV.out.below HU3.below)
              clear x0 x1 x2 hbe hb3 hbr HU3 CP
              go_wp2_with fail
              refine (HH.out _ _ LV.out).mono ?_
              rintro e w4 ⟨rfl, hb4⟩
              have HB4 := Lib.hid (HB.out.trans (hb4.mono HB.out.size))
              clear k0 k1 k2 k3 hb4
              go_wp2
              go_roundw
              case rel =>
                refine ⟨j + 1, by go_num, by omega, ?_, HE.out.below HB4.out, own_below HU.out.lt HB4.out HO.out⟩
                rw [CA.out, PK.out, List.append_nil]
                exact HS.out.keep HB4.out
              case measure => simp [intOf]; omega
            | true =>
              rw [hh] at HO0
              have HH := Lib.hid HO0
              have PK := Lib.hid (show pickC l m n (tag2 i) (tag2 j) = [p] by rw [PK0, hh]; rfl)
              clear hh PK0 HO0
              go_wp2_with fail
              refine (HMT.out _).mono ?_
              rintro e w3 ⟨rfl, hb3⟩
              have hbr : Below wr.heap.size wr w3 := ((Below.refl wr.heap.size wr).alloc (Nat.le_refl _) _).trans (hb3.mono (by simp))
              have HB := Lib.hid (hbr.alloc hbr.size (.cells #[.int .i64 p.x, .int .i64 p.y, .int .i64 p.d] 133))
              have HU3 := HU.out.keep HB.out
              have k0 := HU3.lst
              have CP := CNP.out w3
              have k1 := CP.c0
              have k2 := CP.c1
              have k3 := CP.c2
              have LV := Lib.hid (HV.out.below HU3.below)
              have HCP := Lib.hid CP
              clear x0 x1 x2 hbe hb3 hbr HU3 CP
              go_wp2_with fail
              refine (HH.out _ _ LV.out).mono ?_
              rintro e w4 ⟨rfl, hb4⟩
              have HB4 := Lib.hid (HB.out.trans (hb4.mono HB.out.size))
              have HU4 := Lib.hid (HU.out.keep HB4.out)
              have CP4 := HCP.out.below hb4
              have k0 := HU4.out.cell
              have k1 := CP4.c0
              have k2 := CP4.c1
              have k3 := CP4.c2
              have hbo4 := HU4.out.lt
              have hp4 := CP4.lt
              have SZ : (C ++ crn l m n (2 * i + j)).length ≤ 100000 := by
                have := crn_len l m n (2 * i + j)
                rw [List.length_append]
                omega
              have HSZ := Lib.hid SZ
              have hB4 : Hid (bo + 1 ≤ w4.heap.size) := hbo4
              clear hb4 CP4 SZ
              go_wp2_with (at_builtin; refine Halt.mk ?_)
              unfold Halt
              refine wpList_oc rfl (.tmp 34) (.tmp 36) rfl (bo + 1) u1 (C ++ crn l m n (2 * i + j)) rfl w4 HU4.out.own _ p 1 rfl HSZ.out hB4.out ?_
              intro u2 w5 ho5 hg5 hat5
              have PU := Lib.hid (CorI.push HU4.out HLB.out ho5 hg5 hat5)
              have hr5 : ∀ k, u1.ownBlock = some k → bo + 1 ≤ k := fun k hk => (World.ownsRow.lt HU4.out.own k hk).1
              have hne : some bo ≠ u1.ownBlock := fun e => by have := hr5 bo e.symm; omega
              have k5 : w5.cell? ⟨bo, 0, none⟩ = some u1 := hg5.cell (a := ⟨bo, 0, none⟩) ((HU4.out.keep ((Below.refl _ _).alloc (Nat.le_refl _) _)).cell) hne
              have f5 : w5.frozen? ⟨bo, 0, none⟩ = false := (World.frozen?_of_block (hg5.block bo (by rw [World.size_alloc]; omega) hne)).trans ((HU4.out.keep ((Below.refl _ _).alloc (Nat.le_refl _) _)).frz)
              obtain ⟨g5, cap5, hu2⟩ := Go.Joins.ownsRow_form ho5 (show 0 < ((C ++ crn l m n (2 * i + j)) ++ [p]).length by rw [List.length_append, List.length_singleton]; omega)
              obtain ⟨N5, hN5⟩ : ∃ N, ((C ++ crn l m n (2 * i + j)) ++ [p]).length = N := ⟨_, rfl⟩
              rw [hN5] at hu2
              clear k0 k1 k2 k3 hp4 hr5 hne hg5 ho5 hat5 hN5
              subst hu2
              go_wp2
              go_roundw
              case rel =>
                have kx := PU.out.2
                have hk4 := (keepx_below HU.out.lt HB4.out).trans kx
                have kb := hk4.keep be HE.out.lt HO.out
                have kn := hk4.keep bn HS.out.cp.lt HS.out.nn
                refine ⟨j + 1, by go_num, by omega, ?_, HE.out.same kb.1 hk4.size, kb.2⟩
                rw [CA.out, PK.out, ← List.append_assoc]
                exact ⟨⟨_, PU.out.1⟩, HS.out.kx.trans hk4, HS.out.cp.same kn.1 hk4.size, kn.2⟩
              case measure => simp [intOf]; omega
        · obtain rfl : j = 2 := by omega
          go_wp2
          go_roundw
          case rel => exact ⟨i + 1, by go_num, by omega, HS⟩
          case measure => simp [intOf]; omega
    · obtain rfl : i = 2 := by omega
      go_wp2
      go_end0
      exact ⟨rfl, HS.out.ex, HS.out.kx⟩
theorem corners_some (l : List Ms) (b o cap : Nat) (w : World) (h : MsAt l b o w) (hc : l.length ≤ cap) (hm : cap ≤ 9223372036854775807) (he : ∀ m ∈ l, EdM m) (hl : l.length ≤ 17) :
    Calls Tryz.prog 40 #[.slice (some ⟨b, o, none⟩) l.length cap] w fun e w' => (∃ u, e = .returned u ∧ OC w.heap.size w' u (corL l)) ∧ Below w.heap.size w w' := by
  have LV : LstAt l (.slice (some ⟨b, o, none⟩) l.length cap) w := .inr ⟨b, o, cap, rfl, hc, hm, h⟩
  have HP := Lib.hid fun W1 (h0 : ∃ u, CorI w w.heap.size (w.heap.size + 1) (.slice (some ⟨b, o, none⟩) l.length cap) u [] W1) => pairs_cor l b o cap W1 ⟨w.heap.size, 0, none⟩ ⟨w.heap.size + 1, 0, none⟩
    (fun acc W => ∃ u, CorI w w.heap.size (w.heap.size + 1) (.slice (some ⟨b, o, none⟩) l.length cap) u (corP l acc) W) (OwnC (w.heap.size + 1)) hl hc hm
    ⟨fun acc W hi => by obtain ⟨u, hi⟩ := hi; exact h.below hi.below, fun acc W ob hi => by
      obtain ⟨u, hi⟩ := hi
      have hb := (Below.refl W.heap.size W).alloc (Nat.le_refl _) ob
      exact ⟨⟨u, hi.keep hb⟩, own_alloc hi ob, fun k hk hn => own_below hi.lt hb hn⟩⟩ h0
    (fun acc m n W hm hn hacc hi => by
      obtain ⟨u, hi⟩ := hi
      refine (cor_fn l _ u m n w W _ _ _ hi (by omega) LV he (he m hm) (he n hn) (by have := corP_len l acc; omega)).mono fun e w' ⟨h1, h2, h3⟩ => ⟨h1, ?_, h3⟩
      have e : corP l (acc ++ [(m, n)]) = corP l acc ++ crn l m n 4 := by unfold corP; rw [List.flatMap_append]; simp
      rw [e]
      exact h2)
  have H0 := Lib.hid (show ∀ t1 t2, ∃ u, CorI w w.heap.size (w.heap.size + 1) (.slice (some ⟨b, o, none⟩) l.length cap) u [] ((w.alloc (.cells #[.slice (some ⟨b, o, none⟩) l.length cap] t1)).alloc (.cells #[.slice none 0 0] t2)) from fun t1 t2 =>
    ⟨.slice none 0 0, ⟨((Below.refl _ _).alloc (Nat.le_refl _) _).alloc (by simp) _, by omega, by omega, by simp, by
      rw [World.cell?_alloc_some _ _ _ (by rw [World.cell?_alloc_at _ _ _ _ rfl]; rfl), World.cell?_alloc_at _ _ _ _ rfl]; rfl, by
      rw [World.cell?_alloc_at _ _ _ _ (by simp)]; rfl, by go_simp, World.ownsRow_nil _ _ _ _⟩⟩)
  clear h he LV
  go_enter Tryz.func40, Tryz.ntmps40
  go_wp2_with (go_at_call 65; refine (HP.out _ (H0.out _ _)).mono ?_; rintro e w2 ⟨rfl, u, hi⟩; have hcell := hi.cell; have HI := Lib.hid hi; clear hi)
  go_ret
  exact ⟨⟨u, rfl, (World.ownsRow.mono HI.out.own (by omega))⟩, HI.out.below⟩
theorem corners_nil (w : World) :
    Calls Tryz.prog 40 #[.slice none 0 0] w fun e w' => (∃ u, e = .returned u ∧ OC w.heap.size w' u (corL [])) ∧ Below w.heap.size w w' := by
  go_enter Tryz.func40, Tryz.ntmps40
  go_wp2_with (go_at_call 65; refine (pairs_nil _ _ _).mono ?_; rintro e w2 ⟨rfl, rfl⟩)
  go_ret
  exact ⟨⟨_, rfl, World.ownsRow_nil _ _ _ _⟩, ((Below.refl _ _).alloc (Nat.le_refl _) _).alloc (by simp) _⟩
theorem corners_any (l : List Ms) (v : Value) (w : World) (h : LstAt l v w) (he : ∀ m ∈ l, EdM m) (hl : l.length ≤ 17) :
    Calls Tryz.prog 40 #[v] w fun e w' => (∃ u, e = .returned u ∧ OC w.heap.size w' u (corL l)) ∧ Below w.heap.size w w' := by
  rcases h with ⟨rfl, rfl⟩ | ⟨b, o, cap, rfl, h2, h3, h4⟩
  · exact corners_nil w
  · exact corners_some l b o cap w h4 h2 h3 he hl
end Go.Proofs.YtidelghgjibndaaGreat.S44
namespace Go.Proofs.YtidelghgjibndaaGreat.S44
set_option linter.unusedVariables false
open Go.RowKit
theorem ret_u {k : IntKind} {a b : Int} (h : a = b) : Ending.returned (.int k a) = .returned (.int k b) := by rw [h]
theorem two_i {k l : IntKind} {a b c d : Int} (h : a = b) (h' : c = d) : Ending.returned (.tuple #[.int k a, .int l c]) = .returned (.tuple #[.int k b, .int l d]) := by rw [h, h']
theorem size_any (a : Int) (w : World) (h0 : -9223372036854775808 ≤ a) (h1 : a ≤ 9223372036854775807) :
    Calls Tryz.prog 99 #[.int .i64 a] w fun e w' => e = .returned (.int .u64 (sizeI a)) ∧ w = w' := by
  by_cases h : a < 0
  · have E := Lib.hid (show sizeI a = -a by unfold sizeI; rw [if_pos h])
    have g : decide (a < 0) = true := by simpa using h
    go_enter Tryz.func99, Tryz.ntmps99
    go_wp2
    go_ret
    exact ⟨ret_u (by rw [E.out]; simp only [IntKind.wrap_u64]; omega), rfl⟩
  · have E := Lib.hid (show sizeI a = a by unfold sizeI; rw [if_neg h])
    have g : decide (a < 0) = false := by simpa using h
    go_enter Tryz.func99, Tryz.ntmps99
    go_wp2
    go_ret
    exact ⟨ret_u (by rw [E.out]), rfl⟩
theorem signed_pos (n : Int) (w : World) (h0 : 0 ≤ n) (h1 : n < 9223372036854775808) :
    Calls Tryz.prog 101 #[.int .u64 n, .bool false] w fun e w' => e = .returned (.tuple #[.int .i64 n, .int .i64 0]) ∧ w = w' := by
  go_enter Tryz.func101, Tryz.ntmps101
  go_wp2
  go_ret2
  exact ⟨two_i rfl rfl, rfl⟩
theorem signed_neg (n : Int) (w : World) (h0 : 0 ≤ n) (h1 : n ≤ 9223372036854775808) :
    Calls Tryz.prog 101 #[.int .u64 n, .bool true] w fun e w' => e = .returned (.tuple #[.int .i64 (-n), .int .i64 0]) ∧ w = w' := by
  go_enter Tryz.func101, Tryz.ntmps101
  go_wp2
  go_ret2
  exact ⟨two_i (by simp only [wrap64, IntKind.wrap_u64]; omega) rfl, rfl⟩
theorem mul64_any (x y : Int) (w : World) (hx : 0 ≤ x) (hx' : x < 18446744073709551616) (hy : 0 ≤ y) (hy' : y < 18446744073709551616) (h : x * y < 18446744073709551616) :
    Calls Tryz.prog 89 #[.int .u64 x, .int .u64 y] w fun e w' => e = .returned (.tuple #[.int .u64 0, .int .u64 (x * y)]) ∧ w = w' := by
  obtain ⟨a, rfl⟩ := Int.eq_ofNat_of_zero_le hx
  obtain ⟨b, rfl⟩ := Int.eq_ofNat_of_zero_le hy
  have hn : a * b < 18446744073709551616 := by have : ((a * b : Nat) : Int) < 18446744073709551616 := by rw [Int.natCast_mul]; exact h
                                               omega
  refine (Tryz.bits_Mul64 a b (by omega) (by omega) w).mono fun e w' ⟨he, hw⟩ => ⟨?_, hw.symm⟩
  rw [he, Nat.div_eq_of_lt hn, Nat.mod_eq_of_lt hn, Int.natCast_mul]
  rfl
theorem div64_any (n c : Int) (w : World) (h0 : 0 ≤ n) (h1 : n < 18446744073709551616) (c0 : 0 < c) (c1 : c < 18446744073709551616) :
    Calls Tryz.prog 100 #[.int .u64 0, .int .u64 n, .int .u64 c] w fun e w' => e = .returned (.tuple #[.int .u64 (n / c), .int .u64 (n % c)]) ∧ ∃ k, w' = w.drewN k := by
  have g : (c == 0) = false := by simp; omega
  have g2 : decide (c ≤ 0) = false := by simp; omega
  go_enter Tryz.func100, Tryz.ntmps100
  go_wp2
  go_quiet (fail)
  go_wp2
  go_ret2
  exact ⟨rfl, _, rfl⟩
/-- the sizes' product -/
theorem size_mul {a b : Int} (b0 : 0 ≤ b) (h0 : -9223372036854775808 < a * b) (h1 : a * b < 9223372036854775808) : 0 ≤ sizeI a * b ∧ sizeI a * b < 9223372036854775808 ∧ (a < 0 → a * b = -(sizeI a * b)) ∧ (0 ≤ a → a * b = sizeI a * b) := by
  unfold sizeI
  split
  · have : -a * b = -(a * b) := Int.neg_mul a b
    have := Int.mul_nonneg (show 0 ≤ -a by omega) b0
    exact ⟨by omega, by omega, fun _ => by omega, fun h => by omega⟩
  · have := Int.mul_nonneg (show 0 ≤ a by omega) b0
    exact ⟨by omega, by omega, fun h => by omega, fun _ => rfl⟩
theorem div_facts {n c : Int} (n0 : 0 ≤ n) (n1 : n < 9223372036854775808) (c0 : 0 < c) : n = c * (n / c) + n % c ∧ 0 ≤ n / c ∧ n / c < 9223372036854775808 ∧ 0 ≤ n % c ∧ n % c < c :=
  ⟨(Int.mul_ediv_add_emod n c).symm, Int.ediv_nonneg n0 (by omega), Int.lt_of_le_of_lt (Int.ediv_le_self c n0) n1, Int.emod_nonneg n (by omega), Int.emod_lt_of_pos n c0⟩
set_option maxHeartbeats 2000000 in
set_option maxRecDepth 100000 in
theorem scale_up (a b c : Int) (w : World) (a0 : -9223372036854775808 ≤ a) (a1 : a ≤ 9223372036854775807) (b0 : 0 ≤ b) (b1 : b ≤ 9223372036854775807) (c0 : 0 < c) (c1 : c ≤ 9223372036854775807) (h0 : -9223372036854775808 < a * b) (h1 : a * b < 9223372036854775808) :
    Calls Tryz.prog 79 #[.int .i64 a, .int .i64 b, .int .i64 c, .int .u8 1] w fun e w' => e = .returned (.tuple #[.int .i64 (ceilI (a * b) c), .int .i64 0]) ∧ ∃ k, w' = w.drewN k := by
  obtain ⟨n0, n1, A1, A2⟩ := size_mul b0 h0 h1
  have H1 := Lib.hid A1
  have H2 := Lib.hid A2
  clear A1 A2
  have sb : sizeI b = b := by unfold sizeI; rw [if_neg (by omega)]
  have sc : sizeI c = c := by unfold sizeI; rw [if_neg (by omega)]
  have sa := sizeI_nonneg a
  have sa2 : sizeI a ≤ 9223372036854775808 := by unfold sizeI; split <;> omega
  obtain ⟨e1, q0, q1, r0, r1⟩ := div_facts n0 n1 c0
  have k1 : decide (b < 0) = false := by simp; omega
  have k2 : decide (c < 0) = false := by simp; omega
  have k3 : (c == 0) = false := by simp; omega
  have k4 : decide (c ≤ 0) = false := by simp; omega
  have k5 : (sizeI a * b / c == 18446744073709551615) = false := by simp; omega
  have E1 := Lib.hid e1
  clear e1
  have QQ := Lib.hid (fun h : 2 ≤ c => show sizeI a * b / c ≤ 4611686018427387904 from Int.ediv_le_of_le_mul c0 (by omega))
  by_cases hs : a < 0
  · have k0 : decide (a < 0) = true := by simpa using hs
    go_enter Tryz.func79, Tryz.ntmps79
    go_wp2_with (first
      | (go_at_call 99; refine (size_any _ _ (by omega) (by omega)).mono ?_; rintro e w' ⟨rfl, rfl⟩)
      | (go_at_call 89; refine (mul64_any _ _ _ (by omega) (by omega) (by omega) (by omega) (by omega)).mono ?_; rintro e w' ⟨rfl, rfl⟩)
      | (go_at_call 100; refine (div64_any _ _ _ (by omega) (by omega) (by omega) (by omega)).mono ?_; rintro e w' ⟨rfl, kd, rfl⟩)
      | (go_at_call 101; refine (signed_neg _ _ (by omega) (by omega)).mono ?_; rintro e w' ⟨rfl, rfl⟩))
    go_ret2
    exact ⟨two_i (by rw [H1.out hs]; exact (ceil_neg c0 E1.out r0 r1).symm) rfl, _, rfl⟩
  · have k0 : decide (a < 0) = false := by simpa using hs
    by_cases h0 : 0 < sizeI a * b % c
    · have g0 : decide (0 < sizeI a * b % c) = true := by simpa using h0
      have qq := QQ.out (by omega)
      go_enter Tryz.func79, Tryz.ntmps79
      go_wp2_with (first
        | (go_at_call 99; refine (size_any _ _ (by omega) (by omega)).mono ?_; rintro e w' ⟨rfl, rfl⟩)
        | (go_at_call 89; refine (mul64_any _ _ _ (by omega) (by omega) (by omega) (by omega) (by omega)).mono ?_; rintro e w' ⟨rfl, rfl⟩)
        | (go_at_call 100; refine (div64_any _ _ _ (by omega) (by omega) (by omega) (by omega)).mono ?_; rintro e w' ⟨rfl, kd, rfl⟩)
        | (go_at_call 101; refine (signed_pos _ _ (by omega) (by omega)).mono ?_; rintro e w' ⟨rfl, rfl⟩))
      go_ret2
      exact ⟨two_i (by rw [H2.out (by omega)]; exact (ceil_pos c0 E1.out h0 r1).symm) rfl, _, rfl⟩
    · have g0 : decide (0 < sizeI a * b % c) = false := by simpa using h0
      go_enter Tryz.func79, Tryz.ntmps79
      go_wp2_with (first
        | (go_at_call 99; refine (size_any _ _ (by omega) (by omega)).mono ?_; rintro e w' ⟨rfl, rfl⟩)
        | (go_at_call 89; refine (mul64_any _ _ _ (by omega) (by omega) (by omega) (by omega) (by omega)).mono ?_; rintro e w' ⟨rfl, rfl⟩)
        | (go_at_call 100; refine (div64_any _ _ _ (by omega) (by omega) (by omega) (by omega)).mono ?_; rintro e w' ⟨rfl, kd, rfl⟩)
        | (go_at_call 101; refine (signed_pos _ _ (by omega) (by omega)).mono ?_; rintro e w' ⟨rfl, rfl⟩))
      go_ret2
      exact ⟨two_i (by rw [H2.out (by omega)]; exact (ceil_pos0 c0 E1.out (by omega)).symm) rfl, _, rfl⟩
set_option maxHeartbeats 2000000 in
set_option maxRecDepth 100000 in
theorem scale_down (a b c : Int) (w : World) (a0 : -9223372036854775808 ≤ a) (a1 : a ≤ 9223372036854775807) (b0 : 0 ≤ b) (b1 : b ≤ 9223372036854775807) (c0 : 0 < c) (c1 : c ≤ 9223372036854775807) (h0 : -9223372036854775808 < a * b) (h1 : a * b < 9223372036854775808) :
    Calls Tryz.prog 79 #[.int .i64 a, .int .i64 b, .int .i64 c, .int .u8 0] w fun e w' => e = .returned (.tuple #[.int .i64 (floorI (a * b) c), .int .i64 0]) ∧ ∃ k, w' = w.drewN k := by
  obtain ⟨n0, n1, A1, A2⟩ := size_mul b0 h0 h1
  have H1 := Lib.hid A1
  have H2 := Lib.hid A2
  clear A1 A2
  have sb : sizeI b = b := by unfold sizeI; rw [if_neg (by omega)]
  have sc : sizeI c = c := by unfold sizeI; rw [if_neg (by omega)]
  have sa := sizeI_nonneg a
  have sa2 : sizeI a ≤ 9223372036854775808 := by unfold sizeI; split <;> omega
  obtain ⟨e1, q0, q1, r0, r1⟩ := div_facts n0 n1 c0
  have k1 : decide (b < 0) = false := by simp; omega
  have k2 : decide (c < 0) = false := by simp; omega
  have k3 : (c == 0) = false := by simp; omega
  have k4 : decide (c ≤ 0) = false := by simp; omega
  have k5 : (sizeI a * b / c == 18446744073709551615) = false := by simp; omega
  have E1 := Lib.hid e1
  clear e1
  have QQ := Lib.hid (fun h : 2 ≤ c => show sizeI a * b / c ≤ 4611686018427387904 from Int.ediv_le_of_le_mul c0 (by omega))
  by_cases hs : a < 0
  · have k0 : decide (a < 0) = true := by simpa using hs
    by_cases h0 : 0 < sizeI a * b % c
    · have g0 : decide (0 < sizeI a * b % c) = true := by simpa using h0
      go_enter Tryz.func79, Tryz.ntmps79
      go_wp2_with (first
        | (go_at_call 99; refine (size_any _ _ (by omega) (by omega)).mono ?_; rintro e w' ⟨rfl, rfl⟩)
        | (go_at_call 89; refine (mul64_any _ _ _ (by omega) (by omega) (by omega) (by omega) (by omega)).mono ?_; rintro e w' ⟨rfl, rfl⟩)
        | (go_at_call 100; refine (div64_any _ _ _ (by omega) (by omega) (by omega) (by omega)).mono ?_; rintro e w' ⟨rfl, kd, rfl⟩)
        | (go_at_call 101; refine (signed_neg _ _ (by omega) (by omega)).mono ?_; rintro e w' ⟨rfl, rfl⟩))
      go_ret2
      exact ⟨two_i (by rw [H1.out hs]; exact (floor_neg c0 E1.out h0 r1).symm) rfl, _, rfl⟩
    · have g0 : decide (0 < sizeI a * b % c) = false := by simpa using h0
      go_enter Tryz.func79, Tryz.ntmps79
      go_wp2_with (first
        | (go_at_call 99; refine (size_any _ _ (by omega) (by omega)).mono ?_; rintro e w' ⟨rfl, rfl⟩)
        | (go_at_call 89; refine (mul64_any _ _ _ (by omega) (by omega) (by omega) (by omega) (by omega)).mono ?_; rintro e w' ⟨rfl, rfl⟩)
        | (go_at_call 100; refine (div64_any _ _ _ (by omega) (by omega) (by omega) (by omega)).mono ?_; rintro e w' ⟨rfl, kd, rfl⟩)
        | (go_at_call 101; refine (signed_neg _ _ (by omega) (by omega)).mono ?_; rintro e w' ⟨rfl, rfl⟩))
      go_ret2
      exact ⟨two_i (by rw [H1.out hs]; exact (floor_neg0 c0 E1.out (by omega)).symm) rfl, _, rfl⟩
  · have k0 : decide (a < 0) = false := by simpa using hs
    go_enter Tryz.func79, Tryz.ntmps79
    go_wp2_with (first
      | (go_at_call 99; refine (size_any _ _ (by omega) (by omega)).mono ?_; rintro e w' ⟨rfl, rfl⟩)
      | (go_at_call 89; refine (mul64_any _ _ _ (by omega) (by omega) (by omega) (by omega) (by omega)).mono ?_; rintro e w' ⟨rfl, rfl⟩)
      | (go_at_call 100; refine (div64_any _ _ _ (by omega) (by omega) (by omega) (by omega)).mono ?_; rintro e w' ⟨rfl, kd, rfl⟩)
      | (go_at_call 101; refine (signed_pos _ _ (by omega) (by omega)).mono ?_; rintro e w' ⟨rfl, rfl⟩))
    go_ret2
    exact ⟨two_i (by rw [H2.out (by omega)]; exact (floor_pos c0 E1.out r0 r1).symm) rfl, _, rfl⟩
end Go.Proofs.YtidelghgjibndaaGreat.S44
namespace Go.Proofs.YtidelghgjibndaaGreat.S44
set_option linter.unusedVariables false
open Go.RowKit
theorem floor_any (a c : Int) (w : World) (a0 : -9223372036854775808 < a) (a1 : a ≤ 9223372036854775807) (c0 : 0 < c) (c1 : c ≤ 9223372036854775807) :
    Calls Tryz.prog 71 #[.int .i64 a, .int .i64 c] w fun e w' => e = .returned (.tuple #[.int .i64 (floorI a c), .int .i64 0]) ∧ ∃ k, w' = w.drewN k := by
  have S0 := fun w => scale_down a 1 c w (by omega) a1 (by omega) (by omega) c0 c1 (by omega) (by omega)
  rw [Int.mul_one] at S0
  have S := Lib.hid S0
  clear S0
  go_enter Tryz.func71, Tryz.ntmps71
  go_wp2_with (go_at_call 79; refine (S.out _).mono ?_; rintro e w' ⟨rfl, kd, rfl⟩)
  go_ret2
  exact ⟨rfl, _, rfl⟩
theorem ceil_any (a c : Int) (w : World) (a0 : -9223372036854775808 < a) (a1 : a ≤ 9223372036854775807) (c0 : 0 < c) (c1 : c ≤ 9223372036854775807) :
    Calls Tryz.prog 49 #[.int .i64 a, .int .i64 c] w fun e w' => e = .returned (.tuple #[.int .i64 (ceilI a c), .int .i64 0]) ∧ ∃ k, w' = w.drewN k := by
  have S0 := fun w => scale_up a 1 c w (by omega) a1 (by omega) (by omega) c0 c1 (by omega) (by omega)
  rw [Int.mul_one] at S0
  have S := Lib.hid S0
  clear S0
  go_enter Tryz.func49, Tryz.ntmps49
  go_wp2_with (go_at_call 79; refine (S.out _).mono ?_; rintro e w' ⟨rfl, kd, rfl⟩)
  go_ret2
  exact ⟨rfl, _, rfl⟩
end Go.Proofs.YtidelghgjibndaaGreat.S44
namespace Go.Proofs.YtidelghgjibndaaGreat.S44
set_option linter.unusedVariables false
open Go.RowKit
def loF (a b : Int) (p : Cr) : Int := floorI (a * p.x + b * p.y) p.d
def hiF (a b : Int) (p : Cr) : Int := ceilI (a * p.x + b * p.y) p.d
def cr0 : Cr := ⟨0, 0, 0⟩
def nthC (l : List Cr) (i : Nat) : Cr := l.getD i cr0
/-- the bounds of the first k corners -/
def bndK (a b : Int) (l : List Cr) : Nat → Int × Int
  | 0 => (0, 0)
  | k + 1 => if k = 0 then (loF a b (nthC l 0), hiF a b (nthC l 0)) else (min (bndK a b l k).1 (loF a b (nthC l k)), max (bndK a b l k).2 (hiF a b (nthC l k)))
def bndF (a b : Int) (l : List Cr) : Int × Int := bndK a b l l.length
theorem nthC_mem {l : List Cr} {i : Nat} (h : i < l.length) : nthC l i ∈ l := by
  unfold nthC
  rw [List.getD_eq_getElem?_getD, List.getElem?_eq_getElem h]
  exact List.getElem_mem h
theorem nthC_eq {l : List Cr} {i : Nat} (h : i < l.length) : nthC l i = l[i] := by
  unfold nthC
  rw [List.getD_eq_getElem?_getD, List.getElem?_eq_getElem h]
  rfl
/-- the bounds are attained, and bound all -/
theorem bndK_is (a b : Int) (l : List Cr) (k : Nat) (hk : k ≤ l.length) (h0 : 0 < k) :
    (∃ p ∈ l, (bndK a b l k).1 = loF a b p) ∧ (∃ p ∈ l, (bndK a b l k).2 = hiF a b p) ∧ ∀ i, i < k → (bndK a b l k).1 ≤ loF a b (nthC l i) ∧ hiF a b (nthC l i) ≤ (bndK a b l k).2 := by
  induction k with
  | zero => exact absurd h0 (by decide)
  | succ k ih =>
    unfold bndK
    by_cases hz : k = 0
    · subst hz
      rw [if_pos rfl]
      refine ⟨⟨_, nthC_mem (by omega), rfl⟩, ⟨_, nthC_mem (by omega), rfl⟩, fun i hi => ?_⟩
      obtain rfl : i = 0 := by omega
      exact ⟨Int.le_refl _, Int.le_refl _⟩
    · rw [if_neg hz]
      obtain ⟨⟨p, hp, e1⟩, ⟨q, hq, e2⟩, h3⟩ := ih (by omega) (by omega)
      refine ⟨?_, ?_, fun i hi => ?_⟩
      · by_cases h : (bndK a b l k).1 ≤ loF a b (nthC l k)
        · exact ⟨p, hp, by show min _ _ = _; rw [Int.min_eq_left h]; exact e1⟩
        · exact ⟨_, nthC_mem (show k < l.length by omega), by show min _ _ = _; rw [Int.min_eq_right (by omega)]⟩
      · by_cases h : hiF a b (nthC l k) ≤ (bndK a b l k).2
        · exact ⟨q, hq, by show max _ _ = _; rw [Int.max_eq_left h]; exact e2⟩
        · exact ⟨_, nthC_mem (show k < l.length by omega), by show max _ _ = _; rw [Int.max_eq_right (by omega)]⟩
      · show min _ _ ≤ _ ∧ _ ≤ max _ _
        by_cases he : i = k
        · subst he
          exact ⟨Int.min_le_right _ _, Int.le_max_right _ _⟩
        · have := h3 i (by omega)
          exact ⟨Int.le_trans (Int.min_le_left _ _) this.1, Int.le_trans this.2 (Int.le_max_left _ _)⟩
structure IsBnd (a b : Int) (l : List Cr) (r : Int × Int) : Prop where
  lo : ∃ p ∈ l, r.1 = loF a b p
  hi : ∃ p ∈ l, r.2 = hiF a b p
  all : ∀ p ∈ l, r.1 ≤ loF a b p ∧ hiF a b p ≤ r.2
theorem bnd_is (a b : Int) {l : List Cr} (h : l ≠ []) : IsBnd a b l (bndF a b l) := by
  have hp : 0 < l.length := List.length_pos_iff.2 h
  obtain ⟨h1, h2, h3⟩ := bndK_is a b l l.length (Nat.le_refl _) hp
  refine ⟨h1, h2, fun p hp => ?_⟩
  obtain ⟨i, hi, rfl⟩ := List.getElem_of_mem hp
  rw [← nthC_eq hi]
  exact h3 i hi
structure CrsAt (l : List Cr) (g : Nat) (w : World) : Prop where
  lt : g < w.heap.size
  c0 : ∀ i, i < l.length → w.cell? ⟨g, i * 3, none⟩ = some (.int .i64 (nthC l i).x)
  c1 : ∀ i, i < l.length → w.cell? ⟨g, i * 3 + 1, none⟩ = some (.int .i64 (nthC l i).y)
  c2 : ∀ i, i < l.length → w.cell? ⟨g, i * 3 + 2, none⟩ = some (.int .i64 (nthC l i).d)
theorem CrsAt.below {l : List Cr} {g : Nat} {w w' : World} (h : CrsAt l g w) (hb : Below w.heap.size w w') : CrsAt l g w' :=
  ⟨Nat.lt_of_lt_of_le h.lt hb.size, fun i hi => (hb.cell (p := ⟨g, i * 3, none⟩) h.lt).trans (h.c0 i hi), fun i hi => (hb.cell (p := ⟨g, i * 3 + 1, none⟩) h.lt).trans (h.c1 i hi), fun i hi => (hb.cell (p := ⟨g, i * 3 + 2, none⟩) h.lt).trans (h.c2 i hi)⟩
theorem CrsAt.other {l : List Cr} {g n : Nat} {W : World} (h : CrsAt l g W) (hn : n ≠ g) (u v : Value) : CrsAt l g ((W.setCell ⟨n, 0, none⟩ u).setCell ⟨n, 1, none⟩ v) := by
  have hk : ((W.setCell ⟨n, 0, none⟩ u).setCell ⟨n, 1, none⟩ v).heap[g]? = W.heap[g]? := by
    rw [Below.heap_setCell _ _ _ _ (Ne.symm hn), Below.heap_setCell _ _ _ _ (Ne.symm hn)]
  exact ⟨by have := h.lt; simpa [World.setCell] using this, fun i hi => (World.cell?_of_block (w := W) (a := ⟨g, i * 3, none⟩) hk).trans (h.c0 i hi), fun i hi => (World.cell?_of_block (w := W) (a := ⟨g, i * 3 + 1, none⟩) hk).trans (h.c1 i hi), fun i hi => (World.cell?_of_block (w := W) (a := ⟨g, i * 3 + 2, none⟩) hk).trans (h.c2 i hi)⟩
/-- what a slice of corners of the call's own is -/
theorem oc_cases {B : Nat} {w : World} {v : Value} {l : List Cr} (h : OC B w v l) : (v = .slice none 0 0 ∧ l = []) ∨ ∃ g cap, v = .slice (some ⟨g, 0, none⟩) l.length cap ∧ l.length ≤ cap ∧ cap ≤ 9223372036854775807 ∧ CrsAt l g w := by
  obtain ⟨h1, h2⟩ := h
  rcases h2 with ⟨rfl, hn⟩ | ⟨g, cap, cur, rfl, hb, hg, hc, hm, hs, ht⟩
  · exact .inl ⟨rfl, List.eq_nil_of_length_eq_zero hn⟩
  · have hlt : g < w.heap.size := (Array.getElem?_eq_some_iff.1 hg).1
    have hget : ∀ j, j < l.length * 3 → w.cell? ⟨g, j, none⟩ = (crC l)[j]? := fun j hj => by
      rw [← ht, List.getElem?_take, if_pos hj]
      unfold World.cell?
      rw [hg]
      simp
    unfold maxLen at hm
    refine .inr ⟨g, cap, rfl, hc, hm, hlt, fun i hi => ?_, fun i hi => ?_, fun i hi => ?_⟩
    · rw [hget _ (by omega), nthC_eq hi]; exact (crC_get l i hi).1
    · rw [hget _ (by omega), nthC_eq hi]; exact (crC_get l i hi).2.1
    · rw [hget _ (by omega), nthC_eq hi]; exact (crC_get l i hi).2.2
/-- an interval's variable in block bo -/
structure Out2 (bo : Nat) (x y : Int) (W : World) : Prop where
  lt : bo < W.heap.size
  c0 : W.cell? ⟨bo, 0, none⟩ = some (.int .i64 x)
  c1 : W.cell? ⟨bo, 1, none⟩ = some (.int .i64 y)
  f0 : W.frozen? ⟨bo, 0, none⟩ = false
  f1 : W.frozen? ⟨bo, 1, none⟩ = false
theorem Out2.below {bo : Nat} {x y : Int} {W w' : World} (h : Out2 bo x y W) (hb : Below W.heap.size W w') : Out2 bo x y w' :=
  ⟨Nat.lt_of_lt_of_le h.lt hb.size, (hb.cell (p := ⟨bo, 0, none⟩) h.lt).trans h.c0, (hb.cell (p := ⟨bo, 1, none⟩) h.lt).trans h.c1, (hb.frozen (p := ⟨bo, 0, none⟩) h.lt).trans h.f0, (hb.frozen (p := ⟨bo, 1, none⟩) h.lt).trans h.f1⟩
theorem Out2.set {bo : Nat} {x y : Int} {W : World} (h : Out2 bo x y W) (u v : Int) : Out2 bo u v ((W.setCell ⟨bo, 0, none⟩ (.int .i64 u)).setCell ⟨bo, 1, none⟩ (.int .i64 v)) := by
  have e1 : (W.setCell ⟨bo, 0, none⟩ (.int .i64 u)).cell? ⟨bo, 1, none⟩ = some (.int .i64 y) := by rw [World.cell?_setCell_other]; exact h.c1; intro e; injection e with _ e _; cases e
  have e0 : (W.setCell ⟨bo, 0, none⟩ (.int .i64 u)).cell? ⟨bo, 0, none⟩ = some (.int .i64 u) := World.cell?_setCell_same' W _ _ (by rw [h.c0]; rfl)
  refine ⟨by have := h.lt; simpa [World.setCell] using this, ?_, World.cell?_setCell_same' _ _ _ (by rw [e1]; rfl), by rw [World.frozen?_setCell, World.frozen?_setCell]; exact h.f0, by rw [World.frozen?_setCell, World.frozen?_setCell]; exact h.f1⟩
  rw [World.cell?_setCell_other]
  · exact e0
  · intro e; injection e with _ e _; cases e
theorem Out2.other {bo n : Nat} {x y : Int} {W : World} (h : Out2 bo x y W) (hn : n ≠ bo) (u v : Value) : Out2 bo x y ((W.setCell ⟨n, 0, none⟩ u).setCell ⟨n, 1, none⟩ v) := by
  have hk : ((W.setCell ⟨n, 0, none⟩ u).setCell ⟨n, 1, none⟩ v).heap[bo]? = W.heap[bo]? := by
    rw [Below.heap_setCell _ _ _ _ (Ne.symm hn), Below.heap_setCell _ _ _ _ (Ne.symm hn)]
  exact ⟨by have := h.lt; simpa [World.setCell] using this, (World.cell?_of_block (w := W) (a := ⟨bo, 0, none⟩) hk).trans h.c0, (World.cell?_of_block (w := W) (a := ⟨bo, 1, none⟩) hk).trans h.c1, (World.frozen?_of_block (w := W) (a := ⟨bo, 0, none⟩) hk).trans h.f0, (World.frozen?_of_block (w := W) (a := ⟨bo, 1, none⟩) hk).trans h.f1⟩
theorem out2_new (w : World) (t : TypeId) : Out2 w.heap.size 0 0 (w.alloc (.cells #[.int .i64 0, .int .i64 0] t)) :=
  ⟨by simp, by rw [World.cell?_alloc_at _ _ _ _ rfl]; rfl, by rw [World.cell?_alloc_at _ _ _ _ rfl]; rfl, by go_simp, by go_simp⟩
theorem below_set2 {B n : Nat} {w w1 : World} (h : Below B w w1) (hB : B ≤ n) (u v : Value) : Below B w ((w1.setCell ⟨n, 0, none⟩ u).setCell ⟨n, 1, none⟩ v) :=
  (h.setCell (p := ⟨n, 0, none⟩) hB u).setCell (p := ⟨n, 1, none⟩) hB v
/-- a corner at which the values fit -/
structure FitP (a b : Int) (p : Cr) : Prop where
  d0 : 0 < p.d
  d1 : p.d ≤ 131072
  x0 : -1688849860263936 ≤ a * p.x
  x1 : a * p.x ≤ 1688849860263936
  y0 : -1688849860263936 ≤ b * p.y
  y1 : b * p.y ≤ 1688849860263936
theorem fl_below (x d : Int) (w : World) (a0 : -4611686018427387904 ≤ x) (a1 : x ≤ 4611686018427387904) (c0 : 0 < d) (c1 : d ≤ 131072) :
    Calls Tryz.prog 71 #[.int .i64 x, .int .i64 d] w fun e w' => e = .returned (.tuple #[.int .i64 (floorI x d), .int .i64 0]) ∧ Below w.heap.size w w' :=
  (floor_any x d w (by omega) (by omega) c0 (by omega)).mono fun e w' ⟨h1, k, h2⟩ => ⟨h1, by rw [h2]; exact below_drewN (Below.refl _ _) _⟩
theorem ce_below (x d : Int) (w : World) (a0 : -4611686018427387904 ≤ x) (a1 : x ≤ 4611686018427387904) (c0 : 0 < d) (c1 : d ≤ 131072) :
    Calls Tryz.prog 49 #[.int .i64 x, .int .i64 d] w fun e w' => e = .returned (.tuple #[.int .i64 (ceilI x d), .int .i64 0]) ∧ Below w.heap.size w w' :=
  (ceil_any x d w (by omega) (by omega) c0 (by omega)).mono fun e w' ⟨h1, k, h2⟩ => ⟨h1, by rw [h2]; exact below_drewN (Below.refl _ _) _⟩
def BndR (a b : Int) (l : List Cr) (w : World) (br bo g0 : Nat) (s : Value) (wr : World) : Prop := ∃ k : Nat, s = .int .i64 k ∧ k ≤ l.length ∧ Hid (Below w.heap.size w wr) ∧ Hid (Out2 br 0 0 wr) ∧ Hid (Out2 bo (bndK a b l k).1 (bndK a b l k).2 wr) ∧ Hid (CrsAt l g0 wr)
set_option maxHeartbeats 8000000 in
set_option maxRecDepth 100000 in
theorem bounds_some (l : List Cr) (a b : Int) (g cap : Nat) (w : World) (h : CrsAt l g w) (hc : l.length ≤ cap) (hm : cap ≤ 9223372036854775807) (hf : ∀ p ∈ l, FitP a b p) :
    Calls Tryz.prog 41 #[.slice (some ⟨g, 0, none⟩) l.length cap, .int .i64 a, .int .i64 b] w fun e w' => e = .returned (.agg #[.int .i64 (bndF a b l).1, .int .i64 (bndF a b l).2]) ∧ Below w.heap.size w w' := by
  have H := Lib.hid h
  have hlt := h.lt
  have HF := Lib.hid hf
  clear h hf
  go_enter Tryz.func41, Tryz.ntmps41
  go_wp2_with fail
  have O1 := (out2_new w 102).below ((Below.refl _ _).alloc (Nat.le_refl _) (.cells #[.int .i64 0, .int .i64 0] 102))
  have O2 := out2_new (w.alloc (.cells #[.int .i64 0, .int .i64 0] 102)) 102
  have hb0 : Below w.heap.size w ((w.alloc (.cells #[.int .i64 0, .int .i64 0] 102)).alloc (.cells #[.int .i64 0, .int .i64 0] 102)) := ((Below.refl _ _).alloc (Nat.le_refl _) _).alloc (by simp) _
  have HC := Lib.hid (H.out.below hb0)
  have HB := Lib.hid hb0
  rw [World.size_alloc] at O2
  have HO1 := Lib.hid O1
  have HO2 := Lib.hid O2
  have hne : w.heap.size ≠ w.heap.size + 1 := by omega
  clear O1 O2 hb0 H
  generalize (w.alloc (.cells #[.int .i64 0, .int .i64 0] 102)).alloc (.cells #[.int .i64 0, .int .i64 0] 102) = w0 at *
  have hle : w.heap.size ≤ w.heap.size + 1 := by omega
  generalize hbo : w.heap.size + 1 = bo at *
  have hng : bo ≠ g := by omega
  clear hbo hlt
  go_loopw [17] (BndR a b l w w.heap.size bo g) (fun i _ => l.length - (intOf i).toNat)
  case atStart => exact ⟨0, rfl, Nat.zero_le _, HB, HO1, HO2, HC⟩
  case round =>
    obtain ⟨k, rfl, hk, HB, HR, HO, HC⟩ := hrel
    by_cases q : k < l.length
    · have q' : decide (k < l.length) = true := by simpa using q
      have M := HC.out
      have c0 := M.c0 k q
      have c1 := M.c1 k q
      have c2 := M.c2 k q
      have f := HF.out _ (nthC_mem q)
      have d0 := f.d0
      have d1 := f.d1
      have x0 := f.x0
      have x1 := f.x1
      have y0 := f.y0
      have y1 := f.y1
      have ELO := Lib.hid (show loF a b (nthC l k) = floorI (a * (nthC l k).x + b * (nthC l k).y) (nthC l k).d from rfl)
      have EHI := Lib.hid (show hiF a b (nthC l k) = ceilI (a * (nthC l k).x + b * (nthC l k).y) (nthC l k).d from rfl)
      have FL := Lib.hid fun w => fl_below (a * (nthC l k).x + b * (nthC l k).y) (nthC l k).d w (by omega) (by omega) d0 d1
      have CE := Lib.hid fun w => ce_below (a * (nthC l k).x + b * (nthC l k).y) (nthC l k).d w (by omega) (by omega) d0 d1
      have CN := Lib.hid fun w => cr_new (nthC l k) w 133
      have EK := Lib.hid (show bndK a b l (k + 1) = if k = 0 then (loF a b (nthC l 0), hiF a b (nthC l 0)) else (min (bndK a b l k).1 (loF a b (nthC l k)), max (bndK a b l k).2 (hiF a b (nthC l k))) from rfl)
      clear M f
      generalize hp : nthC l k = p at *
      have HP := Lib.hid hp
      clear hp
      obtain ⟨px, py, pd⟩ := p
      simp only at *
      generalize floorI (a * px + b * py) pd = lo at *
      generalize ceilI (a * px + b * py) pd = hi at *
      go_wp2_with fail
      refine (FL.out _).mono ?_
      rintro e w2 ⟨rfl, hb2⟩
      have hbr : Below wr.heap.size wr w2 := ((Below.refl _ _).alloc (Nat.le_refl _) _).trans (hb2.mono (by simp))
      have P2 := (CN.out wr).below hb2
      have p2 := P2.c2
      have HP2 := Lib.hid P2
      have HO2 := Lib.hid (HO.out.below hbr)
      have HR2 := Lib.hid (HR.out.below hbr)
      have HC2 := Lib.hid (HC.out.below hbr)
      have HB2 := Lib.hid (HB.out.trans (hbr.mono HB.out.size))
      clear c0 c1 c2 P2 hb2 hbr HO HR HC HB
      go_wp2_with fail
      refine (CE.out _).mono ?_
      rintro e w3 ⟨rfl, hb3⟩
      have HO3 := Lib.hid (HO2.out.below hb3)
      have HR3 := Lib.hid (HR2.out.below hb3)
      have HC3 := Lib.hid (HC2.out.below hb3)
      have HB3 := Lib.hid (HB2.out.trans (hb3.mono HB2.out.size))
      clear hb3 p2 HP2
      have o0 := HO3.out.c0
      have o1 := HO3.out.c1
      have o2 := HO3.out.f0
      have o3 := HO3.out.f1
      by_cases hz : k = 0
      · subst hz
        have EE := Lib.hid (show bndK a b l 1 = (lo, hi) by rw [EK.out, if_pos rfl, HP.out, ELO.out, EHI.out])
        go_wp2_with fail
        go_roundw
        case rel => exact ⟨1, by go_num, by omega, below_set2 (below_set2 HB3.out hle _ _) hle _ _, (HR3.out.other (Ne.symm hne) _ _).other (Ne.symm hne) _ _, by rw [EE.out]; exact (HO3.out.set _ _).set _ _, (HC3.out.other hng _ _).other hng _ _⟩
        case measure => simp [intOf]; omega
      · have gz : ((k : Int) == 0) = false := by simpa using hz
        have EE := Lib.hid (show bndK a b l (k + 1) = (min (bndK a b l k).1 lo, max (bndK a b l k).2 hi) by rw [EK.out, if_neg hz, ELO.out, EHI.out])
        clear hz
        generalize bndK a b l k = r at *
        obtain ⟨r0, r1⟩ := r
        go_wp2_with fail
        go_roundw
        case rel => exact ⟨k + 1, by go_num, by omega, below_set2 HB3.out hle _ _, HR3.out.other (Ne.symm hne) _ _, by rw [EE.out]; exact HO3.out.set _ _, HC3.out.other hng _ _⟩
        case measure => simp [intOf]; omega
    · obtain rfl : k = l.length := by omega
      have o0 := HO.out.c0
      have o1 := HO.out.c1
      have o4 := HR.out.c0
      have o5 := HR.out.c1
      have o6 := HR.out.f0
      have o7 := HR.out.f1
      have EB := Lib.hid (show bndF a b l = bndK a b l l.length from rfl)
      generalize bndK a b l l.length = r at *
      obtain ⟨r0, r1⟩ := r
      simp only at o0 o1
      go_wp2_with fail
      refine bodyPost_ret (v := .agg #[.int .i64 r0, .int .i64 r1]) (by simp [results, Tryz.results41, go_sem, o4, o5]) rfl ⟨by rw [EB.out], below_set2 HB.out (Nat.le_refl _) _ _⟩
theorem bounds_nil (a b : Int) (w : World) :
    Calls Tryz.prog 41 #[.slice none 0 0, .int .i64 a, .int .i64 b] w fun e w' => e = .returned (.agg #[.int .i64 0, .int .i64 0]) ∧ Below w.heap.size w w' := by
  go_enter Tryz.func41, Tryz.ntmps41
  go_wp2
  go_loop [17] (fun v => v = .int .i64 0) (fun _ => 0)
  case atStart => rfl
  case round =>
    subst hrel
    go_wp2_with fail
    refine bodyPost_ret (v := .agg #[.int .i64 0, .int .i64 0]) (by simp [results, Tryz.results41, go_sem]) rfl ⟨rfl, ?_⟩
    first
      | exact below_set2 (((Below.refl _ _).alloc (Nat.le_refl _) _).alloc (by simp) _) (Nat.le_refl _) _ _
      | exact ((Below.refl _ _).alloc (Nat.le_refl _) _).alloc (by simp) _
theorem bounds_any (l : List Cr) (a b : Int) (B : Nat) (v : Value) (w : World) (h : OC B w v l) (hf : ∀ p ∈ l, FitP a b p) :
    Calls Tryz.prog 41 #[v, .int .i64 a, .int .i64 b] w fun e w' => e = .returned (.agg #[.int .i64 (bndF a b l).1, .int .i64 (bndF a b l).2]) ∧ Below w.heap.size w w' := by
  rcases oc_cases h with ⟨rfl, rfl⟩ | ⟨g, cap, rfl, h2, h3, h4⟩
  · exact bounds_nil a b w
  · exact bounds_some l a b g cap w h4 h2 h3 hf
end Go.Proofs.YtidelghgjibndaaGreat.S44
namespace Go.Proofs.YtidelghgjibndaaGreat.S44
set_option linter.unusedVariables false
open Go.RowKit
theorem oc_len {B : Nat} {w : World} {v : Value} {l : List Cr} (h : OC B w v l) : ∃ p cap, v = .slice p l.length cap := by
  rcases oc_cases h with ⟨rfl, rfl⟩ | ⟨g, cap, rfl, _⟩
  · exact ⟨none, 0, rfl⟩
  · exact ⟨_, _, rfl⟩
def conF (l : List Ms) : Bool × Int := if chkL l = 0 then (if fullB l = true then (decide (0 < (corL l).length), 0) else (false, 14)) else (false, chkL l)
theorem ed_of {l : List Ms} (h : chkL l = 0) : (∀ m ∈ l, EdM m) ∧ l.length ≤ 17 := ⟨fun m hm => OkM.ed ((chkL_ok h).2 m hm), by have := (chkL_ok h).1; omega⟩
set_option maxHeartbeats 1000000 in
theorem con_any (l : List Ms) (v : Value) (w : World) (h : LstAt l v w) :
    Calls Tryz.prog 20 #[v] w fun e w' => e = .returned (.tuple #[.bool (conF l).1, .int .i64 (conF l).2]) ∧ Below w.heap.size w w' := by
  have CH := fun w hv => check_any l v w hv
  have H := Lib.hid h
  clear h
  by_cases hc : chkL l = 0
  · obtain ⟨he, hl⟩ := ed_of hc
    rw [hc] at CH
    have HCH := Lib.hid CH
    have FU := fun w hv => full_any l v w hv he hl
    have CO := Lib.hid fun w hv => corners_any l v w hv he hl
    have E0 : conF l = if fullB l = true then (decide (0 < (corL l).length), 0) else (false, 14) := by unfold conF; rw [if_pos hc]
    clear CH hc he
    cases hf : fullB l with
    | false =>
      rw [hf] at FU
      have HFU := Lib.hid FU
      have E := Lib.hid (show conF l = (false, 14) by rw [E0, hf]; rfl)
      clear FU hf E0
      go_enter Tryz.func20, Tryz.ntmps20
      go_wp2_with (first
        | (go_at_call 38; refine (HCH.out _ H.out).mono ?_; rintro e w1 ⟨rfl, hb1⟩)
        | (go_at_call 39; refine (HFU.out _ (H.out.below hb1)).mono ?_; rintro e w2 ⟨rfl, hb2⟩))
      go_ret2
      exact ⟨by rw [E.out]; rfl, hb1.trans (hb2.mono hb1.size)⟩
    | true =>
      rw [hf] at FU
      have HFU := Lib.hid FU
      have E := Lib.hid (show conF l = (decide (0 < (corL l).length), 0) by rw [E0, hf]; rfl)
      clear FU hf E0
      go_enter Tryz.func20, Tryz.ntmps20
      go_wp2_with fail
      refine (HCH.out _ H.out).mono ?_
      rintro e w1 ⟨rfl, hb1⟩
      have HB1 := Lib.hid hb1
      clear hb1
      go_wp2_with fail
      refine (HFU.out _ (H.out.below HB1.out)).mono ?_
      rintro e w2 ⟨rfl, hb2⟩
      have HB2 := Lib.hid (HB1.out.trans (hb2.mono HB1.out.size))
      clear hb2
      go_wp2_with fail
      refine (CO.out _ (H.out.below HB2.out)).mono ?_
      rintro e w3 ⟨⟨u, rfl, hoc⟩, hb3⟩
      obtain ⟨p, cap, rfl⟩ := oc_len hoc
      have HB3 := Lib.hid (HB2.out.trans (hb3.mono HB2.out.size))
      clear hb3 hoc
      go_wp2
      go_ret2
      exact ⟨by rw [E.out]; simp, HB3.out⟩
  · have g : (chkL l != 0) = true := by simpa using hc
    have HCH := Lib.hid CH
    have E := Lib.hid (show conF l = (false, chkL l) by unfold conF; rw [if_neg hc])
    clear CH hc
    generalize chkL l = c at *
    go_enter Tryz.func20, Tryz.ntmps20
    go_wp2_with (go_at_call 38; refine (HCH.out _ H.out).mono ?_; rintro e w1 ⟨rfl, hb1⟩)
    go_ret2
    exact ⟨by rw [E.out]; rfl, hb1⟩
structure SmAB (a b : Int) : Prop where
  a0 : -256 ≤ a
  a1 : a ≤ 256
  b0 : -256 ≤ b
  b1 : b ≤ 256
theorem fit_of {l : List Ms} {a b : Int} (he : ∀ m ∈ l, EdM m) (h : SmAB a b) : ∀ p ∈ corL l, FitP a b p := by
  intro p hp
  have hc := mem_corL.1 hp
  have hpos := hc.pos
  obtain ⟨m, hm, n, hn, hd, s, t, rfl⟩ := hc.of
  have sm := cross_sm (he m hm) (he n hn) (edge_sm (he m hm) s) (edge_sm (he n hn) t)
  generalize crossC m n (edgeC m s) (edgeC n t) = p at *
  have x := mul_abs (X := 256) (Y := 6597069766656) h.a0 h.a1 sm.x0 sm.x1
  have y := mul_abs (X := 256) (Y := 6597069766656) h.b0 h.b1 sm.y0 sm.y1
  exact ⟨hpos, sm.d1, by omega, by omega, by omega, by omega⟩
end Go.Proofs.YtidelghgjibndaaGreat.S44
namespace Go.Proofs.YtidelghgjibndaaGreat.S44
set_option linter.unusedVariables false
open Go.RowKit
set_option maxHeartbeats 4000000 in
theorem wo_some (l : List Ms) (s : Int) (b o cap : Nat) (w : World) (h : MsAt l b o w) (hc : l.length ≤ cap) (hm : cap ≤ 9223372036854775807) (hl : l.length ≤ 17) :
    Calls Tryz.prog 19 #[.slice (some ⟨b, o, none⟩) l.length cap, .int .i64 s] w fun e w' => (∃ u, e = .returned u ∧ OM w.heap.size w' u (woL l s)) ∧ Below w.heap.size w w' := by
  have H := Lib.hid h
  have hlt := h.lt
  clear h
  go_enter Tryz.func19, Tryz.ntmps19
  go_wp2
  go_loopw [5, 10] (WoR l s w) (fun _ i _ => l.length - (intOf i).toNat)
  case atStart => exact ⟨0, rfl, Nat.zero_le _, Lib.hid (Below.refl _ _), Lib.hid (World.ownsRow_nil _ _ _ _)⟩
  case round =>
    obtain ⟨k, rfl, hk, HB, HO⟩ := hrel
    by_cases q : k < l.length
    · have q' : decide (k < l.length) = true := by simpa using q
      have M := H.out.keep HB.out hlt
      have c0 := M.c0 k q
      have c1 := M.c1 k q
      have c2 := M.c2 k q
      have c3 := M.c3 k q
      have c4 := M.c4 k q
      have c5 := M.c5 k q
      have WS := Lib.hid (woL_succ (s := s) q)
      have SZ := Lib.hid (show (woL (l.take k) s).length ≤ 100000 by have := woL_len (l.take k) s; rw [List.length_take] at this; omega)
      have HS := Lib.hid HB.out.size
      clear M
      generalize hp : nth l k = p at *
      clear hp
      by_cases e : p.s = s
      · have g : (p.s != s) = false := by simpa using e
        have E := Lib.hid e
        clear e
        go_wp2
        go_roundw
        case rel =>
          have hb := (Below.refl wr.heap.size wr).alloc (Nat.le_refl _) (.cells #[.int .i64 p.s, .int .i64 p.a, .int .i64 p.b, .int .i64 p.z, .int .i64 p.d, .int .i64 p.w] 59)
          exact ⟨k + 1, by go_num, by omega, HB.out.trans (hb.mono HS.out), by rw [WS.out, if_pos E.out]; exact HO.out.below hb⟩
        case measure => simp [intOf]; omega
      · have g : (p.s != s) = true := by simpa using e
        have HA := Lib.hid ((Below.refl wr.heap.size wr).alloc (Nat.le_refl _) (.cells #[.int .i64 p.s, .int .i64 p.a, .int .i64 p.b, .int .i64 p.z, .int .i64 p.d, .int .i64 p.w] 59))
        go_wp2_with (at_builtin; refine Halt.mk ?_)
        unfold Halt
        refine wpList_om rfl (.tmp 18) (.tmp 20) rfl w.heap.size u5 (woL (l.take k) s) rfl (wr.alloc (.cells #[.int .i64 p.s, .int .i64 p.a, .int .i64 p.b, .int .i64 p.z, .int .i64 p.d, .int .i64 p.w] 59)) (HO.out.below HA.out) _ p 1 (by rw [World.size_alloc]; rfl) SZ.out (by have := HS.out; simp; omega) ?_
        intro u2 w5 ho5 hg5 hat5
        have HO5 : Hid (OM w.heap.size w5 u2 (woL (l.take (k + 1)) s)) := Lib.hid (by rw [WS.out, if_neg e]; exact ho5)
        have HB5 : Hid (Below w.heap.size w w5) := Lib.hid (below_grown ((HB.out.trans (HA.out.mono HS.out)).alloc (by simp; have := HS.out; omega) _) hg5 (by simp; have := HS.out; omega) (fun k hk => (World.ownsRow.lt HO.out k hk).1))
        clear hg5 hat5 c0 c1 c2 c3 c4 c5
        obtain ⟨g5, cap5, hu2⟩ := Go.Joins.ownsRow_form ho5 (show 0 < (woL (l.take k) s ++ [p]).length by rw [List.length_append, List.length_singleton]; omega)
        obtain ⟨N5, hN5⟩ : ∃ N, (woL (l.take k) s ++ [p]).length = N := ⟨_, rfl⟩
        rw [hN5] at hu2
        clear ho5 hN5
        subst hu2
        go_wp2
        go_roundw
        case rel => exact ⟨k + 1, by go_num, by omega, HB5, HO5⟩
        case measure => simp [intOf]; omega
    · obtain rfl : k = l.length := by omega
      rw [List.take_length] at HO
      rcases om_cases HO.out with ⟨rfl, hz⟩ | ⟨g, cap', rfl, _⟩
      · go_wp2
        go_ret
        exact ⟨⟨_, rfl, HO.out⟩, HB.out⟩
      · go_wp2
        go_ret
        exact ⟨⟨_, rfl, HO.out⟩, HB.out⟩
theorem wo_any (l : List Ms) (s : Int) (v : Value) (w : World) (h : LstAt l v w) (hl : l.length ≤ 17) :
    Calls Tryz.prog 19 #[v, .int .i64 s] w fun e w' => (∃ u, e = .returned u ∧ OM w.heap.size w' u (woL l s)) ∧ Below w.heap.size w w' := by
  rcases h with ⟨rfl, rfl⟩ | ⟨b, o, cap, rfl, h2, h3, h4⟩
  · exact wo_nil s w
  · exact wo_some l s b o cap w h4 h2 h3 hl
end Go.Proofs.YtidelghgjibndaaGreat.S44
namespace Go.Proofs.YtidelghgjibndaaGreat.S44
set_option linter.unusedVariables false
open Go.RowKit
set_option maxHeartbeats 4000000 in
theorem src_some (l : List Ms) (b o cap : Nat) (w : World) (h : MsAt l b o w) (hc : l.length ≤ cap) (hm : cap ≤ 9223372036854775807) (hl : l.length ≤ 17) :
    Calls Tryz.prog 29 #[.slice (some ⟨b, o, none⟩) l.length cap] w fun e w' => (∃ u, e = .returned u ∧ OI w.heap.size w' u (srcL l)) ∧ Below w.heap.size w w' := by
  have H := Lib.hid h
  have hlt := h.lt
  clear h
  go_enter Tryz.func29, Tryz.ntmps29
  go_wp2
  go_loopw [3, 8] (SrR l w) (fun _ i _ => l.length - (intOf i).toNat)
  case atStart => exact ⟨0, rfl, Nat.zero_le _, Lib.hid (Below.refl _ _), Lib.hid (World.ownsRow_nil _ _ _ _)⟩
  case round =>
    obtain ⟨k, rfl, hk, HB, HO⟩ := hrel
    by_cases q : k < l.length
    · have q' : decide (k < l.length) = true := by simpa using q
      have M := H.out.keep HB.out hlt
      have c0 := M.c0 k q
      have c1 := M.c1 k q
      have c2 := M.c2 k q
      have c3 := M.c3 k q
      have c4 := M.c4 k q
      have c5 := M.c5 k q
      have WS := Lib.hid (srcs_succ q)
      have SZ := Lib.hid (show ((l.take k).map Ms.s).length ≤ 100000 by rw [List.length_map, List.length_take]; omega)
      have HS := Lib.hid HB.out.size
      clear M
      generalize hp : nth l k = p at *
      clear hp
      have HA := Lib.hid ((Below.refl wr.heap.size wr).alloc (Nat.le_refl _) (.cells #[.int .i64 p.s, .int .i64 p.a, .int .i64 p.b, .int .i64 p.z, .int .i64 p.d, .int .i64 p.w] 59))
      go_wp2_with (at_builtin; refine Halt.mk ?_)
      unfold Halt
      refine wpList_oi rfl (.tmp 12) (.tmp 15) rfl w.heap.size u3 ((l.take k).map Ms.s) rfl (wr.alloc (.cells #[.int .i64 p.s, .int .i64 p.a, .int .i64 p.b, .int .i64 p.z, .int .i64 p.d, .int .i64 p.w] 59)) (HO.out.below HA.out) _ p.s 1 (by rw [World.size_alloc]; rfl) SZ.out (by have := HS.out; simp; omega) ?_
      intro u2 w5 ho5 hg5 hat5
      have HO5 : Hid (OI w.heap.size w5 u2 ((l.take (k + 1)).map Ms.s)) := Lib.hid (by rw [WS.out]; exact ho5)
      have HB5 : Hid (Below w.heap.size w w5) := Lib.hid (below_grown ((HB.out.trans (HA.out.mono HS.out)).alloc (by simp; have := HS.out; omega) _) hg5 (by simp; have := HS.out; omega) (fun k hk => (World.ownsRow.lt HO.out k hk).1))
      clear hg5 hat5 c0 c1 c2 c3 c4 c5
      obtain ⟨g5, cap5, hu2⟩ := Go.Joins.ownsRow_form ho5 (show 0 < ((l.take k).map Ms.s ++ [p.s]).length by rw [List.length_append, List.length_singleton]; omega)
      obtain ⟨N5, hN5⟩ : ∃ N, ((l.take k).map Ms.s ++ [p.s]).length = N := ⟨_, rfl⟩
      rw [hN5] at hu2
      clear ho5 hN5
      subst hu2
      go_wp2
      go_roundw
      case rel => exact ⟨k + 1, by go_num, by omega, HB5, HO5⟩
      case measure => simp [intOf]; omega
    · obtain rfl : k = l.length := by omega
      rw [List.take_length] at HO
      have HS := HB.out.size
      have L1 : (l.map Ms.s).length ≤ 100000 := by rw [List.length_map]; omega
      have L2 : (srtL l).length ≤ 100000 := by rw [srt_len]; omega
      have SO := Lib.hid (sort_own HO.out L1 HS)
      have CO := Lib.hid fun w1 (h : OI w.heap.size w1 u3 (srtL l)) (hs : w.heap.size ≤ w1.heap.size) => compact_own h L2 hs
      have FM : (∃ x y z, u3 = .slice x y z) := by
        rcases oi_cases HO.out with ⟨h, _⟩ | ⟨g, cap', h, _⟩
        · exact ⟨_, _, _, h⟩
        · exact ⟨_, _, _, h⟩
      obtain ⟨x3, y3, z3, rfl⟩ := FM
      clear HO
      go_wp2_with fail
      refine SO.out.mono ?_
      rintro e w1 ⟨rfl, ho1, hb1⟩
      have C1 := Lib.hid (CO.out w1 ho1 (Nat.le_trans HS hb1.size))
      have HB1 := Lib.hid (HB.out.trans hb1)
      clear ho1 hb1
      go_wp2_with fail
      refine C1.out.mono ?_
      rintro e w2 ⟨⟨u, rfl, ho2⟩, hb2⟩
      have HB2 := Lib.hid (HB1.out.trans hb2)
      have HO2 : Hid (OI w.heap.size w2 u (srcL l)) := Lib.hid ho2
      clear hb2
      have FM : (∃ x y z, u = .slice x y z) := by
        rcases oi_cases ho2 with ⟨h, _⟩ | ⟨g, cap', h, _⟩
        · exact ⟨_, _, _, h⟩
        · exact ⟨_, _, _, h⟩
      obtain ⟨x4, y4, z4, rfl⟩ := FM
      clear ho2
      go_wp2
      go_ret
      exact ⟨⟨_, rfl, HO2.out⟩, HB2.out⟩
theorem src_any (l : List Ms) (v : Value) (w : World) (h : LstAt l v w) (hl : l.length ≤ 17) :
    Calls Tryz.prog 29 #[v] w fun e w' => (∃ u, e = .returned u ∧ OI w.heap.size w' u (srcL l)) ∧ Below w.heap.size w w' := by
  rcases h with ⟨rfl, rfl⟩ | ⟨b, o, cap, rfl, h2, h3, h4⟩
  · exact src_nil w
  · exact src_some l b o cap w h4 h2 h3 hl
end Go.Proofs.YtidelghgjibndaaGreat.S44
namespace Go.Proofs.YtidelghgjibndaaGreat.S44
set_option linter.unusedVariables false
open Go.RowKit
def okS (l : List Ms) (s : Int) : Bool := decide (0 < (corL (woL l s)).length)
def fuS (l : List Ms) (s : Int) : Bool := fullB (woL l s)
def rgtL (l : List Ms) (k : Nat) : List Int := ((srcL l).take k).filter (okS l)
theorem rgtL_succ {l : List Ms} {k : Nat} (h : k < (srcL l).length) : rgtL l (k + 1) = if okS l ((srcL l).getD k 0) = true then rgtL l k ++ [(srcL l).getD k 0] else rgtL l k := by
  have e : (srcL l).getD k 0 = (srcL l)[k] := by rw [List.getD_eq_getElem?_getD, List.getElem?_eq_getElem h]; rfl
  unfold rgtL
  rw [List.take_succ_eq_append_getElem h, List.filter_append, e]
  by_cases q : okS l (srcL l)[k] = true
  · rw [if_pos q]
    simp [q]
  · rw [if_neg q]
    simp [q]
theorem rgtL_len (l : List Ms) (k : Nat) : (rgtL l k).length ≤ l.length := by
  unfold rgtL
  have h1 := List.length_filter_le (okS l) ((srcL l).take k)
  rw [List.length_take] at h1
  have := src_len l
  omega
/-- what Fault says of a list of right sources -/
def verd (c : Nat) (r : List Int) : Int × Int := if 0 < c then (0, 0) else if r.length = 0 then (0, 11) else if 1 < r.length then (0, 8) else (r.getD 0 0, 0)
def fltF (l : List Ms) : Int × Int :=
  if chkL l = 0 then (if fullB l = true then (if (srcL l).all (fuS l) = true then verd (corL l).length ((srcL l).filter (okS l)) else (0, 14)) else (0, 14)) else (0, chkL l)
theorem wo_ed {l : List Ms} (he : ∀ m ∈ l, EdM m) (s : Int) : ∀ m ∈ woL l s, EdM m := fun m hm => he m (List.mem_filter.1 hm).1
theorem slc_of {B : Nat} {w : World} {v : Value} {l : List Int} (h : OI B w v l) : ∃ p cap, v = .slice p l.length cap := by
  rcases oi_cases h with ⟨rfl, rfl⟩ | ⟨g, cap, rfl, _⟩
  · exact ⟨none, 0, rfl⟩
  · exact ⟨_, _, rfl⟩
theorem slm_of {B : Nat} {w : World} {v : Value} {l : List Ms} (h : OM B w v l) : ∃ p cap, v = .slice p l.length cap := by
  rcases om_cases h with ⟨rfl, rfl⟩ | ⟨g, cap, rfl, _⟩
  · exact ⟨none, 0, rfl⟩
  · exact ⟨_, _, rfl⟩
def FlR (l : List Ms) (w W1 : World) (v u : Value) (wr : World) : Prop :=
  ∃ k : Nat, u = .int .i64 k ∧ k ≤ (srcL l).length ∧ Hid (Below W1.heap.size W1 wr) ∧ Hid (OI W1.heap.size wr v (rgtL l k)) ∧ Hid (∀ j, j < k → fuS l ((srcL l).getD j 0) = true)
def FlP (l : List Ms) (w : World) (e : Ending) (w' : World) : Prop := e = .returned (.tuple #[.int .i64 (fltF l).1, .int .i64 (fltF l).2]) ∧ Below w.heap.size w w'
set_option maxHeartbeats 8000000 in
theorem flt_any (l : List Ms) (v : Value) (w : World) (h : LstAt l v w) :
    Calls Tryz.prog 17 #[v] w (FlP l w) := by
  have CH := fun w hv => check_any l v w hv
  have H := Lib.hid h
  clear h
  by_cases hc : chkL l = 0
  · obtain ⟨he, hl⟩ := ed_of hc
    rw [hc] at CH
    have HCH := Lib.hid CH
    have FU := fun w hv => full_any l v w hv he hl
    have CO := Lib.hid fun w hv => corners_any l v w hv he hl
    have SR := Lib.hid fun w hv => src_any l v w hv hl
    have WO := Lib.hid fun s w hv => wo_any l s v w hv hl
    have E0 : fltF l = if fullB l = true then (if (srcL l).all (fuS l) = true then verd (corL l).length ((srcL l).filter (okS l)) else (0, 14)) else (0, 14) := by unfold fltF; rw [if_pos hc]
    have HE := Lib.hid he
    clear CH hc he
    cases hf : fullB l with
    | false =>
      rw [hf] at FU
      have HFU := Lib.hid FU
      have E := Lib.hid (show fltF l = (0, 14) by rw [E0, hf]; rfl)
      clear FU hf E0
      go_enter Tryz.func17, Tryz.ntmps17
      go_wp2_with fail
      refine (HCH.out _ H.out).mono ?_
      rintro e w1 ⟨rfl, hb1⟩
      have HB1 := Lib.hid hb1
      clear hb1
      go_wp2_with fail
      refine (HFU.out _ (H.out.below HB1.out)).mono ?_
      rintro e w2 ⟨rfl, hb2⟩
      have HB2 := Lib.hid (HB1.out.trans (hb2.mono HB1.out.size))
      clear hb2
      go_wp2
      go_ret2
      exact ⟨by rw [E.out]; rfl, HB2.out⟩
    | true =>
      rw [hf] at FU
      have HFU := Lib.hid FU
      have E := Lib.hid (show fltF l = if (srcL l).all (fuS l) = true then verd (corL l).length ((srcL l).filter (okS l)) else (0, 14) by rw [E0, hf]; rfl)
      clear FU hf E0
      go_enter Tryz.func17, Tryz.ntmps17
      go_wp2_with fail
      refine (HCH.out _ H.out).mono ?_
      rintro e w1 ⟨rfl, hb1⟩
      have HB1 := Lib.hid hb1
      clear hb1
      go_wp2_with fail
      refine (HFU.out _ (H.out.below HB1.out)).mono ?_
      rintro e w2 ⟨rfl, hb2⟩
      have HB2 := Lib.hid (HB1.out.trans (hb2.mono HB1.out.size))
      clear hb2
      go_wp2_with fail
      refine (SR.out _ (H.out.below HB2.out)).mono ?_
      rintro e w3 ⟨⟨u, rfl, hoi⟩, hb3⟩
      have HB3 := Lib.hid (HB2.out.trans (hb3.mono HB2.out.size))
      have HOI := Lib.hid hoi
      have HL := Lib.hid (H.out.below HB3.out)
      clear hb3
      obtain ⟨p, cap, rfl⟩ := slc_of hoi
      clear hoi
      go_wp2_with fail
      go_loopw [5, 22] (FlR l w w3) (fun _ i _ => (srcL l).length - (intOf i).toNat)
      case atStart => exact ⟨0, rfl, Nat.zero_le _, Lib.hid (Below.refl _ _), Lib.hid (by unfold rgtL; rw [List.take_zero, List.filter_nil]; exact World.ownsRow_nil _ _ _ _), Lib.hid fun j hj => absurd hj (by omega)⟩
      case round =>
        obtain ⟨k, rfl, hk, HB, HO, HF⟩ := hrel
        have HS := Lib.hid HB.out.size
        have HLr := Lib.hid (HL.out.below HB.out)
        have HBr := Lib.hid (HB3.out.trans (HB.out.mono HB3.out.size))
        by_cases q : k < (srcL l).length
        · have q' : decide (k < (srcL l).length) = true := by simpa using q
          have HPO : ∃ g, p = some ⟨g, 0, none⟩ ∧ (srcL l).length ≤ cap ∧ cap ≤ 9223372036854775807 ∧ IntsAt (srcL l) g wr := by
            rcases oi_cases HOI.out with ⟨e, hz⟩ | ⟨g, c, e, h1, h2, _, h3⟩
            · rw [hz] at q; exact absurd q (by simp)
            · cases e
              exact ⟨g, rfl, h1, h2, h3.below HB.out⟩
          obtain ⟨g, rfl, hcap, hcm, hia⟩ := HPO
          have c0 := hia.c k q
          have RS := Lib.hid (rgtL_succ q)
          have MEM : (srcL l).getD k 0 ∈ srcL l := by
            rw [List.getD_eq_getElem?_getD, List.getElem?_eq_getElem q]
            exact List.getElem_mem q
          have FALLS := fun h : fuS l ((srcL l).getD k 0) = false => show fltF l = (0, 14) by
            rw [E.out, if_neg]
            intro e
            have := List.all_eq_true.1 e _ MEM
            rw [h] at this
            cases this
          have HFA := Lib.hid FALLS
          have SZ := Lib.hid (show (rgtL l k).length ≤ 100000 by have := rgtL_len l k; omega)
          clear hia MEM FALLS
          generalize hsk : (srcL l).getD k 0 = s at *
          have HSK := Lib.hid hsk
          clear hsk
          have FUS := Lib.hid fun v w (h : LstAt (woL l s) v w) => full_any (woL l s) v w h (wo_ed HE.out s) (by have := woL_len l s; omega)
          have COS := Lib.hid fun v w (h : LstAt (woL l s) v w) => corners_any (woL l s) v w h (wo_ed HE.out s) (by have := woL_len l s; omega)
          have EFU := Lib.hid (show fuS l s = fullB (woL l s) from rfl)
          go_wp2_with fail
          refine (WO.out s _ HLr.out).mono ?_
          rintro e w4 ⟨⟨u4, rfl, hom⟩, hb4⟩
          have HL4 := Lib.hid hom.lst
          have HB4 := Lib.hid hb4
          clear hb4
          obtain ⟨p4, cap4, rfl⟩ := slm_of hom
          clear hom
          generalize hN4 : (woL l s).length = N4 at *
          clear hN4
          have FU4 := FUS.out _ _ HL4.out
          rw [← EFU.out] at FU4
          cases hfs : fuS l s with
          | false =>
            have EE := Lib.hid (HFA.out hfs)
            rw [hfs] at FU4
            have HFU4 := Lib.hid FU4
            clear FU4 hfs
            go_wp2_with fail
            refine HFU4.out.mono ?_
            rintro e w5 ⟨rfl, hb5⟩
            have HB5 := Lib.hid ((HBr.out.trans (HB4.out.mono HBr.out.size)).trans (hb5.mono (by have := HBr.out.size; have := HB4.out.size; omega)))
            clear hb5
            go_wp2
            go_ret2
            exact ⟨by rw [EE.out]; rfl, HB5.out⟩
          | true =>
            have HFk := Lib.hid (show ∀ j, j < k → fuS l ((srcL l).getD j 0) = true from HF.out)
            rw [hfs] at FU4
            have HFU4 := Lib.hid FU4
            have HFS := Lib.hid hfs
            clear FU4 hfs
            go_wp2_with fail
            refine HFU4.out.mono ?_
            rintro e w5 ⟨rfl, hb5⟩
            have HL5 := Lib.hid (HL4.out.below hb5)
            have HB5 := Lib.hid (HB4.out.trans (hb5.mono HB4.out.size))
            clear hb5
            go_wp2_with fail
            refine (COS.out _ _ HL5.out).mono ?_
            rintro e w6 ⟨⟨u6, rfl, hoc⟩, hb6⟩
            obtain ⟨p6, cap6, rfl⟩ := oc_len hoc
            have HB6 := Lib.hid (HB5.out.trans (hb6.mono HB5.out.size))
            clear hb6 hoc
            have HR6 := Lib.hid (show Below w3.heap.size w3 w6 from HB.out.trans (HB6.out.mono HS.out))
            have HO6 := Lib.hid (HO.out.below HB6.out)
            have OKE := Lib.hid (show okS l s = decide (0 < (corL (woL l s)).length) from rfl)
            generalize (corL (woL l s)).length = N6 at *
            have HF2 : Hid (∀ j, j < k + 1 → fuS l ((srcL l).getD j 0) = true) := Lib.hid fun j hj => by
              by_cases e : j = k
              · rw [e, HSK.out]; exact HFS.out
              · exact HFk.out j (by omega)
            by_cases hz : 0 < N6
            · have gz : decide (0 < (N6 : Int)) = true := by simp; omega
              have gz2 : decide (0 < N6) = true := by simpa using hz
              have RS2 := Lib.hid (RS.out.trans (if_pos (by rw [OKE.out]; exact decide_eq_true hz)))
              have HS6 := Lib.hid (show w3.heap.size ≤ w6.heap.size from HR6.out.size)
              clear hz
              go_wp2_with (at_builtin; refine Halt.mk ?_)
              unfold Halt
              refine wpList_oi rfl (.tmp 36) (.tmp 38) rfl w3.heap.size u5 (rgtL l k) rfl w6 HO6.out _ s 1 rfl SZ.out HS6.out ?_
              intro u2 w7 ho7 hg7 hat7
              have HO7 : Hid (OI w3.heap.size w7 u2 (rgtL l (k + 1))) := Lib.hid (by rw [RS2.out]; exact ho7)
              have HB7 : Hid (Below w3.heap.size w3 w7) := Lib.hid (below_grown (HR6.out.alloc HS6.out _) hg7 (by simp; have := HS6.out; omega) (fun k hk => (World.ownsRow.lt HO6.out k hk).1))
              clear hg7 hat7
              obtain ⟨g7, cap7, hu2⟩ := Go.Joins.ownsRow_form ho7 (show 0 < (rgtL l k ++ [s]).length by rw [List.length_append, List.length_singleton]; omega)
              obtain ⟨N7, hN7⟩ : ∃ N, (rgtL l k ++ [s]).length = N := ⟨_, rfl⟩
              rw [hN7] at hu2
              clear ho7 hN7
              subst hu2
              go_wp2
              go_roundw
              case rel => exact ⟨k + 1, by go_num, by omega, HB7, HO7, HF2⟩
              case measure => simp [intOf]; omega
            · have gz : decide (0 < (N6 : Int)) = false := by simp; omega
              have gz2 : decide (0 < N6) = false := by simpa using hz
              have RS2 := Lib.hid (RS.out.trans (if_neg (by rw [OKE.out]; simpa using hz)))
              clear hz
              go_wp2
              go_roundw
              case rel => exact ⟨k + 1, by go_num, by omega, HR6, Lib.hid (by rw [RS2.out]; exact HO6.out), HF2⟩
              case measure => simp [intOf]; omega
        · obtain rfl : k = (srcL l).length := by omega
          have q' : decide ((srcL l).length < (srcL l).length) = false := by simp
          have ER : rgtL l (srcL l).length = (srcL l).filter (okS l) := by unfold rgtL; rw [List.take_length]
          have HALL : (srcL l).all (fuS l) = true := List.all_eq_true.2 fun x hx => by
            obtain ⟨i, hi, rfl⟩ := List.getElem_of_mem hx
            have := HF.out i hi
            rw [List.getD_eq_getElem?_getD, List.getElem?_eq_getElem hi] at this
            exact this
          have EV := Lib.hid (show fltF l = verd (corL l).length (rgtL l (srcL l).length) by rw [E.out, if_pos HALL, ER])
          have COR := Lib.hid (CO.out _ HLr.out)
          clear ER HALL hk q
          generalize rgtL l (srcL l).length = r at *
          go_wp2_with fail
          refine COR.out.mono ?_
          rintro e w4 ⟨⟨u4, rfl, hoc⟩, hb4⟩
          have HB4 := Lib.hid (HBr.out.trans (hb4.mono HBr.out.size))
          have HO4 := Lib.hid (HO.out.below hb4)
          obtain ⟨p4, cap4, rfl⟩ := oc_len hoc
          clear hb4 hoc
          generalize (corL l).length = N4 at *
          by_cases hz : 0 < N4
          · have gz : decide (0 < (N4 : Int)) = true := by simp; omega
            have gz2 : decide (0 < N4) = true := by simpa using hz
            have EE := Lib.hid (show fltF l = (0, 0) by rw [EV.out]; unfold verd; rw [if_pos hz])
            clear hz
            go_wp2
            go_ret2
            exact ⟨by rw [EE.out]; rfl, HB4.out⟩
          · have gz : decide (0 < (N4 : Int)) = false := by simp; omega
            have gz2 : decide (0 < N4) = false := by simpa using hz
            have EV2 := Lib.hid (show fltF l = if r.length = 0 then (0, 11) else if 1 < r.length then (0, 8) else (r.getD 0 0, 0) by rw [EV.out]; unfold verd; rw [if_neg hz])
            clear hz
            obtain ⟨M, hM⟩ : ∃ M, r.length = M := ⟨_, rfl⟩
            rw [hM] at EV2
            by_cases h0 : M = 0
            · have EE := Lib.hid (EV2.out.trans (if_pos h0))
              have g0 : ((M : Int) == 0) = true := by rw [beq_iff_eq]; omega
              obtain ⟨p8, cap8, hu8⟩ := slc_of HO4.out
              rw [hM] at hu8
              subst hu8
              clear h0
              go_wp2
              go_ret2
              exact ⟨by rw [EE.out]; rfl, HB4.out⟩
            · have EV3 := Lib.hid (EV2.out.trans (if_neg h0))
              have g0 : ((M : Int) == 0) = false := by rw [beq_eq_false_iff_ne]; omega
              by_cases h1 : 1 < M
              · have EE := Lib.hid (EV3.out.trans (if_pos h1))
                have g1 : decide (1 < (M : Int)) = true := by simp; omega
                have g1' : decide (1 < M) = true := by simpa using h1
                obtain ⟨p8, cap8, hu8⟩ := slc_of HO4.out
                rw [hM] at hu8
                subst hu8
                clear h0 h1
                go_wp2
                go_ret2
                exact ⟨by rw [EE.out]; rfl, HB4.out⟩
              · have EE := Lib.hid (EV3.out.trans (if_neg h1))
                have g1 : decide (1 < (M : Int)) = false := by simp; omega
                have g1' : decide (1 < M) = false := by simpa using h1
                have hp : 0 < r.length := by omega
                rcases oi_cases HO4.out with ⟨_, hz⟩ | ⟨g8, cap8, hu8, c1, c2, _, hia⟩
                · rw [hz] at hp; exact absurd hp (by simp)
                · have c0 := hia.c 0 hp
                  rw [hM] at hu8 c1
                  subst hu8
                  obtain rfl : M = 1 := by omega
                  clear h0 h1 hia
                  generalize r.getD 0 0 = x8 at *
                  go_wp2
                  go_ret2
                  exact ⟨by rw [EE.out]; rfl, HB4.out⟩
  · have g : (chkL l != 0) = true := by simpa using hc
    have HCH := Lib.hid CH
    have E := Lib.hid (show fltF l = (0, chkL l) by unfold fltF; rw [if_neg hc])
    clear CH hc
    generalize chkL l = c at *
    go_enter Tryz.func17, Tryz.ntmps17
    go_wp2_with fail
    refine (HCH.out _ H.out).mono ?_
    rintro e w1 ⟨rfl, hb1⟩
    have HB1 := Lib.hid hb1
    clear hb1
    go_wp2
    go_ret2
    exact ⟨by rw [E.out]; rfl, HB1.out⟩
end Go.Proofs.YtidelghgjibndaaGreat.S44
namespace Go.Proofs.YtidelghgjibndaaGreat.S44
set_option linter.unusedVariables false
open Go.RowKit
/-- the strip of the differences of two points -/
def dbl (m : Ms) : Ms := { m with z := 0, d := m.d * 2 }
def dblK (L : List Ms) (k : Nat) : List Ms := (L.take k).map dbl ++ L.drop k
def dbL (L : List Ms) : List Ms := L.map dbl
theorem dblK_len (L : List Ms) (k : Nat) : (dblK L k).length = L.length := by
  unfold dblK
  rw [List.length_append, List.length_map, List.length_take, List.length_drop]
  omega
theorem dblK_zero (L : List Ms) : dblK L 0 = L := by unfold dblK; simp
theorem dblK_all (L : List Ms) : dblK L L.length = dbL L := by unfold dblK dbL; simp
theorem dblK_at {L : List Ms} {k : Nat} (h : k < L.length) : dblK L k = (L.take k).map dbl ++ nth L k :: L.drop (k + 1) := by
  unfold dblK
  rw [List.drop_eq_getElem_cons h, nth_eq h]
theorem dblK_succ {L : List Ms} {k : Nat} (h : k < L.length) : dblK L (k + 1) = (L.take k).map dbl ++ dbl (nth L k) :: L.drop (k + 1) := by
  unfold dblK
  rw [take_nth h, List.map_append, List.append_assoc]
  rfl
theorem msC_set {L : List Ms} {k : Nat} (h : k < L.length) : ((msC (dblK L k)).set (k * 6 + 3) (.int .i64 0)).set (k * 6 + 4) (.int .i64 ((nth L k).d * 2)) = msC (dblK L (k + 1)) := by
  have e : (msC ((L.take k).map dbl)).length = k * 6 := by
    rw [msC_len, List.length_map, List.length_take, Nat.min_eq_left (by omega)]
  have c : ∀ m l, msC (m :: l) = [Value.int .i64 m.s, Value.int .i64 m.a, Value.int .i64 m.b, Value.int .i64 m.z, Value.int .i64 m.d, Value.int .i64 m.w] ++ msC l := fun m l => by unfold msC; rw [List.flatMap_cons]
  rw [dblK_at h, dblK_succ h, msC_append, msC_append, List.set_append_right _ _ (by omega), List.set_append_right _ _ (by omega), e, show k * 6 + 3 - k * 6 = 3 by omega, show k * 6 + 4 - k * 6 = 4 by omega, c, c]
  rfl
theorem nth_dblK {L : List Ms} {k : Nat} (h : k < L.length) : nth (dblK L k) k = nth L k := by
  have e : ((L.take k).map dbl).length = k := by rw [List.length_map, List.length_take]; omega
  rw [dblK_at h]
  unfold nth
  rw [List.getD_eq_getElem?_getD, List.getElem?_append_right (by omega), e, Nat.sub_self]
  rfl
theorem EdM.dbl {m : Ms} (h : OkM m) : EdM (dbl m) := by
  have := h.a0
  have := h.a1
  have := h.b0
  have := h.b1
  have := h.d0
  have := h.d1
  constructor <;> simp [Go.Proofs.YtidelghgjibndaaGreat.S44.dbl] <;> omega
def detF (l : List Ms) (i : Int) : Int × Int :=
  if chkL l = 0 then (if i < 0 ∨ (l.length : Int) ≤ i then (0, 1) else
    if fullB (woL l (nth l i.toNat).s) = true then ((nth l i.toNat).d + (bndF (nth l i.toNat).a (nth l i.toNat).b (corL (dbL (woL l (nth l i.toNat).s)))).2, 0) else (0, 14)) else (0, chkL l)
theorem ceil_small {x d B : Int} (h : 0 < d) (h0 : -B ≤ x) (h1 : x ≤ B) (hB : 0 ≤ B) : -B ≤ ceilI x d ∧ ceilI x d ≤ B := by
  unfold ceilI
  have e := Int.mul_ediv_add_emod (-x) d
  have r0 := Int.emod_nonneg (-x) (show d ≠ 0 by omega)
  have r1 := Int.emod_lt_of_pos (-x) h
  generalize (-x) / d = q at *
  generalize (-x) % d = r at *
  constructor
  · by_cases hq : B < q
    · have : 1 * q ≤ d * q := Int.mul_le_mul_of_nonneg_right (by omega) (by omega)
      omega
    · omega
  · by_cases hq : q < -B
    · have h8 : 1 * (-(q + 1)) ≤ d * (-(q + 1)) := Int.mul_le_mul_of_nonneg_right (by omega) (by omega)
      have h9 : d * (-(q + 1)) = -(d * q) - d := by grind
      omega
    · omega
theorem hi_fit {a b : Int} {p : Cr} (h : FitP a b p) : -4000000000000000 ≤ hiF a b p ∧ hiF a b p ≤ 4000000000000000 := by
  obtain ⟨d0, d1, x0, x1, y0, y1⟩ := h
  unfold hiF
  generalize a * p.x = u at *
  generalize b * p.y = v at *
  generalize p.d = d at *
  exact ceil_small d0 (by omega) (by omega) (by omega)
theorem hi_bnd {a b : Int} {l : List Cr} (h : ∀ p ∈ l, FitP a b p) : -4000000000000000 ≤ (bndF a b l).2 ∧ (bndF a b l).2 ≤ 4000000000000000 := by
  cases l with
  | nil => unfold bndF bndK; simp
  | cons q r =>
    obtain ⟨p, hp, e⟩ := (bnd_is a b (l := q :: r) (by simp)).hi
    rw [e]
    exact hi_fit (h p hp)
theorem om_at {B : Nat} {w : World} {g n cap : Nat} {l : List Ms} (h : OM B w (.slice (some ⟨g, 0, none⟩) n cap) l) : MsAt l g 0 w ∧ ∀ j, w.frozen? ⟨g, j, none⟩ = false := by
  rcases om_cases h with ⟨e, _⟩ | ⟨g', c, e, _, _, _, h1, h2⟩
  · cases e
  · cases e
    exact ⟨h1, h2⟩
def DtR (L : List Ms) (g cap : Nat) (W0 : World) (u : Value) (wr : World) : Prop :=
  ∃ k : Nat, u = .int .i64 k ∧ k ≤ L.length ∧ Hid (Below W0.heap.size W0 wr) ∧ Hid (OM W0.heap.size wr (.slice (some ⟨g, 0, none⟩) L.length cap) (dblK L k))
def DtP (l : List Ms) (i : Int) (w : World) (e : Ending) (w' : World) : Prop := e = .returned (.tuple #[.int .i64 (detF l i).1, .int .i64 (detF l i).2]) ∧ Below w.heap.size w w'
set_option maxHeartbeats 8000000 in
set_option maxRecDepth 100000 in
theorem det_any (l : List Ms) (i : Int) (v : Value) (w : World) (h : LstAt l v w) :
    Calls Tryz.prog 21 #[v, .int .i64 i] w (DtP l i w) := by
  obtain ⟨pl, capl, rfl⟩ : ∃ p cap, v = .slice p l.length cap := by
    rcases h with ⟨rfl, rfl⟩ | ⟨b, o, cap, rfl, _⟩
    · exact ⟨none, 0, rfl⟩
    · exact ⟨_, _, rfl⟩
  have CH := fun w hv => check_any l (.slice pl l.length capl) w hv
  have H := Lib.hid h
  clear h
  by_cases hc : chkL l = 0
  · obtain ⟨he, hl⟩ := ed_of hc
    have hok := (chkL_ok hc).2
    rw [hc] at CH
    have HCH := Lib.hid CH
    have WO := Lib.hid fun s w hv => wo_any l s (.slice pl l.length capl) w hv hl
    have HE := Lib.hid he
    have HOK := Lib.hid hok
    have E0 : detF l i = if i < 0 ∨ (l.length : Int) ≤ i then (0, 1) else
      if fullB (woL l (nth l i.toNat).s) = true then ((nth l i.toNat).d + (bndF (nth l i.toNat).a (nth l i.toNat).b (corL (dbL (woL l (nth l i.toNat).s)))).2, 0) else (0, 14) := by unfold detF; rw [if_pos hc]
    clear CH hc he hok
    by_cases h0 : i < 0
    · have g0 : decide (i < 0) = true := by simpa using h0
      have E := Lib.hid (E0.trans (if_pos (.inl h0)))
      clear E0 h0
      go_enter Tryz.func21, Tryz.ntmps21
      go_wp2_with fail
      refine (HCH.out _ H.out).mono ?_
      rintro e w1 ⟨rfl, hb1⟩
      have HB1 := Lib.hid hb1
      clear hb1
      go_wp2
      go_ret2
      exact ⟨by rw [E.out]; rfl, HB1.out⟩
    · have g0 : decide (i < 0) = false := by simpa using h0
      by_cases h1 : (l.length : Int) ≤ i
      · have g1 : decide ((l.length : Int) ≤ i) = true := by simpa using h1
        have E := Lib.hid (E0.trans (if_pos (.inr h1)))
        clear E0 h0 h1
        go_enter Tryz.func21, Tryz.ntmps21
        go_wp2_with fail
        refine (HCH.out _ H.out).mono ?_
        rintro e w1 ⟨rfl, hb1⟩
        have HB1 := Lib.hid hb1
        clear hb1
        go_wp2
        go_ret2
        exact ⟨by rw [E.out]; rfl, HB1.out⟩
      · have g1 : decide ((l.length : Int) ≤ i) = false := by simpa using h1
        have E1 := E0.trans (if_neg (by omega))
        obtain ⟨k, rfl⟩ : ∃ k : Nat, i = k := ⟨i.toNat, by omega⟩
        have q : k < l.length := by omega
        have EN : (k : Int).toNat = k := by omega
        rw [EN] at E1
        clear E0 h0 h1 EN
        rcases H.out with ⟨hv2, hz⟩ | ⟨b, o, cap, hv2, hcap, hcm, M⟩
        · rw [hz] at q; exact absurd q (by simp)
        injection hv2 with e1 e2 e3
        subst e1
        subst e3
        clear e2
        have HM := Lib.hid M
        have hok := HOK.out _ (nth_mem q)
        have ab0 := hok.a0
        have ab1 := hok.a1
        have ab2 := hok.b0
        have ab3 := hok.b1
        have ab4 := hok.d0
        have ab5 := hok.d1
        have HSM := Lib.hid (show SmAB (nth l k).a (nth l k).b from ⟨ab0, ab1, ab2, ab3⟩)
        clear M ab0 ab1 ab2 ab3 hok
        generalize hmk : nth l k = m at *
        have HMK := Lib.hid hmk
        clear hmk
        have HL := woL_len l m.s
        have ESN := Lib.hid E1
        have HEW := Lib.hid (wo_ed HE.out m.s)
        have HED := Lib.hid (show ∀ x ∈ dbL (woL l m.s), EdM x from fun x hx => by
          unfold dbL at hx
          rw [List.mem_map] at hx
          obtain ⟨y, hy, rfl⟩ := hx
          exact EdM.dbl (HOK.out y (List.mem_filter.1 hy).1))
        have HWD := Lib.hid (show ∀ x ∈ woL l m.s, 0 ≤ x.d ∧ x.d ≤ 4294967296 from fun x hx => by
          have := HOK.out x (List.mem_filter.1 hx).1
          exact ⟨this.d0, this.d1⟩)
        have WOS := Lib.hid (WO.out m.s)
        clear E1 WO HE HOK
        generalize woL l m.s = L at *
        have FUS := Lib.hid fun v w (h : LstAt L v w) => full_any L v w h HEW.out (by omega)
        have COS := Lib.hid fun v w (h : LstAt (dbL L) v w) => corners_any (dbL L) v w h HED.out (by unfold dbL; rw [List.length_map]; omega)
        have HFI := Lib.hid (fit_of (a := m.a) (b := m.b) HED.out HSM.out)
        have BNS := Lib.hid fun B v w hv => bounds_any (corL (dbL L)) m.a m.b B v w hv HFI.out
        have hbd := hi_bnd HFI.out
        go_enter Tryz.func21, Tryz.ntmps21
        go_wp2_with fail
        refine (HCH.out _ H.out).mono ?_
        rintro e w1 ⟨rfl, hb1⟩
        have HB1 := Lib.hid hb1
        have M := HM.out.below hb1
        have c0 := M.c0 k q
        have c1 := M.c1 k q
        have c2 := M.c2 k q
        have c3 := M.c3 k q
        have c4 := M.c4 k q
        have c5 := M.c5 k q
        rw [HMK.out] at c0 c1 c2 c3 c4 c5
        have q' : decide (k < l.length) = true := by simpa using q
        have CN := Lib.hid (copy_new m w1 59)
        have HL0 := Lib.hid ((H.out.below HB1.out).below ((Below.refl w1.heap.size w1).alloc (Nat.le_refl _) (.cells #[.int .i64 m.s, .int .i64 m.a, .int .i64 m.b, .int .i64 m.z, .int .i64 m.d, .int .i64 m.w] 59)))
        have HBA := Lib.hid (HB1.out.trans (((Below.refl w1.heap.size w1).alloc (Nat.le_refl _) (.cells #[.int .i64 m.s, .int .i64 m.a, .int .i64 m.b, .int .i64 m.z, .int .i64 m.d, .int .i64 m.w] 59)).mono HB1.out.size))
        clear M hb1
        go_wp2_with fail
        generalize w1.alloc (.cells #[.int .i64 m.s, .int .i64 m.a, .int .i64 m.b, .int .i64 m.z, .int .i64 m.d, .int .i64 m.w] 59) = W0 at *
        generalize w1.heap.size = bm at *
        clear c0 c1 c2 c3 c4 c5 q'
        refine (WOS.out _ HL0.out).mono ?_
        rintro e w2 ⟨⟨u2, rfl, hom⟩, hb2⟩
        have HB2 := Lib.hid hb2
        have HOM2 := Lib.hid hom
        obtain ⟨p2, cap2, rfl⟩ := slm_of hom
        have FU2 := FUS.out _ _ hom.lst
        clear hb2 hom
        cases hf : fullB L with
        | false =>
          rw [hf] at FU2
          have HFU := Lib.hid FU2
          have E := Lib.hid (show detF l k = (0, 14) by rw [ESN.out, hf]; rfl)
          clear FU2 hf
          go_wp2_with fail
          refine HFU.out.mono ?_
          rintro e w3 ⟨rfl, hb3⟩
          have HB3 := Lib.hid ((HBA.out.trans (HB2.out.mono HBA.out.size)).trans (hb3.mono (by have := HBA.out.size; have := HB2.out.size; omega)))
          clear hb3
          go_wp2
          go_ret2
          exact ⟨by rw [E.out]; rfl, HB3.out⟩
        | true =>
          rw [hf] at FU2
          have HFU := Lib.hid FU2
          have E := Lib.hid (show detF l k = (m.d + (bndF m.a m.b (corL (dbL L))).2, 0) by rw [ESN.out, hf]; rfl)
          have hne : L ≠ [] := by rintro rfl; cases hf
          clear FU2 hf
          obtain ⟨g2, hp2, hc2, hm2, hg2⟩ : ∃ g, p2 = some ⟨g, 0, none⟩ ∧ L.length ≤ cap2 ∧ cap2 ≤ 9223372036854775807 ∧ W0.heap.size ≤ g := by
            rcases om_cases HOM2.out with ⟨_, h⟩ | ⟨g, c, h, h2, h3, h4, _⟩
            · exact absurd h hne
            · cases h
              exact ⟨g, rfl, h2, h3, h4⟩
          subst hp2
          clear hne
          go_wp2_with fail
          refine HFU.out.mono ?_
          rintro e w3 ⟨rfl, hb3⟩
          have HB3 := Lib.hid (HB2.out.trans (hb3.mono HB2.out.size))
          have HO3 := Lib.hid (HOM2.out.below hb3)
          clear hb3
          go_wp2_with fail
          go_loopw [38] (DtR L g2 cap2 W0) (fun i _ => L.length - (intOf i).toNat)
          case atStart => exact ⟨0, rfl, Nat.zero_le _, HB3, Lib.hid (by rw [dblK_zero]; exact HO3.out)⟩
          case round =>
            obtain ⟨j, rfl, hj, HB, HO⟩ := hrel
            by_cases r : j < L.length
            · have r' : decide (j < L.length) = true := by simpa using r
              obtain ⟨M, hfr⟩ := om_at HO.out
              have jl : j < (dblK L j).length := by rw [dblK_len]; exact r
              have x3 := M.c3 j jl
              have x4 := M.c4 j jl
              have f3 := hfr (j * 6 + 3)
              have f4 := hfr (j * 6 + 4)
              rw [nth_dblK r, Nat.zero_add] at x3 x4
              have MS := Lib.hid (msC_set r)
              obtain ⟨d0, d1⟩ := HWD.out _ (nth_mem r)
              have y4 : ∀ u, (wr.setCell ⟨g2, j * 6 + 3, none⟩ u).cell? ⟨g2, j * 6 + 4, none⟩ = some (.int .i64 (nth L j).d) := fun u => by
                rw [World.cell?_setCell_other]
                · exact x4
                · intro e; injection e with _ e _; omega
              clear M hfr jl
              generalize nth L j = n at *
              go_wp2_with fail
              go_roundw
              case rel =>
                have S1 := World.ownsRow.stored (show wr.ownsRow W0.heap.size 59 6 (.slice (some ⟨g2, 0, none⟩) L.length cap2) L.length (msC (dblK L j)) by have := HO.out; unfold OM at this; rw [dblK_len] at this; exact this) (j * 6 + 3) (.int .i64 0)
                have S2 := S1.1.stored (j * 6 + 4) (.int .i64 (n.d * 2))
                have hs0 := HB.out.size
                have hs1 := S1.2.size
                refine ⟨j + 1, by go_num, by omega, Lib.hid (below_grown (below_grown HB.out S1.2 hs0 (fun k hk => by cases hk; exact hg2)) S2.2 (by omega) (fun k hk => by cases hk; exact hg2)), Lib.hid ?_⟩
                unfold OM
                rw [dblK_len, ← MS.out]
                exact S2.1
              case measure => simp [intOf]; omega
            · obtain rfl : j = L.length := by omega
              rw [dblK_all] at HO
              have hbd1 : Below wr.heap.size wr wr.drew := ⟨rfl, rfl, rfl, Nat.le_refl _, fun _ _ => rfl⟩
              have LV := Lib.hid (HO.out.lst.below hbd1)
              have CP := (CN.out.below HB.out).below hbd1
              have HCP := Lib.hid CP
              have k1 := CP.c1
              have k2 := CP.c2
              have k4 := CP.c4
              have HBD := Lib.hid (HBA.out.trans ((HB.out.mono HBA.out.size).trans (hbd1.mono (by have := HBA.out.size; have := HB.out.size; omega))))
              clear CP hbd1
              have FW : IntKind.i64.wrap (m.d + (bndF m.a m.b (corL (dbL L))).2) = m.d + (bndF m.a m.b (corL (dbL L))).2 := IntWalk.i64_in _ (by omega)
              have FF : ∀ w x y, (Instr.field 102 (.agg #[x, y]) 1).run Tryz.prog w = .ok y w := fun _ _ _ => rfl
              go_wp2_with fail
              go_region_held3 (fun w' => w'.cell? ⟨bm, 1, none⟩ = some (.int .i64 m.a) ∧ w'.cell? ⟨bm, 2, none⟩ = some (.int .i64 m.b) ∧ w'.cell? ⟨bm, 4, none⟩ = some (.int .i64 m.d)) ((refine ⟨?_, ?_, ?_⟩ <;> assumption))
                (first
                  | (go_at_call 40; refine (COS.out _ _ LV.out).mono ?_; rintro e w6 ⟨⟨u6, rfl, hoc⟩, hb6⟩; have CP6 := HCP.out.below hb6; have HCP6 := Lib.hid CP6; have y1 := CP6.c1; have y2 := CP6.c2; have y4 := CP6.c4; have BN6 := Lib.hid (BNS.out _ _ _ hoc); have HB6 := Lib.hid (HBD.out.trans (hb6.mono HBD.out.size)); clear CP6 hb6 hoc)
                  | (go_at_call 41; refine BN6.out.mono ?_; rintro e w7 ⟨rfl, hb7⟩; have CP7 := HCP6.out.below hb7; have z1 := CP7.c1; have z2 := CP7.c2; have z4 := CP7.c4; have HB7 := Lib.hid (HB6.out.trans (hb7.mono HB6.out.size)); clear CP7 hb7))
              go_wp2
              go_ret2
              exact ⟨by rw [E.out]; rfl, HB7.out⟩
  · have g : (chkL l != 0) = true := by simpa using hc
    have HCH := Lib.hid CH
    have E := Lib.hid (show detF l i = (0, chkL l) by unfold detF; rw [if_neg hc])
    clear CH hc
    generalize chkL l = c at *
    go_enter Tryz.func21, Tryz.ntmps21
    go_wp2_with fail
    refine (HCH.out _ H.out).mono ?_
    rintro e w1 ⟨rfl, hb1⟩
    have HB1 := Lib.hid hb1
    clear hb1
    go_wp2
    go_ret2
    exact ⟨by rw [E.out]; rfl, HB1.out⟩
end Go.Proofs.YtidelghgjibndaaGreat.S44
namespace Go.Proofs.YtidelghgjibndaaGreat.S44
set_option linter.unusedVariables false
open Go.RowKit
theorem MsAt.drop {l : List Ms} {b o : Nat} {w : World} (h : MsAt l b o w) (k : Nat) : MsAt (l.drop k) b (o + k * 6) w := by
  have e : ∀ i, i < (l.drop k).length → k + i < l.length ∧ nth (l.drop k) i = nth l (k + i) := fun i hi => by
    rw [List.length_drop] at hi
    refine ⟨by omega, ?_⟩
    unfold nth
    rw [List.getD_eq_getElem?_getD, List.getD_eq_getElem?_getD, List.getElem?_drop]
  have a : ∀ i, o + k * 6 + i * 6 = o + (k + i) * 6 := fun i => by omega
  refine ⟨h.lt, fun i hi => ?_, fun i hi => ?_, fun i hi => ?_, fun i hi => ?_, fun i hi => ?_, fun i hi => ?_⟩ <;> rw [(e i hi).2, a]
  · exact h.c0 _ (e i hi).1
  · exact h.c1 _ (e i hi).1
  · exact h.c2 _ (e i hi).1
  · exact h.c3 _ (e i hi).1
  · exact h.c4 _ (e i hi).1
  · exact h.c5 _ (e i hi).1
end Go.Proofs.YtidelghgjibndaaGreat.S44
namespace Go.Proofs.YtidelghgjibndaaGreat.S44
set_option linter.unusedVariables false
open Go.RowKit
/-- how far a measurement is from holding -/
def missI (m : Ms) (x y : Int) : Int := m.a * x + m.b * y - m.z
def hldB (m : Ms) (x y : Int) : Bool := okM m && (vldP x y && decide (absI (missI m x y) ≤ m.d))
structure PtAt (x y : Int) (bp : Nat) (w : World) : Prop where
  lt : bp < w.heap.size
  c0 : w.cell? ⟨bp, 0, none⟩ = some (.int .i64 x)
  c1 : w.cell? ⟨bp, 1, none⟩ = some (.int .i64 y)
theorem PtAt.below {x y : Int} {bp : Nat} {w w' : World} (h : PtAt x y bp w) (hb : Below w.heap.size w w') : PtAt x y bp w' :=
  ⟨Nat.lt_of_lt_of_le h.lt hb.size, (hb.cell (p := ⟨bp, 0, none⟩) h.lt).trans h.c0, (hb.cell (p := ⟨bp, 1, none⟩) h.lt).trans h.c1⟩
def allB (l : List Ms) (x y but : Int) : Bool := l.all fun m => decide (m.s = but) || hldB m x y
end Go.Proofs.YtidelghgjibndaaGreat.S44
namespace Go.Proofs.YtidelghgjibndaaGreat.S44
set_option linter.unusedVariables false
open Go.RowKit
theorem bad_con (l : List Ms) : (conF l).2 = 0 ∨ (conF l).1 = false := by
  unfold conF
  split
  · split
    · exact .inl rfl
    · exact .inr rfl
  · exact .inr rfl
theorem absI_le {x d : Int} (h : absI x ≤ d) : x ≤ d ∧ -x ≤ d := by
  unfold absI at h
  split at h <;> omega
theorem hld_in {m : Ms} {x y : Int} (h : hldB m x y = true) : In1 m x y 1 := by
  unfold hldB at h
  simp only [Bool.and_eq_true, decide_eq_true_eq] at h
  obtain ⟨_, _, h⟩ := h
  obtain ⟨h1, h2⟩ := absI_le h
  unfold missI at h1 h2
  constructor <;> (unfold gI; omega)
theorem all_in {l : List Ms} {x y but : Int} (h : allB l x y but = true) : In (woL l but) x y 1 := fun m hm => by
  obtain ⟨h1, h2⟩ := List.mem_filter.1 hm
  have := List.all_eq_true.1 h m h1
  unfold notS at h2
  have hne := of_decide_eq_true h2
  rw [decide_eq_false hne, Bool.false_or] at this
  exact hld_in this
theorem wo_zero {l : List Ms} (h : ∀ m ∈ l, OkM m) : woL l 0 = l := by
  unfold woL
  rw [List.filter_eq_self]
  intro m hm
  have := (h m hm).s0
  unfold notS
  exact decide_eq_true (by omega)
theorem all_in0 {l : List Ms} {x y : Int} (hc : chkL l = 0) (h : allB l x y 0 = true) : In l x y 1 := by
  have := all_in h
  rwa [wo_zero (chkL_ok hc).2] at this
theorem cor_pos {l : List Ms} {x y : Int} (h : In l x y 1) (hf : fullB l = true) : 0 < (corL l).length := by
  obtain ⟨p, hp⟩ := corner_ex (by omega) h (fullB_iff.1 hf)
  exact List.length_pos_of_mem (mem_corL.2 hp)
theorem good_con {l : List Ms} {x y : Int} (hc : chkL l = 0) (h : allB l x y 0 = true) : conF l = (true, 0) ∨ conF l = (false, 14) := by
  unfold conF
  rw [if_pos hc]
  by_cases hf : fullB l = true
  · rw [if_pos hf, decide_eq_true (cor_pos (all_in0 hc h) hf)]
    exact .inl rfl
  · rw [if_neg hf]
    exact .inr rfl
theorem good_flt {l : List Ms} {x y : Int} (hc : chkL l = 0) (h : allB l x y 0 = true) : fltF l = (0, 0) ∨ fltF l = (0, 14) := by
  unfold fltF
  rw [if_pos hc]
  by_cases hf : fullB l = true
  · rw [if_pos hf]
    split
    · unfold verd
      rw [if_pos (cor_pos (all_in0 hc h) hf)]
      exact .inl rfl
    · exact .inr rfl
  · rw [if_neg hf]
    exact .inr rfl
end Go.Proofs.YtidelghgjibndaaGreat.S44
namespace Go.Proofs.YtidelghgjibndaaGreat.S44
set_option linter.unusedVariables false
open Go.RowKit
theorem le_ceil {v d h : Int} (hd : 0 < d) (e : ceilI v d ≤ h) : v ≤ h * d := by
  unfold ceilI at e
  have q := Int.mul_ediv_add_emod (-v) d
  have r := Int.emod_nonneg (-v) (show d ≠ 0 by omega)
  have h1 : -h * d ≤ ((-v) / d) * d := Int.mul_le_mul_of_nonneg_right (by omega) (by omega)
  have h2 : ((-v) / d) * d = d * ((-v) / d) := Int.mul_comm _ _
  have h3 : -h * d = -(h * d) := Int.neg_mul _ _
  omega
/-- the value of a point of the doubled strips -/
theorem hi_ge {l : List Ms} {X Y D : Int} (a b : Int) (hD : 0 < D) (hin : In l X Y D) (hf : Full l) : a * X + b * Y ≤ (bndF a b (corL l)).2 * D := by
  obtain ⟨p, hp, h⟩ := corner_ge a b hD hin hf
  have hm := mem_corL.2 hp
  have B := bnd_is a b (List.ne_nil_of_mem hm)
  have h1 := le_ceil hp.pos (B.all p hm).2
  have h2 : (a * p.x + b * p.y) * D ≤ (bndF a b (corL l)).2 * p.d * D := Int.mul_le_mul_of_nonneg_right h1 (by omega)
  have h3 : (bndF a b (corL l)).2 * p.d * D = (bndF a b (corL l)).2 * D * p.d := by grind
  exact Int.le_of_mul_le_mul_right (show (a * X + b * Y) * p.d ≤ (bndF a b (corL l)).2 * D * p.d by omega) hp.pos
theorem dbl_in {l : List Ms} {x y X Y D : Int} (hD : 0 < D) (h0 : In l x y 1) (h1 : In l X Y D) : In (dbL l) (X - x * D) (Y - y * D) D ∧ In (dbL l) (-(X - x * D)) (-(Y - y * D)) D := by
  have key : ∀ m ∈ l, (m.a * (X - x * D) + m.b * (Y - y * D) ≤ m.d * 2 * D) ∧ (-(m.a * (X - x * D) + m.b * (Y - y * D)) ≤ m.d * 2 * D) := fun m hm => by
    obtain ⟨u0, u1⟩ := h0 m hm
    obtain ⟨v0, v1⟩ := h1 m hm
    unfold gI at u0 u1 v0 v1
    have w0 : (m.a * x + m.b * y - m.z * 1) * D ≤ m.d * 1 * D := Int.mul_le_mul_of_nonneg_right u0 (by omega)
    have w1 : -(m.a * x + m.b * y - m.z * 1) * D ≤ m.d * 1 * D := Int.mul_le_mul_of_nonneg_right u1 (by omega)
    have e0 : (m.a * x + m.b * y - m.z * 1) * D = m.a * x * D + m.b * y * D - m.z * D := by grind
    have e1 : -(m.a * x + m.b * y - m.z * 1) * D = -(m.a * x * D + m.b * y * D - m.z * D) := by grind
    have e2 : m.a * (X - x * D) + m.b * (Y - y * D) = m.a * X + m.b * Y - (m.a * x * D + m.b * y * D) := by grind
    have e3 : m.d * 2 * D = m.d * D + m.d * D := by grind
    have e4 : m.d * 1 * D = m.d * D := by grind
    omega
  constructor <;>
  · intro n hn
    unfold dbL at hn
    rw [List.mem_map] at hn
    obtain ⟨m, hm, rfl⟩ := hn
    obtain ⟨k0, k1⟩ := key m hm
    have e5 : m.a * -(X - x * D) + m.b * -(Y - y * D) = -(m.a * (X - x * D) + m.b * (Y - y * D)) := by grind
    constructor <;> (unfold gI dbl; simp only; omega)
theorem full_dbl {l : List Ms} (h : Full l) : Full (dbL l) := by
  obtain ⟨m, hm, n, hn, hd⟩ := h
  exact ⟨_, List.mem_map_of_mem hm, _, List.mem_map_of_mem hn, hd⟩
theorem full_wo {l : List Ms} {s : Int} (h : fullB (woL l s) = true) : fullB l = true := by
  rw [fullB_iff] at *
  obtain ⟨m, hm, n, hn, hd⟩ := h
  exact ⟨m, (List.mem_filter.1 hm).1, n, (List.mem_filter.1 hn).1, hd⟩
/-- what the law looks at -/
theorem det_ok {l : List Ms} {x y : Int} {k : Nat} (hk : k < l.length) (he : (detF l k).2 = 0) (ha : allB l x y (nth l k).s = true) :
    (missI (nth l k) x y ≤ (detF l k).1 ∧ -missI (nth l k) x y ≤ (detF l k).1) ∨ conF l = (false, 0) := by
  by_cases hc : chkL l = 0
  · have ed : detF l k = if fullB (woL l (nth l k).s) = true then ((nth l k).d + (bndF (nth l k).a (nth l k).b (corL (dbL (woL l (nth l k).s)))).2, 0) else (0, 14) := by
      unfold detF
      rw [if_pos hc, if_neg (by omega), Int.toNat_natCast]
    by_cases hf : fullB (woL l (nth l k).s) = true
    · rw [if_pos hf] at ed
      rw [ed]
      have hfl := full_wo hf
      have ec : conF l = (decide (0 < (corL l).length), 0) := by unfold conF; rw [if_pos hc, if_pos hfl]
      by_cases h0 : 0 < (corL l).length
      · left
        obtain ⟨q, hq⟩ := List.exists_mem_of_length_pos h0
        have cq := mem_corL.1 hq
        have hm := nth_mem hk
        have hin := all_in ha
        have hwo : In (woL l (nth l k).s) q.x q.y q.d := fun n hn => cq.inn n (List.mem_filter.1 hn).1
        obtain ⟨d0, d1⟩ := dbl_in cq.pos hin hwo
        have f := full_dbl (fullB_iff.1 hf)
        have g0 := hi_ge (nth l k).a (nth l k).b cq.pos d0 f
        have g1 := hi_ge (nth l k).a (nth l k).b cq.pos d1 f
        obtain ⟨m0, m1⟩ := cq.inn _ hm
        have hp := cq.pos
        unfold gI at m0 m1
        unfold missI
        simp only
        generalize (bndF (nth l k).a (nth l k).b (corL (dbL (woL l (nth l k).s)))).2 = H at *
        generalize nth l k = m at *
        have e0 : m.a * (q.x - x * q.d) + m.b * (q.y - y * q.d) = m.a * q.x + m.b * q.y - (m.a * x + m.b * y) * q.d := by grind
        have e1 : m.a * -(q.x - x * q.d) + m.b * -(q.y - y * q.d) = -(m.a * q.x + m.b * q.y - (m.a * x + m.b * y) * q.d) := by grind
        have e2 : (m.a * x + m.b * y - m.z) * q.d = (m.a * x + m.b * y) * q.d - m.z * q.d := by grind
        have e3 : (m.d + H) * q.d = m.d * q.d + H * q.d := by grind
        have e4 : -(m.a * x + m.b * y - m.z) * q.d = -((m.a * x + m.b * y) * q.d - m.z * q.d) := by grind
        constructor
        · exact Int.le_of_mul_le_mul_right (show (m.a * x + m.b * y - m.z) * q.d ≤ (m.d + H) * q.d by omega) hp
        · exact Int.le_of_mul_le_mul_right (show -(m.a * x + m.b * y - m.z) * q.d ≤ (m.d + H) * q.d by omega) hp
      · right
        rw [ec, decide_eq_false h0]
    · rw [if_neg hf] at ed
      rw [ed] at he
      simp at he
  · have ed : detF l k = (0, chkL l) := by unfold detF; rw [if_neg hc]
    rw [ed] at he
    exact absurd he hc
end Go.Proofs.YtidelghgjibndaaGreat.S44
namespace Go.Proofs.YtidelghgjibndaaGreat
set_option linter.unusedVariables false
open Go.RowKit
theorem all_nv {l : List Ms} {fa px py : Int} (h : ∀ m ∈ l, m.s ≠ fa → HoldP m px py) (hc : chkL l = 0) (hv : S41.pvB px py = true) : S44.allB l px py fa = true := by
  refine List.all_eq_true.2 fun m hm => ?_
  by_cases e : m.s = fa
  · rw [decide_eq_true e, Bool.true_or]
  · have k := h m hm e
    have o := (chkL_ok hc).2 m hm
    rw [decide_eq_false e, Bool.false_or]
    unfold S44.hldB
    rw [okM_iff.2 o, vld_pv, hv, Bool.true_and, Bool.true_and, decide_eq_true_eq]
    unfold S44.missI absI
    unfold HoldP at k
    split <;> omega
end Go.Proofs.YtidelghgjibndaaGreat
namespace Go.Proofs.YtidelghgjibndaaGreat
set_option linter.unusedVariables false
open Go.RowKit
theorem miss_fit2 {m : Ms} {x y : Int} (h : OkM m) (hv : S41.pvB x y = true) : (-512000000 ≤ m.a * x ∧ m.a * x ≤ 512000000) ∧ -512000000 ≤ m.b * y ∧ m.b * y ≤ 512000000 := by
  have v := S41.pvB_iff.1 hv
  have p0 := mulb (X := 256) (Y := 2000000) (x := m.a) (y := x) (by omega) (by have := h.a0; omega) (by have := h.a1; omega) (by omega) (by omega)
  have p1 := mulb (X := 256) (Y := 2000000) (x := m.b) (y := y) (by omega) (by have := h.b0; omega) (by have := h.b1; omega) (by omega) (by omega)
  omega
theorem con_chk {l : List Ms} (h : (S44.conF l).2 = 0) : chkL l = 0 := by
  by_cases hc : chkL l = 0
  · exact hc
  · unfold S44.conF at h
    rw [if_neg hc] at h
    exact absurd h hc
/-- a miss beyond the detectable error is found -/
theorem dt_loop {l : List Ms} {fa px py : Int} {hb ok : Bool} (h : NvI fa px py l hb) (q : hb = true) (hv : S41.pvB px py = true) (e : S44.conF l = (ok, 0)) (k : Nat) (hk : k < l.length) (h0 : (S44.detF l k).2 = 0) (hs : (nth l k).s = fa) (ho : ok = true) :
    (nth l k).a * px + (nth l k).b * py - (nth l k).z ≤ (S44.detF l k).1 ∧ -((nth l k).a * px + (nth l k).b * py - (nth l k).z) ≤ (S44.detF l k).1 := by
  have hc : chkL l = 0 := con_chk (by rw [e])
  have ha := all_nv (h.ok q) hc hv
  rw [← hs] at ha
  rcases S44.det_ok hk h0 ha with r | r
  · exact r
  · rw [e] at r
    have := (Prod.mk.inj r).1
    rw [ho] at this
    cases this
/-- while all hold, nothing is found -/
theorem dt_end {l : List Ms} {px py : Int} {ok : Bool} (hv : S41.pvB px py = true) (e : S44.conF l = (ok, 0)) (h : ∀ j, j < l.length → HoldP (nth l j) px py) : ok = true ∧ (S44.fltF l = (0, 0) ∨ S44.fltF l = (0, 14)) := by
  have hc : chkL l = 0 := con_chk (by rw [e])
  have ha := all_nv (fa := 0) (fun m hm _ => by
    obtain ⟨j, hj, e⟩ := List.getElem_of_mem hm
    have := h j hj
    rw [nth_eq hj, e] at this
    exact this) hc hv
  refine ⟨?_, S44.good_flt hc ha⟩
  rcases S44.good_con hc ha with r | r
  · rw [e] at r; exact (Prod.mk.inj r).1
  · rw [e] at r
    have := (Prod.mk.inj r).2
    simp at this
def TdR (l : List Ms) (px py : Int) (W : World) (v8 v83 : Value) (wr : World) : Prop := ∃ (k : Nat) (rb : Bool), v83 = .int .i64 k ∧ v8 = .bool rb ∧ k ≤ l.length ∧ Hid (Below W.heap.size W wr) ∧ Hid (rb = true → ∀ j, j < k → HoldP (nth l j) px py)
theorem td_succ {l : List Ms} {px py : Int} {k : Nat} {rb : Bool} (h : rb = true → ∀ j, j < k → HoldP (nth l j) px py) (r2 : Bool) (h2 : r2 = true → rb = true ∧ HoldP (nth l k) px py) : r2 = true → ∀ j, j < k + 1 → HoldP (nth l j) px py := fun q j hj => by
  obtain ⟨a, b⟩ := h2 q
  by_cases e : j = k
  · rw [e]; exact b
  · exact h a j (by omega)
end Go.Proofs.YtidelghgjibndaaGreat
namespace Go.Proofs.YtidelghgjibndaaGreat
set_option linter.unusedVariables false
open Go.ChangeShapes Go.WideShapes Go.ChangeAt Go.RowKit Go.Joins

theorem cells_of_scene : Tryz.prog.cellsOf 29 = 9 := by kernel_rfl
theorem cells_of_points : Tryz.prog.cellsOf 27 = 1 := by kernel_rfl
theorem types_of_scene : Tryz.prog.cellTypes Tryz.prog.depth 29 = some [22, 2, 2, 2, 2, 2, 2, 27, 3] := by kernel_rfl
section
variable {H : Type} {enc : TypeId × Value → H} {W : World} {b0 : Nat}
set_option maxRecDepth 100000 in
theorem open_scene {v : Value} {d : DataW H} {p : List MemPlace} (hv : Value.okWide Tryz.prog W .any b0 29 v) (h : DataW.Trod enc Tryz.prog W 0 (fun _ => true) true 29 v d p) :
    ∃ (rv pv : Value) (tick sp cx cy bx b2 fa : Int) (L : List Rp) (Q : List Pt), v = .agg #[rv, .int .i64 tick, .int .i64 sp, .int .i64 cx, .int .i64 cy, .int .i64 bx, .int .i64 b2, pv, .int .i64 fa] ∧ RlAt L rv W ∧ (∀ i, i < L.length → 0 ≤ (nthR L i).k ∧ (nthR L i).k ≤ 255) ∧ PlAt Q pv W ∧ ∀ i, i < Q.length → (-9223372036854775808 ≤ (nthP Q i).x ∧ (nthP Q i).x ≤ 9223372036854775807) ∧ (-9223372036854775808 ≤ (nthP Q i).y ∧ (nthP Q i).y ≤ 9223372036854775807) := by
  have hv2 := hv
  obtain ⟨cs, rfl, hsz⟩ := okWide_struct Tryz.underlying29 hv
  simp only [Value.okWide, Tryz.underlying29] at hv2
  obtain ⟨cs', e, _, ts, hts, _, hcell⟩ := hv2
  cases e
  rw [types_of_scene] at hts
  cases hts
  obtain ⟨l⟩ := cs
  match l, hsz.trans cells_of_scene with
  | [c0, c1, c2, c3, c4, c5, c6, c7, c8], _ =>
    obtain ⟨u0, hu0, ok0⟩ := hcell 0 c0 rfl
    cases hu0
    obtain ⟨u7, hu7, ok7⟩ := hcell 7 c7 rfl
    cases hu7
    have w0 : Value.okWide Tryz.prog W .any b0 22 c0 := by simpa only [Value.okWide, Tryz.underlying22] using ok0
    have w7 : Value.okWide Tryz.prog W .any b0 27 c7 := by simpa only [Value.okWide, Tryz.underlying27] using ok7
    obtain ⟨a0, n0, m0, rfl⟩ := okWide_slice Tryz.underlying22 w0
    obtain ⟨a7, n7, m7, rfl⟩ := okWide_slice Tryz.underlying27 w7
    obtain ⟨fuel, hf⟩ := h
    have hf' : DataW.trod enc Tryz.prog W 0 (fun _ => true) true fuel 29 [.slice a0 n0 m0, c1, c2, c3, c4, c5, c6, .slice a7 n7 m7, c8] = some (d, p) := hf
    obtain ⟨xs, m, _, hx, _, hlen, hg⟩ := DataW.trod_struct Tryz.underlying29 hf'
    match xs, hlen with
    | [(d0, p0), y1, y2, y3, (d4, p4), y5], _ =>
      have h0 : DataW.trod enc Tryz.prog W 0 (fun _ => true) true m 22 (([Value.slice a0 n0 m0, c1, c2, c3, c4, c5, c6, Value.slice a7 n7 m7, c8].drop 0).take (Tryz.prog.cellsOf 22)) = some (d0, p0) := hg 0 _ rfl
      rw [cells_of_reports] at h0
      have g0 : DataW.trod enc Tryz.prog W 0 (fun _ => true) true m 22 [Value.slice a0 n0 m0] = some (d0, p0) := h0
      have h1 : DataW.trod enc Tryz.prog W 0 (fun _ => true) true m 2 (([Value.slice a0 n0 m0, c1, c2, c3, c4, c5, c6, Value.slice a7 n7 m7, c8].drop 1).take (Tryz.prog.cellsOf 2)) = some y1 := hg 1 _ rfl
      rw [cells_of_int64] at h1
      have g1 : DataW.trod enc Tryz.prog W 0 (fun _ => true) true m 2 [c1] = some y1 := h1
      have h2 : DataW.trod enc Tryz.prog W 0 (fun _ => true) true m 2 (([Value.slice a0 n0 m0, c1, c2, c3, c4, c5, c6, Value.slice a7 n7 m7, c8].drop 2).take (Tryz.prog.cellsOf 2)) = some y2 := hg 2 _ rfl
      rw [cells_of_int64] at h2
      have g2 : DataW.trod enc Tryz.prog W 0 (fun _ => true) true m 2 [c2] = some y2 := h2
      have h3 : DataW.trod enc Tryz.prog W 0 (fun _ => true) true m 26 (([Value.slice a0 n0 m0, c1, c2, c3, c4, c5, c6, Value.slice a7 n7 m7, c8].drop 3).take (Tryz.prog.cellsOf 26)) = some y3 := hg 3 _ rfl
      rw [cells_of_box] at h3
      have g3 : DataW.trod enc Tryz.prog W 0 (fun _ => true) true m 26 [c3, c4, c5, c6] = some y3 := h3
      have h4 : DataW.trod enc Tryz.prog W 0 (fun _ => true) true m 27 (([Value.slice a0 n0 m0, c1, c2, c3, c4, c5, c6, Value.slice a7 n7 m7, c8].drop 7).take (Tryz.prog.cellsOf 27)) = some (d4, p4) := hg 4 _ rfl
      rw [cells_of_points] at h4
      have g4 : DataW.trod enc Tryz.prog W 0 (fun _ => true) true m 27 [Value.slice a7 n7 m7] = some (d4, p4) := h4
      have h5 : DataW.trod enc Tryz.prog W 0 (fun _ => true) true m 3 (([Value.slice a0 n0 m0, c1, c2, c3, c4, c5, c6, Value.slice a7 n7 m7, c8].drop 8).take (Tryz.prog.cellsOf 3)) = some y5 := hg 5 _ rfl
      rw [cells_of_int] at h5
      have g5 : DataW.trod enc Tryz.prog W 0 (fun _ => true) true m 3 [c8] = some y5 := h5
      obtain ⟨tick, e1, _, _⟩ := DataW.trod_int Tryz.underlying2 g1
      obtain rfl : c1 = .int .i64 tick := by simpa using e1
      obtain ⟨sp, e2, _, _⟩ := DataW.trod_int Tryz.underlying2 g2
      obtain rfl : c2 = .int .i64 sp := by simpa using e2
      obtain ⟨cx, cy, bx, b2, rfl, rfl, rfl, rfl, _, _, _, _, _⟩ := trod_box g3
      obtain ⟨fa, e5, _, _⟩ := DataW.trod_int Tryz.underlying3 g5
      obtain rfl : c8 = .int .i64 fa := by simpa using e5
      obtain ⟨L, hL, hK⟩ := open_reports w0 (d := d0) (p := p0) ⟨m, g0⟩
      obtain ⟨Q, hQ, hB⟩ := open_points w7 (d := d4) (p := p4) ⟨m, g4⟩
      exact ⟨_, _, tick, sp, cx, cy, bx, b2, fa, L, Q, rfl, hL, hK, hQ, hB⟩
end
end Go.Proofs.YtidelghgjibndaaGreat
