/-
  Walks and laws of the layers below, gathered from several texts.
-/
import Derived.Lib.SmallJoins
import Derived.Deep.Onto
import Derived.Test.YtajmjkliblippaaGreatDoorShelf
import Derived.Test.YtajmjkliblippaaGreatDoorFixPlain
import Derived.WalkKit
import Derived.WalkSpells
import Derived.Lib.Hide
import Derived.Deep.QuietTactic
import Derived.BigQuiet
import Derived.Laws.Bits64
import Derived.IntWalk
import Derived.Laws.OwnMore
import Derived.Lib.SlicesCompact
import Derived.Lib.RowBridge
import Derived.Sort.OwnSortedInts
import Derived.Deep.RegionHeld3
import Derived.Lib.QuietBelow
import Derived.Test.YtajmjkliblippaaGreatDoorM65
namespace Go.Proofs.YtajmjkliblippaaGreatDoor.S44
set_option linter.unusedVariables false
open Go.RowKit
/-- an edge's copy in a block of its own -/
structure EdgeAt (m : Ms) (c : Int) (be : Nat) (W : World) : Prop where
  lt : be < W.heap.size
  c0 : W.cell? ⟨be, 0, none⟩ = some (.int .i64 m.a)
  c1 : W.cell? ⟨be, 1, none⟩ = some (.int .i64 m.b)
  c2 : W.cell? ⟨be, 2, none⟩ = some (.int .i64 c)
theorem edge_new (m : Ms) (c : Int) (w : World) (t : TypeId) : EdgeAt m c w.heap.size (w.alloc (.cells #[.int .i64 m.a, .int .i64 m.b, .int .i64 c] t)) :=
  ⟨by simp, by rw [World.cell?_alloc_at _ _ _ _ rfl]; rfl, by rw [World.cell?_alloc_at _ _ _ _ rfl]; rfl, by rw [World.cell?_alloc_at _ _ _ _ rfl]; rfl⟩
theorem EdgeAt.same {m : Ms} {c : Int} {be : Nat} {W w' : World} (h : EdgeAt m c be W) (hk : w'.heap[be]? = W.heap[be]?) (hs : W.heap.size ≤ w'.heap.size) : EdgeAt m c be w' :=
  ⟨Nat.lt_of_lt_of_le h.lt hs, (World.cell?_of_block (w := W) (a := ⟨be, 0, none⟩) hk).trans h.c0, (World.cell?_of_block (w := W) (a := ⟨be, 1, none⟩) hk).trans h.c1, (World.cell?_of_block (w := W) (a := ⟨be, 2, none⟩) hk).trans h.c2⟩
theorem EdgeAt.below {m : Ms} {c : Int} {be : Nat} {W w' : World} (h : EdgeAt m c be W) (hb : Below W.heap.size W w') : EdgeAt m c be w' := h.same (hb.block be h.lt) hb.size
structure CrAt (p : Cr) (bp : Nat) (W : World) : Prop where
  lt : bp < W.heap.size
  c0 : W.cell? ⟨bp, 0, none⟩ = some (.int .i64 p.x)
  c1 : W.cell? ⟨bp, 1, none⟩ = some (.int .i64 p.y)
  c2 : W.cell? ⟨bp, 2, none⟩ = some (.int .i64 p.d)
theorem cr_new (p : Cr) (w : World) (t : TypeId) : CrAt p w.heap.size (w.alloc (.cells #[.int .i64 p.x, .int .i64 p.y, .int .i64 p.d] t)) :=
  ⟨by simp, by rw [World.cell?_alloc_at _ _ _ _ rfl]; rfl, by rw [World.cell?_alloc_at _ _ _ _ rfl]; rfl, by rw [World.cell?_alloc_at _ _ _ _ rfl]; rfl⟩
theorem CrAt.below {p : Cr} {be : Nat} {W w' : World} (h : CrAt p be W) (hb : Below W.heap.size W w') : CrAt p be w' :=
  ⟨Nat.lt_of_lt_of_le h.lt hb.size, (hb.cell (p := ⟨be, 0, none⟩) h.lt).trans h.c0, (hb.cell (p := ⟨be, 1, none⟩) h.lt).trans h.c1, (hb.cell (p := ⟨be, 2, none⟩) h.lt).trans h.c2⟩
theorem own_below {bo : Nat} {W w' : World} {k : Nat} (hl : bo < W.heap.size) (hb : Below W.heap.size W w') (hn : ¬ OwnC bo W k) : ¬ OwnC bo w' k := fun h => hn (by
  rcases h with h | ⟨u, h1, h2⟩
  · exact .inl h
  · exact .inr ⟨u, by rw [← h1]; exact (hb.cell (p := ⟨bo, 0, none⟩) hl).symm, h2⟩)
/-- the state in the closure's loops -/
structure CorSt (w W : World) (bl bo : Nat) (v : Value) (n : Ms) (bn : Nat) (C : List Cr) (wr : World) : Prop where
  ex : ∃ u, CorI w bl bo v u C wr
  kx : KeepX (OwnC bo) W wr
  cp : CopyAt n bn wr
  nn : ¬ OwnC bo wr bn
theorem CorSt.keep {w W : World} {bl bo : Nat} {v : Value} {n : Ms} {bn : Nat} {C : List Cr} {wr w' : World} (h : CorSt w W bl bo v n bn C wr) (hb : Below wr.heap.size wr w') : CorSt w W bl bo v n bn C w' := by
  obtain ⟨u, hu⟩ := h.ex
  exact ⟨⟨u, hu.keep hb⟩, h.kx.trans (keepx_below hu.lt hb), h.cp.below hb, own_below hu.lt hb h.nn⟩
def Q1 (w W : World) (bl bo : Nat) (v : Value) (l : List Ms) (m n : Ms) (bn : Nat) (C : List Cr) (s : Value) (wr : World) : Prop := ∃ i : Nat, s = .int .i64 i ∧ i ≤ 2 ∧ Hid (CorSt w W bl bo v n bn (C ++ crn l m n (2 * i)) wr)
def Q2 (w W : World) (bl bo : Nat) (v : Value) (l : List Ms) (m n : Ms) (bn : Nat) (C : List Cr) (i be : Nat) (s : Value) (wr : World) : Prop := ∃ j : Nat, s = .int .i64 j ∧ j ≤ 2 ∧ Hid (CorSt w W bl bo v n bn (C ++ crn l m n (2 * i + j)) wr) ∧ Hid (EdgeAt m (edgeC m (tag2 i)) be wr) ∧ Hid (¬ OwnC bo wr be)
def CorPost (w W : World) (bl bo : Nat) (v : Value) (l : List Ms) (m n : Ms) (C : List Cr) (e : Ending) (w' : World) : Prop := e = .returned (.tuple #[]) ∧ (∃ u, CorI w bl bo v u (C ++ crn l m n 4) w') ∧ KeepX (OwnC bo) W w'
theorem crn_at (l : List Ms) (m n : Ms) {i j : Nat} (hj : j < 2) : crn l m n (2 * i + (j + 1)) = crn l m n (2 * i + j) ++ pickC l m n (tag2 i) (tag2 j) := by
  rw [← Nat.add_assoc, crn_succ, show (2 * i + j) / 2 = i by omega, show (2 * i + j) % 2 = j by omega]
set_option maxHeartbeats 16000000 in
set_option maxRecDepth 100000 in
theorem cor_fn (l : List Ms) (v u : Value) (m n : Ms) (w W : World) (bl bo : Nat) (C : List Cr) (hI : CorI w bl bo v u C W) (hlb : bl ≠ bo) (hV : LstAt l v w) (he : ∀ m ∈ l, EdM m) (hm : EdM m) (hn : EdM n) (hC : C.length ≤ 2000) :
    Calls Tryz.prog 136 #[.agg #[.int .i64 m.s, .int .i64 m.a, .int .i64 m.b, .int .i64 m.z, .int .i64 m.d, .int .i64 m.w], .agg #[.int .i64 n.s, .int .i64 n.a, .int .i64 n.b, .int .i64 n.z, .int .i64 n.d, .int .i64 n.w], .pointer (some ⟨bl, 0, none⟩), .pointer (some ⟨bo, 0, none⟩)] W
      (CorPost w W bl bo v l m n C) := by
  have HI := Lib.hid hI
  have HLB := Lib.hid hlb
  have HV := Lib.hid hV
  have HEd := Lib.hid he
  have HM := Lib.hid hm
  have HN := Lib.hid hn
  have CN := Lib.hid (copy_new n (W.alloc (.cells #[.int .i64 m.s, .int .i64 m.a, .int .i64 m.b, .int .i64 m.z, .int .i64 m.d, .int .i64 m.w] 71)) 71)
  clear hI hlb hV he hm hn
  go_enter Tryz.func136, Tryz.ntmps136
  go_wp2_with fail
  refine (edges_any m _ HM.out).mono ?_
  rintro e w1 ⟨rfl, hb1⟩
  have hbW : Below W.heap.size W w1 := (((Below.refl W.heap.size W).alloc (Nat.le_refl _) _).alloc (by simp) _).trans (hb1.mono (by simp; omega))
  have S1 : CorSt w W bl bo v n (W.heap.size + 1) (C ++ crn l m n (2 * 0)) w1 := by
    refine ⟨⟨u, ?_⟩, keepx_below HI.out.lt hbW, ?_, own_below HI.out.lt hbW (own_new HI.out (by omega))⟩
    · have e : C ++ crn l m n (2 * 0) = C := by unfold crn; simp
      rw [e]
      exact HI.out.keep hbW
    · have := CN.out.below hb1
      simpa using this
  have HS1 := Lib.hid S1
  clear hbW S1 hb1 CN
  generalize W.heap.size + 1 = bn at *
  go_wp2_with fail
  go_loopw [14] (Q1 w W bl bo v l m n bn C) (fun i _ => 2 - (intOf i).toNat)
  case atStart => exact ⟨0, rfl, by omega, HS1⟩
  case round =>
    obtain ⟨i, rfl, hi, HS⟩ := hrel
    by_cases q : i < 2
    · have q' : decide ((i : Int) < 2) = true := by simp; omega
      have ix1 : ∀ w, (Instr.index 152 (.agg #[.int .i64 m.a, .int .i64 m.b, .int .i64 (edgeC m false), .int .i64 m.a, .int .i64 m.b, .int .i64 (edgeC m true)]) (.int .i64 (i : Int))).run Tryz.prog w = .ok (.agg #[.int .i64 m.a, .int .i64 m.b, .int .i64 (edgeC m (tag2 i))]) w := by
        intro w
        rcases (show i = 0 ∨ i = 1 by omega) with rfl | rfl <;> rfl
      have cn := HS.out.cp
      have c0 := cn.c0
      have c1 := cn.c1
      have c2 := cn.c2
      have c3 := cn.c3
      have c4 := cn.c4
      have c5 := cn.c5
      have hbn := cn.lt
      clear cn
      have EN := Lib.hid (edge_new m (edgeC m (tag2 i)) wr 151)
      go_wp2_with fail
      refine (edges_any n _ HN.out).mono ?_
      rintro e w2 ⟨rfl, hb2⟩
      have hbr : Below wr.heap.size wr w2 := ((Below.refl wr.heap.size wr).alloc (Nat.le_refl _) _).trans (hb2.mono (by simp))
      have HS2 := Lib.hid (HS.out.keep hbr)
      have HE2 := Lib.hid (EN.out.below hb2)
      have HO2 : Hid (¬ OwnC bo w2 wr.heap.size) := by
        obtain ⟨u0, hu0⟩ := HS.out.ex
        exact own_below hu0.lt hbr (own_new hu0 (Nat.le_refl _))
      clear c0 c1 c2 c3 c4 c5 hbn hbr hb2 EN ix1 HS
      generalize wr.heap.size = be at *
      go_wp2_with fail
      go_loopw [19] (Q2 w W bl bo v l m n bn C i be) (fun j _ => 2 - (intOf j).toNat)
      case atStart => exact ⟨0, rfl, by omega, HS2, HE2, HO2⟩
      case round =>
        obtain ⟨j, rfl, hj, HS, HE, HO⟩ := hrel
        by_cases r : j < 2
        · have r' : decide ((j : Int) < 2) = true := by simp; omega
          have ix2 : ∀ w, (Instr.index 152 (.agg #[.int .i64 n.a, .int .i64 n.b, .int .i64 (edgeC n false), .int .i64 n.a, .int .i64 n.b, .int .i64 (edgeC n true)]) (.int .i64 (j : Int))).run Tryz.prog w = .ok (.agg #[.int .i64 n.a, .int .i64 n.b, .int .i64 (edgeC n (tag2 j))]) w := by
            intro w
            rcases (show j = 0 ∨ j = 1 by omega) with rfl | rfl <;> rfl
          have he := HE.out
          have x0 := he.c0
          have x1 := he.c1
          have x2 := he.c2
          have hbe := he.lt
          have hsm1 := Lib.hid (edge_sm HM.out (tag2 i))
          have hsm2 := Lib.hid (edge_sm HN.out (tag2 j))
          have CA := Lib.hid (crn_at l m n (i := i) r)
          have MT := Lib.hid fun w => meet_any m n (edgeC m (tag2 i)) (edgeC n (tag2 j)) w HM.out HN.out hsm1.out hsm2.out
          obtain ⟨u1, hu1⟩ := HS.out.ex
          have HU := Lib.hid hu1
          clear he hu1
          by_cases hd : detM m n = 0
          · have PK := Lib.hid (show pickC l m n (tag2 i) (tag2 j) = [] by unfold pickC; rw [if_pos hd])
            have EM : meetF m n (edgeC m (tag2 i)) (edgeC n (tag2 j)) = (⟨0, 0, 0⟩, false) := by unfold meetF; rw [if_pos hd]
            have MT2 := MT.out
            rw [EM] at MT2
            have HMT := Lib.hid MT2
            clear hd EM MT2 MT
            go_wp2_with fail
            refine (HMT.out _).mono ?_
            rintro e w3 ⟨rfl, hb3⟩
            have hbr : Below wr.heap.size wr w3 := ((Below.refl wr.heap.size wr).alloc (Nat.le_refl _) _).trans (hb3.mono (by simp))
            have HB := Lib.hid hbr
            clear x0 x1 x2 hbe hb3 hbr
            go_wp2
            go_roundw
            case rel =>
              have hb := HB.out.alloc HB.out.size (.cells #[.int .i64 0, .int .i64 0, .int .i64 0] 155)
              refine ⟨j + 1, by go_num, by omega, ?_, HE.out.below hb, own_below HU.out.lt hb HO.out⟩
              rw [CA.out, PK.out, List.append_nil]
              exact HS.out.keep hb
            case measure => simp [intOf]; omega
          · have EM : meetF m n (edgeC m (tag2 i)) (edgeC n (tag2 j)) = (crossC m n (edgeC m (tag2 i)) (edgeC n (tag2 j)), true) := by unfold meetF; rw [if_neg hd]
            have MT2 := MT.out
            rw [EM] at MT2
            have HMT := Lib.hid MT2
            have SP := Lib.hid (cross_sm HM.out HN.out hsm1.out hsm2.out)
            have PK0 : pickC l m n (tag2 i) (tag2 j) = if holdsB l (crossC m n (edgeC m (tag2 i)) (edgeC n (tag2 j))) = true then [crossC m n (edgeC m (tag2 i)) (edgeC n (tag2 j))] else [] := by unfold pickC; rw [if_neg hd]
            clear hd EM MT2 MT
            generalize crossC m n (edgeC m (tag2 i)) (edgeC n (tag2 j)) = p at *
            have HO0 := fun v w hv => holds_any l p v w hv HEd.out SP.out
            have CNP := Lib.hid fun w => cr_new p w 155
            cases hh : holdsB l p with
            | false =>
              rw [hh] at HO0
              have HH := Lib.hid HO0
              have PK := Lib.hid (show pickC l m n (tag2 i) (tag2 j) = [] by rw [PK0, hh]; rfl)
              clear hh PK0 HO0
              go_wp2_with fail
              refine (HMT.out _).mono ?_
              rintro e w3 ⟨rfl, hb3⟩
              have hbr : Below wr.heap.size wr w3 := ((Below.refl wr.heap.size wr).alloc (Nat.le_refl _) _).trans (hb3.mono (by simp))
              have HB := Lib.hid (hbr.alloc hbr.size (.cells #[.int .i64 p.x, .int .i64 p.y, .int .i64 p.d] 155))
              have HU3 := HU.out.keep HB.out
              have k0 := HU3.lst
              have CP := CNP.out w3
              have k1 := CP.c0
              have k2 := CP.c1
              have k3 := CP.c2
              have LV := Lib.hid (HV.out.below HU3.below)
              clear x0 x1 x2 hbe hb3 hbr HU3 CP
              go_wp2_with fail
              refine (HH.out _ _ LV.out).mono ?_
              rintro e w4 ⟨rfl, hb4⟩
              have HB4 := Lib.hid (HB.out.trans (hb4.mono HB.out.size))
              clear k0 k1 k2 k3 hb4
              go_wp2
              go_roundw
              case rel =>
                refine ⟨j + 1, by go_num, by omega, ?_, HE.out.below HB4.out, own_below HU.out.lt HB4.out HO.out⟩
                rw [CA.out, PK.out, List.append_nil]
                exact HS.out.keep HB4.out
              case measure => simp [intOf]; omega
            | true =>
              rw [hh] at HO0
              have HH := Lib.hid HO0
              have PK := Lib.hid (show pickC l m n (tag2 i) (tag2 j) = [p] by rw [PK0, hh]; rfl)
              clear hh PK0 HO0
              go_wp2_with fail
              refine (HMT.out _).mono ?_
              rintro e w3 ⟨rfl, hb3⟩
              have hbr : Below wr.heap.size wr w3 := ((Below.refl wr.heap.size wr).alloc (Nat.le_refl _) _).trans (hb3.mono (by simp))
              have HB := Lib.hid (hbr.alloc hbr.size (.cells #[.int .i64 p.x, .int .i64 p.y, .int .i64 p.d] 155))
              have HU3 := HU.out.keep HB.out
              have k0 := HU3.lst
              have CP := CNP.out w3
              have k1 := CP.c0
              have k2 := CP.c1
              have k3 := CP.c2
              have LV := Lib.hid (HV.out.below HU3.below)
              have HCP := Lib.hid CP
              clear x0 x1 x2 hbe hb3 hbr HU3 CP
              go_wp2_with fail
              refine (HH.out _ _ LV.out).mono ?_
              rintro e w4 ⟨rfl, hb4⟩
              have HB4 := Lib.hid (HB.out.trans (hb4.mono HB.out.size))
              have HU4 := Lib.hid (HU.out.keep HB4.out)
              have CP4 := HCP.out.below hb4
              have k0 := HU4.out.cell
              have k1 := CP4.c0
              have k2 := CP4.c1
              have k3 := CP4.c2
              have hbo4 := HU4.out.lt
              have hp4 := CP4.lt
              have SZ : (C ++ crn l m n (2 * i + j)).length ≤ 100000 := by
                have := crn_len l m n (2 * i + j)
                rw [List.length_append]
                omega
              have HSZ := Lib.hid SZ
              have hB4 : Hid (bo + 1 ≤ w4.heap.size) := hbo4
              clear hb4 CP4 SZ
              go_wp2_with (at_builtin; refine Halt.mk ?_)
              unfold Halt
              refine wpList_oc rfl (.tmp 34) (.tmp 36) rfl (bo + 1) u1 (C ++ crn l m n (2 * i + j)) rfl w4 HU4.out.own _ p 1 rfl HSZ.out hB4.out ?_
              intro u2 w5 ho5 hg5 hat5
              have PU := Lib.hid (CorI.push HU4.out HLB.out ho5 hg5 hat5)
              have hr5 : ∀ k, u1.ownBlock = some k → bo + 1 ≤ k := fun k hk => (World.ownsRow.lt HU4.out.own k hk).1
              have hne : some bo ≠ u1.ownBlock := fun e => by have := hr5 bo e.symm; omega
              have k5 : w5.cell? ⟨bo, 0, none⟩ = some u1 := hg5.cell (a := ⟨bo, 0, none⟩) ((HU4.out.keep ((Below.refl _ _).alloc (Nat.le_refl _) _)).cell) hne
              have f5 : w5.frozen? ⟨bo, 0, none⟩ = false := (World.frozen?_of_block (hg5.block bo (by rw [World.size_alloc]; omega) hne)).trans ((HU4.out.keep ((Below.refl _ _).alloc (Nat.le_refl _) _)).frz)
              obtain ⟨g5, cap5, hu2⟩ := Go.Joins.ownsRow_form ho5 (show 0 < ((C ++ crn l m n (2 * i + j)) ++ [p]).length by rw [List.length_append, List.length_singleton]; omega)
              obtain ⟨N5, hN5⟩ : ∃ N, ((C ++ crn l m n (2 * i + j)) ++ [p]).length = N := ⟨_, rfl⟩
              rw [hN5] at hu2
              clear k0 k1 k2 k3 hp4 hr5 hne hg5 ho5 hat5 hN5
              subst hu2
              go_wp2
              go_roundw
              case rel =>
                have kx := PU.out.2
                have hk4 := (keepx_below HU.out.lt HB4.out).trans kx
                have kb := hk4.keep be HE.out.lt HO.out
                have kn := hk4.keep bn HS.out.cp.lt HS.out.nn
                refine ⟨j + 1, by go_num, by omega, ?_, HE.out.same kb.1 hk4.size, kb.2⟩
                rw [CA.out, PK.out, ← List.append_assoc]
                exact ⟨⟨_, PU.out.1⟩, HS.out.kx.trans hk4, HS.out.cp.same kn.1 hk4.size, kn.2⟩
              case measure => simp [intOf]; omega
        · obtain rfl : j = 2 := by omega
          go_wp2
          go_roundw
          case rel => exact ⟨i + 1, by go_num, by omega, HS⟩
          case measure => simp [intOf]; omega
    · obtain rfl : i = 2 := by omega
      go_wp2
      go_end0
      exact ⟨rfl, HS.out.ex, HS.out.kx⟩
theorem corners_some (l : List Ms) (b o cap : Nat) (w : World) (h : MsAt l b o w) (hc : l.length ≤ cap) (hm : cap ≤ 9223372036854775807) (he : ∀ m ∈ l, EdM m) (hl : l.length ≤ 17) :
    Calls Tryz.prog 95 #[.slice (some ⟨b, o, none⟩) l.length cap] w fun e w' => (∃ u, e = .returned u ∧ OC w.heap.size w' u (corL l)) ∧ Below w.heap.size w w' := by
  have LV : LstAt l (.slice (some ⟨b, o, none⟩) l.length cap) w := .inr ⟨b, o, cap, rfl, hc, hm, h⟩
  have HP := Lib.hid fun W1 (h0 : ∃ u, CorI w w.heap.size (w.heap.size + 1) (.slice (some ⟨b, o, none⟩) l.length cap) u [] W1) => pairs_cor l b o cap W1 ⟨w.heap.size, 0, none⟩ ⟨w.heap.size + 1, 0, none⟩
    (fun acc W => ∃ u, CorI w w.heap.size (w.heap.size + 1) (.slice (some ⟨b, o, none⟩) l.length cap) u (corP l acc) W) (OwnC (w.heap.size + 1)) hl hc hm
    ⟨fun acc W hi => by obtain ⟨u, hi⟩ := hi; exact h.below hi.below, fun acc W ob hi => by
      obtain ⟨u, hi⟩ := hi
      have hb := (Below.refl W.heap.size W).alloc (Nat.le_refl _) ob
      exact ⟨⟨u, hi.keep hb⟩, own_alloc hi ob, fun k hk hn => own_below hi.lt hb hn⟩⟩ h0
    (fun acc m n W hm hn hacc hi => by
      obtain ⟨u, hi⟩ := hi
      refine (cor_fn l _ u m n w W _ _ _ hi (by omega) LV he (he m hm) (he n hn) (by have := corP_len l acc; omega)).mono fun e w' ⟨h1, h2, h3⟩ => ⟨h1, ?_, h3⟩
      have e : corP l (acc ++ [(m, n)]) = corP l acc ++ crn l m n 4 := by unfold corP; rw [List.flatMap_append]; simp
      rw [e]
      exact h2)
  have H0 := Lib.hid (show ∀ t1 t2, ∃ u, CorI w w.heap.size (w.heap.size + 1) (.slice (some ⟨b, o, none⟩) l.length cap) u [] ((w.alloc (.cells #[.slice (some ⟨b, o, none⟩) l.length cap] t1)).alloc (.cells #[.slice none 0 0] t2)) from fun t1 t2 =>
    ⟨.slice none 0 0, ⟨((Below.refl _ _).alloc (Nat.le_refl _) _).alloc (by simp) _, by omega, by omega, by simp, by
      rw [World.cell?_alloc_some _ _ _ (by rw [World.cell?_alloc_at _ _ _ _ rfl]; rfl), World.cell?_alloc_at _ _ _ _ rfl]; rfl, by
      rw [World.cell?_alloc_at _ _ _ _ (by simp)]; rfl, by go_simp, World.ownsRow_nil _ _ _ _⟩⟩)
  clear h he LV
  go_enter Tryz.func95, Tryz.ntmps95
  go_wp2_with (go_at_call 132; refine (HP.out _ (H0.out _ _)).mono ?_; rintro e w2 ⟨rfl, u, hi⟩; have hcell := hi.cell; have HI := Lib.hid hi; clear hi)
  go_ret
  exact ⟨⟨u, rfl, (World.ownsRow.mono HI.out.own (by omega))⟩, HI.out.below⟩
theorem corners_nil (w : World) :
    Calls Tryz.prog 95 #[.slice none 0 0] w fun e w' => (∃ u, e = .returned u ∧ OC w.heap.size w' u (corL [])) ∧ Below w.heap.size w w' := by
  go_enter Tryz.func95, Tryz.ntmps95
  go_wp2_with (go_at_call 132; refine (pairs_nil _ _ _).mono ?_; rintro e w2 ⟨rfl, rfl⟩)
  go_ret
  exact ⟨⟨_, rfl, World.ownsRow_nil _ _ _ _⟩, ((Below.refl _ _).alloc (Nat.le_refl _) _).alloc (by simp) _⟩
theorem corners_any (l : List Ms) (v : Value) (w : World) (h : LstAt l v w) (he : ∀ m ∈ l, EdM m) (hl : l.length ≤ 17) :
    Calls Tryz.prog 95 #[v] w fun e w' => (∃ u, e = .returned u ∧ OC w.heap.size w' u (corL l)) ∧ Below w.heap.size w w' := by
  rcases h with ⟨rfl, rfl⟩ | ⟨b, o, cap, rfl, h2, h3, h4⟩
  · exact corners_nil w
  · exact corners_some l b o cap w h4 h2 h3 he hl
end Go.Proofs.YtajmjkliblippaaGreatDoor.S44
namespace Go.Proofs.YtajmjkliblippaaGreatDoor.S44
set_option linter.unusedVariables false
open Go.RowKit
theorem ret_u {k : IntKind} {a b : Int} (h : a = b) : Ending.returned (.int k a) = .returned (.int k b) := by rw [h]
theorem size_any (a : Int) (w : World) (h0 : -9223372036854775808 ≤ a) (h1 : a ≤ 9223372036854775807) :
    Calls Tryz.prog 119 #[.int .i64 a] w fun e w' => e = .returned (.int .u64 (sizeI a)) ∧ w = w' := by
  by_cases h : a < 0
  · have E := Lib.hid (show sizeI a = -a by unfold sizeI; rw [if_pos h])
    have g : decide (a < 0) = true := by simpa using h
    go_enter Tryz.func119, Tryz.ntmps119
    go_wp2
    go_ret
    exact ⟨ret_u (by rw [E.out]; simp only [IntKind.wrap_u64]; omega), rfl⟩
  · have E := Lib.hid (show sizeI a = a by unfold sizeI; rw [if_neg h])
    have g : decide (a < 0) = false := by simpa using h
    go_enter Tryz.func119, Tryz.ntmps119
    go_wp2
    go_ret
    exact ⟨ret_u (by rw [E.out]), rfl⟩
end Go.Proofs.YtajmjkliblippaaGreatDoor.S44
namespace Go.Proofs.YtajmjkliblippaaGreatDoor.S44
set_option linter.unusedVariables false
open Go.RowKit
def cr0 : Cr := ⟨0, 0, 0⟩
def nthC (l : List Cr) (i : Nat) : Cr := l.getD i cr0
theorem nthC_eq {l : List Cr} {i : Nat} (h : i < l.length) : nthC l i = l[i] := by
  unfold nthC
  rw [List.getD_eq_getElem?_getD, List.getElem?_eq_getElem h]
  rfl
structure CrsAt (l : List Cr) (g : Nat) (w : World) : Prop where
  lt : g < w.heap.size
  c0 : ∀ i, i < l.length → w.cell? ⟨g, i * 3, none⟩ = some (.int .i64 (nthC l i).x)
  c1 : ∀ i, i < l.length → w.cell? ⟨g, i * 3 + 1, none⟩ = some (.int .i64 (nthC l i).y)
  c2 : ∀ i, i < l.length → w.cell? ⟨g, i * 3 + 2, none⟩ = some (.int .i64 (nthC l i).d)
theorem CrsAt.below {l : List Cr} {g : Nat} {w w' : World} (h : CrsAt l g w) (hb : Below w.heap.size w w') : CrsAt l g w' :=
  ⟨Nat.lt_of_lt_of_le h.lt hb.size, fun i hi => (hb.cell (p := ⟨g, i * 3, none⟩) h.lt).trans (h.c0 i hi), fun i hi => (hb.cell (p := ⟨g, i * 3 + 1, none⟩) h.lt).trans (h.c1 i hi), fun i hi => (hb.cell (p := ⟨g, i * 3 + 2, none⟩) h.lt).trans (h.c2 i hi)⟩
theorem CrsAt.other {l : List Cr} {g n : Nat} {W : World} (h : CrsAt l g W) (hn : n ≠ g) (u v : Value) : CrsAt l g ((W.setCell ⟨n, 0, none⟩ u).setCell ⟨n, 1, none⟩ v) := by
  have hk : ((W.setCell ⟨n, 0, none⟩ u).setCell ⟨n, 1, none⟩ v).heap[g]? = W.heap[g]? := by
    rw [Below.heap_setCell _ _ _ _ (Ne.symm hn), Below.heap_setCell _ _ _ _ (Ne.symm hn)]
  exact ⟨by have := h.lt; simpa [World.setCell] using this, fun i hi => (World.cell?_of_block (w := W) (a := ⟨g, i * 3, none⟩) hk).trans (h.c0 i hi), fun i hi => (World.cell?_of_block (w := W) (a := ⟨g, i * 3 + 1, none⟩) hk).trans (h.c1 i hi), fun i hi => (World.cell?_of_block (w := W) (a := ⟨g, i * 3 + 2, none⟩) hk).trans (h.c2 i hi)⟩
/-- what a slice of corners of the call's own is -/
theorem oc_cases {B : Nat} {w : World} {v : Value} {l : List Cr} (h : OC B w v l) : (v = .slice none 0 0 ∧ l = []) ∨ ∃ g cap, v = .slice (some ⟨g, 0, none⟩) l.length cap ∧ l.length ≤ cap ∧ cap ≤ 9223372036854775807 ∧ CrsAt l g w := by
  obtain ⟨h1, h2⟩ := h
  rcases h2 with ⟨rfl, hn⟩ | ⟨g, cap, cur, rfl, hb, hg, hc, hm, hs, ht⟩
  · exact .inl ⟨rfl, List.eq_nil_of_length_eq_zero hn⟩
  · have hlt : g < w.heap.size := (Array.getElem?_eq_some_iff.1 hg).1
    have hget : ∀ j, j < l.length * 3 → w.cell? ⟨g, j, none⟩ = (crC l)[j]? := fun j hj => by
      rw [← ht, List.getElem?_take, if_pos hj]
      unfold World.cell?
      rw [hg]
      simp
    unfold maxLen at hm
    refine .inr ⟨g, cap, rfl, hc, hm, hlt, fun i hi => ?_, fun i hi => ?_, fun i hi => ?_⟩
    · rw [hget _ (by omega), nthC_eq hi]; exact (crC_get l i hi).1
    · rw [hget _ (by omega), nthC_eq hi]; exact (crC_get l i hi).2.1
    · rw [hget _ (by omega), nthC_eq hi]; exact (crC_get l i hi).2.2
/-- an interval's variable in block bo -/
structure Out2 (bo : Nat) (x y : Int) (W : World) : Prop where
  lt : bo < W.heap.size
  c0 : W.cell? ⟨bo, 0, none⟩ = some (.int .i64 x)
  c1 : W.cell? ⟨bo, 1, none⟩ = some (.int .i64 y)
  f0 : W.frozen? ⟨bo, 0, none⟩ = false
  f1 : W.frozen? ⟨bo, 1, none⟩ = false
theorem Out2.below {bo : Nat} {x y : Int} {W w' : World} (h : Out2 bo x y W) (hb : Below W.heap.size W w') : Out2 bo x y w' :=
  ⟨Nat.lt_of_lt_of_le h.lt hb.size, (hb.cell (p := ⟨bo, 0, none⟩) h.lt).trans h.c0, (hb.cell (p := ⟨bo, 1, none⟩) h.lt).trans h.c1, (hb.frozen (p := ⟨bo, 0, none⟩) h.lt).trans h.f0, (hb.frozen (p := ⟨bo, 1, none⟩) h.lt).trans h.f1⟩
theorem Out2.set {bo : Nat} {x y : Int} {W : World} (h : Out2 bo x y W) (u v : Int) : Out2 bo u v ((W.setCell ⟨bo, 0, none⟩ (.int .i64 u)).setCell ⟨bo, 1, none⟩ (.int .i64 v)) := by
  have e1 : (W.setCell ⟨bo, 0, none⟩ (.int .i64 u)).cell? ⟨bo, 1, none⟩ = some (.int .i64 y) := by rw [World.cell?_setCell_other]; exact h.c1; intro e; injection e with _ e _; cases e
  have e0 : (W.setCell ⟨bo, 0, none⟩ (.int .i64 u)).cell? ⟨bo, 0, none⟩ = some (.int .i64 u) := World.cell?_setCell_same' W _ _ (by rw [h.c0]; rfl)
  refine ⟨by have := h.lt; simpa [World.setCell] using this, ?_, World.cell?_setCell_same' _ _ _ (by rw [e1]; rfl), by rw [World.frozen?_setCell, World.frozen?_setCell]; exact h.f0, by rw [World.frozen?_setCell, World.frozen?_setCell]; exact h.f1⟩
  rw [World.cell?_setCell_other]
  · exact e0
  · intro e; injection e with _ e _; cases e
theorem Out2.other {bo n : Nat} {x y : Int} {W : World} (h : Out2 bo x y W) (hn : n ≠ bo) (u v : Value) : Out2 bo x y ((W.setCell ⟨n, 0, none⟩ u).setCell ⟨n, 1, none⟩ v) := by
  have hk : ((W.setCell ⟨n, 0, none⟩ u).setCell ⟨n, 1, none⟩ v).heap[bo]? = W.heap[bo]? := by
    rw [Below.heap_setCell _ _ _ _ (Ne.symm hn), Below.heap_setCell _ _ _ _ (Ne.symm hn)]
  exact ⟨by have := h.lt; simpa [World.setCell] using this, (World.cell?_of_block (w := W) (a := ⟨bo, 0, none⟩) hk).trans h.c0, (World.cell?_of_block (w := W) (a := ⟨bo, 1, none⟩) hk).trans h.c1, (World.frozen?_of_block (w := W) (a := ⟨bo, 0, none⟩) hk).trans h.f0, (World.frozen?_of_block (w := W) (a := ⟨bo, 1, none⟩) hk).trans h.f1⟩
end Go.Proofs.YtajmjkliblippaaGreatDoor.S44
namespace Go.Proofs.YtajmjkliblippaaGreatDoor.S44
set_option linter.unusedVariables false
open Go.RowKit
theorem oc_len {B : Nat} {w : World} {v : Value} {l : List Cr} (h : OC B w v l) : ∃ p cap, v = .slice p l.length cap := by
  rcases oc_cases h with ⟨rfl, rfl⟩ | ⟨g, cap, rfl, _⟩
  · exact ⟨none, 0, rfl⟩
  · exact ⟨_, _, rfl⟩
theorem ed_of {l : List Ms} (h : chkL l = 0) : (∀ m ∈ l, EdM m) ∧ l.length ≤ 17 := ⟨fun m hm => OkM.ed ((chkL_ok h).2 m hm), by have := (chkL_ok h).1; omega⟩
end Go.Proofs.YtajmjkliblippaaGreatDoor.S44
namespace Go.Proofs.YtajmjkliblippaaGreatDoor.S44
set_option linter.unusedVariables false
open Go.RowKit
set_option maxHeartbeats 4000000 in
theorem wo_some (l : List Ms) (s : Int) (b o cap : Nat) (w : World) (h : MsAt l b o w) (hc : l.length ≤ cap) (hm : cap ≤ 9223372036854775807) (hl : l.length ≤ 17) :
    Calls Tryz.prog 62 #[.slice (some ⟨b, o, none⟩) l.length cap, .int .i64 s] w fun e w' => (∃ u, e = .returned u ∧ OM w.heap.size w' u (woL l s)) ∧ Below w.heap.size w w' := by
  have H := Lib.hid h
  have hlt := h.lt
  clear h
  go_enter Tryz.func62, Tryz.ntmps62
  go_wp2
  go_loopw [5, 10] (WoR l s w) (fun _ i _ => l.length - (intOf i).toNat)
  case atStart => exact ⟨0, rfl, Nat.zero_le _, Lib.hid (Below.refl _ _), Lib.hid (World.ownsRow_nil _ _ _ _)⟩
  case round =>
    obtain ⟨k, rfl, hk, HB, HO⟩ := hrel
    by_cases q : k < l.length
    · have q' : decide (k < l.length) = true := by simpa using q
      have M := H.out.keep HB.out hlt
      have c0 := M.c0 k q
      have c1 := M.c1 k q
      have c2 := M.c2 k q
      have c3 := M.c3 k q
      have c4 := M.c4 k q
      have c5 := M.c5 k q
      have WS := Lib.hid (woL_succ (s := s) q)
      have SZ := Lib.hid (show (woL (l.take k) s).length ≤ 100000 by have := woL_len (l.take k) s; rw [List.length_take] at this; omega)
      have HS := Lib.hid HB.out.size
      clear M
      generalize hp : nth l k = p at *
      clear hp
      by_cases e : p.s = s
      · have g : (p.s != s) = false := by simpa using e
        have E := Lib.hid e
        clear e
        go_wp2
        go_roundw
        case rel =>
          have hb := (Below.refl wr.heap.size wr).alloc (Nat.le_refl _) (.cells #[.int .i64 p.s, .int .i64 p.a, .int .i64 p.b, .int .i64 p.z, .int .i64 p.d, .int .i64 p.w] 71)
          exact ⟨k + 1, by go_num, by omega, HB.out.trans (hb.mono HS.out), by rw [WS.out, if_pos E.out]; exact HO.out.below hb⟩
        case measure => simp [intOf]; omega
      · have g : (p.s != s) = true := by simpa using e
        have HA := Lib.hid ((Below.refl wr.heap.size wr).alloc (Nat.le_refl _) (.cells #[.int .i64 p.s, .int .i64 p.a, .int .i64 p.b, .int .i64 p.z, .int .i64 p.d, .int .i64 p.w] 71))
        go_wp2_with (at_builtin; refine Halt.mk ?_)
        unfold Halt
        refine wpList_om rfl (.tmp 18) (.tmp 20) rfl w.heap.size u5 (woL (l.take k) s) rfl (wr.alloc (.cells #[.int .i64 p.s, .int .i64 p.a, .int .i64 p.b, .int .i64 p.z, .int .i64 p.d, .int .i64 p.w] 71)) (HO.out.below HA.out) _ p 1 (by rw [World.size_alloc]; rfl) SZ.out (by have := HS.out; simp; omega) ?_
        intro u2 w5 ho5 hg5 hat5
        have HO5 : Hid (OM w.heap.size w5 u2 (woL (l.take (k + 1)) s)) := Lib.hid (by rw [WS.out, if_neg e]; exact ho5)
        have HB5 : Hid (Below w.heap.size w w5) := Lib.hid (below_grown ((HB.out.trans (HA.out.mono HS.out)).alloc (by simp; have := HS.out; omega) _) hg5 (by simp; have := HS.out; omega) (fun k hk => (World.ownsRow.lt HO.out k hk).1))
        clear hg5 hat5 c0 c1 c2 c3 c4 c5
        obtain ⟨g5, cap5, hu2⟩ := Go.Joins.ownsRow_form ho5 (show 0 < (woL (l.take k) s ++ [p]).length by rw [List.length_append, List.length_singleton]; omega)
        obtain ⟨N5, hN5⟩ : ∃ N, (woL (l.take k) s ++ [p]).length = N := ⟨_, rfl⟩
        rw [hN5] at hu2
        clear ho5 hN5
        subst hu2
        go_wp2
        go_roundw
        case rel => exact ⟨k + 1, by go_num, by omega, HB5, HO5⟩
        case measure => simp [intOf]; omega
    · obtain rfl : k = l.length := by omega
      rw [List.take_length] at HO
      rcases om_cases HO.out with ⟨rfl, hz⟩ | ⟨g, cap', rfl, _⟩
      · go_wp2
        go_ret
        exact ⟨⟨_, rfl, HO.out⟩, HB.out⟩
      · go_wp2
        go_ret
        exact ⟨⟨_, rfl, HO.out⟩, HB.out⟩
theorem wo_any (l : List Ms) (s : Int) (v : Value) (w : World) (h : LstAt l v w) (hl : l.length ≤ 17) :
    Calls Tryz.prog 62 #[v, .int .i64 s] w fun e w' => (∃ u, e = .returned u ∧ OM w.heap.size w' u (woL l s)) ∧ Below w.heap.size w w' := by
  rcases h with ⟨rfl, rfl⟩ | ⟨b, o, cap, rfl, h2, h3, h4⟩
  · exact wo_nil s w
  · exact wo_some l s b o cap w h4 h2 h3 hl
end Go.Proofs.YtajmjkliblippaaGreatDoor.S44
namespace Go.Proofs.YtajmjkliblippaaGreatDoor.S44
set_option linter.unusedVariables false
open Go.RowKit
set_option maxHeartbeats 4000000 in
theorem src_some (l : List Ms) (b o cap : Nat) (w : World) (h : MsAt l b o w) (hc : l.length ≤ cap) (hm : cap ≤ 9223372036854775807) (hl : l.length ≤ 17) :
    Calls Tryz.prog 94 #[.slice (some ⟨b, o, none⟩) l.length cap] w fun e w' => (∃ u, e = .returned u ∧ OI w.heap.size w' u (srcL l)) ∧ Below w.heap.size w w' := by
  have H := Lib.hid h
  have hlt := h.lt
  clear h
  go_enter Tryz.func94, Tryz.ntmps94
  go_wp2
  go_loopw [3, 8] (SrR l w) (fun _ i _ => l.length - (intOf i).toNat)
  case atStart => exact ⟨0, rfl, Nat.zero_le _, Lib.hid (Below.refl _ _), Lib.hid (World.ownsRow_nil _ _ _ _)⟩
  case round =>
    obtain ⟨k, rfl, hk, HB, HO⟩ := hrel
    by_cases q : k < l.length
    · have q' : decide (k < l.length) = true := by simpa using q
      have M := H.out.keep HB.out hlt
      have c0 := M.c0 k q
      have c1 := M.c1 k q
      have c2 := M.c2 k q
      have c3 := M.c3 k q
      have c4 := M.c4 k q
      have c5 := M.c5 k q
      have WS := Lib.hid (srcs_succ q)
      have SZ := Lib.hid (show ((l.take k).map Ms.s).length ≤ 100000 by rw [List.length_map, List.length_take]; omega)
      have HS := Lib.hid HB.out.size
      clear M
      generalize hp : nth l k = p at *
      clear hp
      have HA := Lib.hid ((Below.refl wr.heap.size wr).alloc (Nat.le_refl _) (.cells #[.int .i64 p.s, .int .i64 p.a, .int .i64 p.b, .int .i64 p.z, .int .i64 p.d, .int .i64 p.w] 71))
      go_wp2_with (at_builtin; refine Halt.mk ?_)
      unfold Halt
      refine wpList_oi rfl (.tmp 12) (.tmp 15) rfl w.heap.size u3 ((l.take k).map Ms.s) rfl (wr.alloc (.cells #[.int .i64 p.s, .int .i64 p.a, .int .i64 p.b, .int .i64 p.z, .int .i64 p.d, .int .i64 p.w] 71)) (HO.out.below HA.out) _ p.s 1 (by rw [World.size_alloc]; rfl) SZ.out (by have := HS.out; simp; omega) ?_
      intro u2 w5 ho5 hg5 hat5
      have HO5 : Hid (OI w.heap.size w5 u2 ((l.take (k + 1)).map Ms.s)) := Lib.hid (by rw [WS.out]; exact ho5)
      have HB5 : Hid (Below w.heap.size w w5) := Lib.hid (below_grown ((HB.out.trans (HA.out.mono HS.out)).alloc (by simp; have := HS.out; omega) _) hg5 (by simp; have := HS.out; omega) (fun k hk => (World.ownsRow.lt HO.out k hk).1))
      clear hg5 hat5 c0 c1 c2 c3 c4 c5
      obtain ⟨g5, cap5, hu2⟩ := Go.Joins.ownsRow_form ho5 (show 0 < ((l.take k).map Ms.s ++ [p.s]).length by rw [List.length_append, List.length_singleton]; omega)
      obtain ⟨N5, hN5⟩ : ∃ N, ((l.take k).map Ms.s ++ [p.s]).length = N := ⟨_, rfl⟩
      rw [hN5] at hu2
      clear ho5 hN5
      subst hu2
      go_wp2
      go_roundw
      case rel => exact ⟨k + 1, by go_num, by omega, HB5, HO5⟩
      case measure => simp [intOf]; omega
    · obtain rfl : k = l.length := by omega
      rw [List.take_length] at HO
      have HS := HB.out.size
      have L1 : (l.map Ms.s).length ≤ 100000 := by rw [List.length_map]; omega
      have L2 : (srtL l).length ≤ 100000 := by rw [srt_len]; omega
      have SO := Lib.hid (sort_own HO.out L1 HS)
      have CO := Lib.hid fun w1 (h : OI w.heap.size w1 u3 (srtL l)) (hs : w.heap.size ≤ w1.heap.size) => compact_own h L2 hs
      have FM : (∃ x y z, u3 = .slice x y z) := by
        rcases oi_cases HO.out with ⟨h, _⟩ | ⟨g, cap', h, _⟩
        · exact ⟨_, _, _, h⟩
        · exact ⟨_, _, _, h⟩
      obtain ⟨x3, y3, z3, rfl⟩ := FM
      clear HO
      go_wp2_with fail
      refine SO.out.mono ?_
      rintro e w1 ⟨rfl, ho1, hb1⟩
      have C1 := Lib.hid (CO.out w1 ho1 (Nat.le_trans HS hb1.size))
      have HB1 := Lib.hid (HB.out.trans hb1)
      clear ho1 hb1
      go_wp2_with fail
      refine C1.out.mono ?_
      rintro e w2 ⟨⟨u, rfl, ho2⟩, hb2⟩
      have HB2 := Lib.hid (HB1.out.trans hb2)
      have HO2 : Hid (OI w.heap.size w2 u (srcL l)) := Lib.hid ho2
      clear hb2
      have FM : (∃ x y z, u = .slice x y z) := by
        rcases oi_cases ho2 with ⟨h, _⟩ | ⟨g, cap', h, _⟩
        · exact ⟨_, _, _, h⟩
        · exact ⟨_, _, _, h⟩
      obtain ⟨x4, y4, z4, rfl⟩ := FM
      clear ho2
      go_wp2
      go_ret
      exact ⟨⟨_, rfl, HO2.out⟩, HB2.out⟩
theorem src_any (l : List Ms) (v : Value) (w : World) (h : LstAt l v w) (hl : l.length ≤ 17) :
    Calls Tryz.prog 94 #[v] w fun e w' => (∃ u, e = .returned u ∧ OI w.heap.size w' u (srcL l)) ∧ Below w.heap.size w w' := by
  rcases h with ⟨rfl, rfl⟩ | ⟨b, o, cap, rfl, h2, h3, h4⟩
  · exact src_nil w
  · exact src_some l b o cap w h4 h2 h3 hl
end Go.Proofs.YtajmjkliblippaaGreatDoor.S44
namespace Go.Proofs.YtajmjkliblippaaGreatDoor.S44
set_option linter.unusedVariables false
open Go.RowKit
def okS (l : List Ms) (s : Int) : Bool := decide (0 < (corL (woL l s)).length)
def fuS (l : List Ms) (s : Int) : Bool := fullB (woL l s)
def rgtL (l : List Ms) (k : Nat) : List Int := ((srcL l).take k).filter (okS l)
theorem rgtL_succ {l : List Ms} {k : Nat} (h : k < (srcL l).length) : rgtL l (k + 1) = if okS l ((srcL l).getD k 0) = true then rgtL l k ++ [(srcL l).getD k 0] else rgtL l k := by
  have e : (srcL l).getD k 0 = (srcL l)[k] := by rw [List.getD_eq_getElem?_getD, List.getElem?_eq_getElem h]; rfl
  unfold rgtL
  rw [List.take_succ_eq_append_getElem h, List.filter_append, e]
  by_cases q : okS l (srcL l)[k] = true
  · rw [if_pos q]
    simp [q]
  · rw [if_neg q]
    simp [q]
theorem rgtL_len (l : List Ms) (k : Nat) : (rgtL l k).length ≤ l.length := by
  unfold rgtL
  have h1 := List.length_filter_le (okS l) ((srcL l).take k)
  rw [List.length_take] at h1
  have := src_len l
  omega
/-- what Fault says of a list of right sources -/
def verd (c : Nat) (r : List Int) : Int × Int := if 0 < c then (0, 0) else if r.length = 0 then (0, 11) else if 1 < r.length then (0, 8) else (r.getD 0 0, 0)
def fltF (l : List Ms) : Int × Int :=
  if chkL l = 0 then (if fullB l = true then (if (srcL l).all (fuS l) = true then verd (corL l).length ((srcL l).filter (okS l)) else (0, 14)) else (0, 14)) else (0, chkL l)
theorem wo_ed {l : List Ms} (he : ∀ m ∈ l, EdM m) (s : Int) : ∀ m ∈ woL l s, EdM m := fun m hm => he m (List.mem_filter.1 hm).1
theorem slc_of {B : Nat} {w : World} {v : Value} {l : List Int} (h : OI B w v l) : ∃ p cap, v = .slice p l.length cap := by
  rcases oi_cases h with ⟨rfl, rfl⟩ | ⟨g, cap, rfl, _⟩
  · exact ⟨none, 0, rfl⟩
  · exact ⟨_, _, rfl⟩
theorem slm_of {B : Nat} {w : World} {v : Value} {l : List Ms} (h : OM B w v l) : ∃ p cap, v = .slice p l.length cap := by
  rcases om_cases h with ⟨rfl, rfl⟩ | ⟨g, cap, rfl, _⟩
  · exact ⟨none, 0, rfl⟩
  · exact ⟨_, _, rfl⟩
def FlR (l : List Ms) (w W1 : World) (v u : Value) (wr : World) : Prop :=
  ∃ k : Nat, u = .int .i64 k ∧ k ≤ (srcL l).length ∧ Hid (Below W1.heap.size W1 wr) ∧ Hid (OI W1.heap.size wr v (rgtL l k)) ∧ Hid (∀ j, j < k → fuS l ((srcL l).getD j 0) = true)
def FlP (l : List Ms) (w : World) (e : Ending) (w' : World) : Prop := e = .returned (.tuple #[.int .i64 (fltF l).1, .int .i64 (fltF l).2]) ∧ Below w.heap.size w w'
set_option maxHeartbeats 8000000 in
theorem flt_any (l : List Ms) (v : Value) (w : World) (h : LstAt l v w) :
    Calls Tryz.prog 60 #[v] w (FlP l w) := by
  have CH := fun w hv => check_any l v w hv
  have H := Lib.hid h
  clear h
  by_cases hc : chkL l = 0
  · obtain ⟨he, hl⟩ := ed_of hc
    rw [hc] at CH
    have HCH := Lib.hid CH
    have FU := fun w hv => full_any l v w hv he hl
    have CO := Lib.hid fun w hv => corners_any l v w hv he hl
    have SR := Lib.hid fun w hv => src_any l v w hv hl
    have WO := Lib.hid fun s w hv => wo_any l s v w hv hl
    have E0 : fltF l = if fullB l = true then (if (srcL l).all (fuS l) = true then verd (corL l).length ((srcL l).filter (okS l)) else (0, 14)) else (0, 14) := by unfold fltF; rw [if_pos hc]
    have HE := Lib.hid he
    clear CH hc he
    cases hf : fullB l with
    | false =>
      rw [hf] at FU
      have HFU := Lib.hid FU
      have E := Lib.hid (show fltF l = (0, 14) by rw [E0, hf]; rfl)
      clear FU hf E0
      go_enter Tryz.func60, Tryz.ntmps60
      go_wp2_with fail
      refine (HCH.out _ H.out).mono ?_
      rintro e w1 ⟨rfl, hb1⟩
      have HB1 := Lib.hid hb1
      clear hb1
      go_wp2_with fail
      refine (HFU.out _ (H.out.below HB1.out)).mono ?_
      rintro e w2 ⟨rfl, hb2⟩
      have HB2 := Lib.hid (HB1.out.trans (hb2.mono HB1.out.size))
      clear hb2
      go_wp2
      go_ret2
      exact ⟨by rw [E.out]; rfl, HB2.out⟩
    | true =>
      rw [hf] at FU
      have HFU := Lib.hid FU
      have E := Lib.hid (show fltF l = if (srcL l).all (fuS l) = true then verd (corL l).length ((srcL l).filter (okS l)) else (0, 14) by rw [E0, hf]; rfl)
      clear FU hf E0
      go_enter Tryz.func60, Tryz.ntmps60
      go_wp2_with fail
      refine (HCH.out _ H.out).mono ?_
      rintro e w1 ⟨rfl, hb1⟩
      have HB1 := Lib.hid hb1
      clear hb1
      go_wp2_with fail
      refine (HFU.out _ (H.out.below HB1.out)).mono ?_
      rintro e w2 ⟨rfl, hb2⟩
      have HB2 := Lib.hid (HB1.out.trans (hb2.mono HB1.out.size))
      clear hb2
      go_wp2_with fail
      refine (SR.out _ (H.out.below HB2.out)).mono ?_
      rintro e w3 ⟨⟨u, rfl, hoi⟩, hb3⟩
      have HB3 := Lib.hid (HB2.out.trans (hb3.mono HB2.out.size))
      have HOI := Lib.hid hoi
      have HL := Lib.hid (H.out.below HB3.out)
      clear hb3
      obtain ⟨p, cap, rfl⟩ := slc_of hoi
      clear hoi
      go_wp2_with fail
      go_loopw [5, 22] (FlR l w w3) (fun _ i _ => (srcL l).length - (intOf i).toNat)
      case atStart => exact ⟨0, rfl, Nat.zero_le _, Lib.hid (Below.refl _ _), Lib.hid (by unfold rgtL; rw [List.take_zero, List.filter_nil]; exact World.ownsRow_nil _ _ _ _), Lib.hid fun j hj => absurd hj (by omega)⟩
      case round =>
        obtain ⟨k, rfl, hk, HB, HO, HF⟩ := hrel
        have HS := Lib.hid HB.out.size
        have HLr := Lib.hid (HL.out.below HB.out)
        have HBr := Lib.hid (HB3.out.trans (HB.out.mono HB3.out.size))
        by_cases q : k < (srcL l).length
        · have q' : decide (k < (srcL l).length) = true := by simpa using q
          have HPO : ∃ g, p = some ⟨g, 0, none⟩ ∧ (srcL l).length ≤ cap ∧ cap ≤ 9223372036854775807 ∧ IntsAt (srcL l) g wr := by
            rcases oi_cases HOI.out with ⟨e, hz⟩ | ⟨g, c, e, h1, h2, _, h3⟩
            · rw [hz] at q; exact absurd q (by simp)
            · cases e
              exact ⟨g, rfl, h1, h2, h3.below HB.out⟩
          obtain ⟨g, rfl, hcap, hcm, hia⟩ := HPO
          have c0 := hia.c k q
          have RS := Lib.hid (rgtL_succ q)
          have MEM : (srcL l).getD k 0 ∈ srcL l := by
            rw [List.getD_eq_getElem?_getD, List.getElem?_eq_getElem q]
            exact List.getElem_mem q
          have FALLS := fun h : fuS l ((srcL l).getD k 0) = false => show fltF l = (0, 14) by
            rw [E.out, if_neg]
            intro e
            have := List.all_eq_true.1 e _ MEM
            rw [h] at this
            cases this
          have HFA := Lib.hid FALLS
          have SZ := Lib.hid (show (rgtL l k).length ≤ 100000 by have := rgtL_len l k; omega)
          clear hia MEM FALLS
          generalize hsk : (srcL l).getD k 0 = s at *
          have HSK := Lib.hid hsk
          clear hsk
          have FUS := Lib.hid fun v w (h : LstAt (woL l s) v w) => full_any (woL l s) v w h (wo_ed HE.out s) (by have := woL_len l s; omega)
          have COS := Lib.hid fun v w (h : LstAt (woL l s) v w) => corners_any (woL l s) v w h (wo_ed HE.out s) (by have := woL_len l s; omega)
          have EFU := Lib.hid (show fuS l s = fullB (woL l s) from rfl)
          go_wp2_with fail
          refine (WO.out s _ HLr.out).mono ?_
          rintro e w4 ⟨⟨u4, rfl, hom⟩, hb4⟩
          have HL4 := Lib.hid hom.lst
          have HB4 := Lib.hid hb4
          clear hb4
          obtain ⟨p4, cap4, rfl⟩ := slm_of hom
          clear hom
          generalize hN4 : (woL l s).length = N4 at *
          clear hN4
          have FU4 := FUS.out _ _ HL4.out
          rw [← EFU.out] at FU4
          cases hfs : fuS l s with
          | false =>
            have EE := Lib.hid (HFA.out hfs)
            rw [hfs] at FU4
            have HFU4 := Lib.hid FU4
            clear FU4 hfs
            go_wp2_with fail
            refine HFU4.out.mono ?_
            rintro e w5 ⟨rfl, hb5⟩
            have HB5 := Lib.hid ((HBr.out.trans (HB4.out.mono HBr.out.size)).trans (hb5.mono (by have := HBr.out.size; have := HB4.out.size; omega)))
            clear hb5
            go_wp2
            go_ret2
            exact ⟨by rw [EE.out]; rfl, HB5.out⟩
          | true =>
            have HFk := Lib.hid (show ∀ j, j < k → fuS l ((srcL l).getD j 0) = true from HF.out)
            rw [hfs] at FU4
            have HFU4 := Lib.hid FU4
            have HFS := Lib.hid hfs
            clear FU4 hfs
            go_wp2_with fail
            refine HFU4.out.mono ?_
            rintro e w5 ⟨rfl, hb5⟩
            have HL5 := Lib.hid (HL4.out.below hb5)
            have HB5 := Lib.hid (HB4.out.trans (hb5.mono HB4.out.size))
            clear hb5
            go_wp2_with fail
            refine (COS.out _ _ HL5.out).mono ?_
            rintro e w6 ⟨⟨u6, rfl, hoc⟩, hb6⟩
            obtain ⟨p6, cap6, rfl⟩ := oc_len hoc
            have HB6 := Lib.hid (HB5.out.trans (hb6.mono HB5.out.size))
            clear hb6 hoc
            have HR6 := Lib.hid (show Below w3.heap.size w3 w6 from HB.out.trans (HB6.out.mono HS.out))
            have HO6 := Lib.hid (HO.out.below HB6.out)
            have OKE := Lib.hid (show okS l s = decide (0 < (corL (woL l s)).length) from rfl)
            generalize (corL (woL l s)).length = N6 at *
            have HF2 : Hid (∀ j, j < k + 1 → fuS l ((srcL l).getD j 0) = true) := Lib.hid fun j hj => by
              by_cases e : j = k
              · rw [e, HSK.out]; exact HFS.out
              · exact HFk.out j (by omega)
            by_cases hz : 0 < N6
            · have gz : decide (0 < (N6 : Int)) = true := by simp; omega
              have gz2 : decide (0 < N6) = true := by simpa using hz
              have RS2 := Lib.hid (RS.out.trans (if_pos (by rw [OKE.out]; exact decide_eq_true hz)))
              have HS6 := Lib.hid (show w3.heap.size ≤ w6.heap.size from HR6.out.size)
              clear hz
              go_wp2_with (at_builtin; refine Halt.mk ?_)
              unfold Halt
              refine wpList_oi rfl (.tmp 36) (.tmp 38) rfl w3.heap.size u5 (rgtL l k) rfl w6 HO6.out _ s 1 rfl SZ.out HS6.out ?_
              intro u2 w7 ho7 hg7 hat7
              have HO7 : Hid (OI w3.heap.size w7 u2 (rgtL l (k + 1))) := Lib.hid (by rw [RS2.out]; exact ho7)
              have HB7 : Hid (Below w3.heap.size w3 w7) := Lib.hid (below_grown (HR6.out.alloc HS6.out _) hg7 (by simp; have := HS6.out; omega) (fun k hk => (World.ownsRow.lt HO6.out k hk).1))
              clear hg7 hat7
              obtain ⟨g7, cap7, hu2⟩ := Go.Joins.ownsRow_form ho7 (show 0 < (rgtL l k ++ [s]).length by rw [List.length_append, List.length_singleton]; omega)
              obtain ⟨N7, hN7⟩ : ∃ N, (rgtL l k ++ [s]).length = N := ⟨_, rfl⟩
              rw [hN7] at hu2
              clear ho7 hN7
              subst hu2
              go_wp2
              go_roundw
              case rel => exact ⟨k + 1, by go_num, by omega, HB7, HO7, HF2⟩
              case measure => simp [intOf]; omega
            · have gz : decide (0 < (N6 : Int)) = false := by simp; omega
              have gz2 : decide (0 < N6) = false := by simpa using hz
              have RS2 := Lib.hid (RS.out.trans (if_neg (by rw [OKE.out]; simpa using hz)))
              clear hz
              go_wp2
              go_roundw
              case rel => exact ⟨k + 1, by go_num, by omega, HR6, Lib.hid (by rw [RS2.out]; exact HO6.out), HF2⟩
              case measure => simp [intOf]; omega
        · obtain rfl : k = (srcL l).length := by omega
          have q' : decide ((srcL l).length < (srcL l).length) = false := by simp
          have ER : rgtL l (srcL l).length = (srcL l).filter (okS l) := by unfold rgtL; rw [List.take_length]
          have HALL : (srcL l).all (fuS l) = true := List.all_eq_true.2 fun x hx => by
            obtain ⟨i, hi, rfl⟩ := List.getElem_of_mem hx
            have := HF.out i hi
            rw [List.getD_eq_getElem?_getD, List.getElem?_eq_getElem hi] at this
            exact this
          have EV := Lib.hid (show fltF l = verd (corL l).length (rgtL l (srcL l).length) by rw [E.out, if_pos HALL, ER])
          have COR := Lib.hid (CO.out _ HLr.out)
          clear ER HALL hk q
          generalize rgtL l (srcL l).length = r at *
          go_wp2_with fail
          refine COR.out.mono ?_
          rintro e w4 ⟨⟨u4, rfl, hoc⟩, hb4⟩
          have HB4 := Lib.hid (HBr.out.trans (hb4.mono HBr.out.size))
          have HO4 := Lib.hid (HO.out.below hb4)
          obtain ⟨p4, cap4, rfl⟩ := oc_len hoc
          clear hb4 hoc
          generalize (corL l).length = N4 at *
          by_cases hz : 0 < N4
          · have gz : decide (0 < (N4 : Int)) = true := by simp; omega
            have gz2 : decide (0 < N4) = true := by simpa using hz
            have EE := Lib.hid (show fltF l = (0, 0) by rw [EV.out]; unfold verd; rw [if_pos hz])
            clear hz
            go_wp2
            go_ret2
            exact ⟨by rw [EE.out]; rfl, HB4.out⟩
          · have gz : decide (0 < (N4 : Int)) = false := by simp; omega
            have gz2 : decide (0 < N4) = false := by simpa using hz
            have EV2 := Lib.hid (show fltF l = if r.length = 0 then (0, 11) else if 1 < r.length then (0, 8) else (r.getD 0 0, 0) by rw [EV.out]; unfold verd; rw [if_neg hz])
            clear hz
            obtain ⟨M, hM⟩ : ∃ M, r.length = M := ⟨_, rfl⟩
            rw [hM] at EV2
            by_cases h0 : M = 0
            · have EE := Lib.hid (EV2.out.trans (if_pos h0))
              have g0 : ((M : Int) == 0) = true := by rw [beq_iff_eq]; omega
              obtain ⟨p8, cap8, hu8⟩ := slc_of HO4.out
              rw [hM] at hu8
              subst hu8
              clear h0
              go_wp2
              go_ret2
              exact ⟨by rw [EE.out]; rfl, HB4.out⟩
            · have EV3 := Lib.hid (EV2.out.trans (if_neg h0))
              have g0 : ((M : Int) == 0) = false := by rw [beq_eq_false_iff_ne]; omega
              by_cases h1 : 1 < M
              · have EE := Lib.hid (EV3.out.trans (if_pos h1))
                have g1 : decide (1 < (M : Int)) = true := by simp; omega
                have g1' : decide (1 < M) = true := by simpa using h1
                obtain ⟨p8, cap8, hu8⟩ := slc_of HO4.out
                rw [hM] at hu8
                subst hu8
                clear h0 h1
                go_wp2
                go_ret2
                exact ⟨by rw [EE.out]; rfl, HB4.out⟩
              · have EE := Lib.hid (EV3.out.trans (if_neg h1))
                have g1 : decide (1 < (M : Int)) = false := by simp; omega
                have g1' : decide (1 < M) = false := by simpa using h1
                have hp : 0 < r.length := by omega
                rcases oi_cases HO4.out with ⟨_, hz⟩ | ⟨g8, cap8, hu8, c1, c2, _, hia⟩
                · rw [hz] at hp; exact absurd hp (by simp)
                · have c0 := hia.c 0 hp
                  rw [hM] at hu8 c1
                  subst hu8
                  obtain rfl : M = 1 := by omega
                  clear h0 h1 hia
                  generalize r.getD 0 0 = x8 at *
                  go_wp2
                  go_ret2
                  exact ⟨by rw [EE.out]; rfl, HB4.out⟩
  · have g : (chkL l != 0) = true := by simpa using hc
    have HCH := Lib.hid CH
    have E := Lib.hid (show fltF l = (0, chkL l) by unfold fltF; rw [if_neg hc])
    clear CH hc
    generalize chkL l = c at *
    go_enter Tryz.func60, Tryz.ntmps60
    go_wp2_with fail
    refine (HCH.out _ H.out).mono ?_
    rintro e w1 ⟨rfl, hb1⟩
    have HB1 := Lib.hid hb1
    clear hb1
    go_wp2
    go_ret2
    exact ⟨by rw [E.out]; rfl, HB1.out⟩
end Go.Proofs.YtajmjkliblippaaGreatDoor.S44
namespace Go.Proofs.YtajmjkliblippaaGreatDoor.S44
set_option linter.unusedVariables false
open Go.RowKit
theorem MsAt.drop {l : List Ms} {b o : Nat} {w : World} (h : MsAt l b o w) (k : Nat) : MsAt (l.drop k) b (o + k * 6) w := by
  have e : ∀ i, i < (l.drop k).length → k + i < l.length ∧ nth (l.drop k) i = nth l (k + i) := fun i hi => by
    rw [List.length_drop] at hi
    refine ⟨by omega, ?_⟩
    unfold nth
    rw [List.getD_eq_getElem?_getD, List.getD_eq_getElem?_getD, List.getElem?_drop]
  have a : ∀ i, o + k * 6 + i * 6 = o + (k + i) * 6 := fun i => by omega
  refine ⟨h.lt, fun i hi => ?_, fun i hi => ?_, fun i hi => ?_, fun i hi => ?_, fun i hi => ?_, fun i hi => ?_⟩ <;> rw [(e i hi).2, a]
  · exact h.c0 _ (e i hi).1
  · exact h.c1 _ (e i hi).1
  · exact h.c2 _ (e i hi).1
  · exact h.c3 _ (e i hi).1
  · exact h.c4 _ (e i hi).1
  · exact h.c5 _ (e i hi).1
end Go.Proofs.YtajmjkliblippaaGreatDoor.S44
namespace Go.Proofs.YtajmjkliblippaaGreatDoor.S44
set_option linter.unusedVariables false
open Go.RowKit
/-- how far a measurement is from holding -/
def missI (m : Ms) (x y : Int) : Int := m.a * x + m.b * y - m.z
def hldB (m : Ms) (x y : Int) : Bool := okM m && (vldP x y && decide (absI (missI m x y) ≤ m.d))
structure PtAt (x y : Int) (bp : Nat) (w : World) : Prop where
  lt : bp < w.heap.size
  c0 : w.cell? ⟨bp, 0, none⟩ = some (.int .i64 x)
  c1 : w.cell? ⟨bp, 1, none⟩ = some (.int .i64 y)
theorem PtAt.below {x y : Int} {bp : Nat} {w w' : World} (h : PtAt x y bp w) (hb : Below w.heap.size w w') : PtAt x y bp w' :=
  ⟨Nat.lt_of_lt_of_le h.lt hb.size, (hb.cell (p := ⟨bp, 0, none⟩) h.lt).trans h.c0, (hb.cell (p := ⟨bp, 1, none⟩) h.lt).trans h.c1⟩
def allB (l : List Ms) (x y but : Int) : Bool := l.all fun m => decide (m.s = but) || hldB m x y
end Go.Proofs.YtajmjkliblippaaGreatDoor.S44
namespace Go.Proofs.YtajmjkliblippaaGreatDoor.S44
set_option linter.unusedVariables false
open Go.RowKit
theorem absI_le {x d : Int} (h : absI x ≤ d) : x ≤ d ∧ -x ≤ d := by
  unfold absI at h
  split at h <;> omega
theorem hld_in {m : Ms} {x y : Int} (h : hldB m x y = true) : In1 m x y 1 := by
  unfold hldB at h
  simp only [Bool.and_eq_true, decide_eq_true_eq] at h
  obtain ⟨_, _, h⟩ := h
  obtain ⟨h1, h2⟩ := absI_le h
  unfold missI at h1 h2
  constructor <;> (unfold gI; omega)
theorem all_in {l : List Ms} {x y but : Int} (h : allB l x y but = true) : In (woL l but) x y 1 := fun m hm => by
  obtain ⟨h1, h2⟩ := List.mem_filter.1 hm
  have := List.all_eq_true.1 h m h1
  unfold notS at h2
  have hne := of_decide_eq_true h2
  rw [decide_eq_false hne, Bool.false_or] at this
  exact hld_in this
theorem cor_pos {l : List Ms} {x y : Int} (h : In l x y 1) (hf : fullB l = true) : 0 < (corL l).length := by
  obtain ⟨p, hp⟩ := corner_ex (by omega) h (fullB_iff.1 hf)
  exact List.length_pos_of_mem (mem_corL.2 hp)
/-- with at most one faulty source none but that one is excluded -/
theorem only_flt {l : List Ms} {x y but : Int} (hc : chkL l = 0) (h : allB l x y but = true) :
    (fltF l).2 ≠ 11 ∧ ((fltF l).1 = 0 ∨ (fltF l).1 = but) ∧ ((fltF l).2 = 0 ∨ (fltF l).2 = 14 ∨ (fltF l).2 = 8) := by
  unfold fltF
  rw [if_pos hc]
  by_cases hf : fullB l = true
  · rw [if_pos hf]
    by_cases ha : (srcL l).all (fuS l) = true
    · rw [if_pos ha]
      unfold verd
      by_cases h0 : 0 < (corL l).length
      · rw [if_pos h0]; exact ⟨by simp, .inl rfl, .inl rfl⟩
      · rw [if_neg h0]
        have hin := all_in h
        have hbut : but ∈ srcL l := by
          rw [mem_srcL]
          apply Classical.byContradiction
          intro hn
          have e : woL l but = l := by
            unfold woL
            rw [List.filter_eq_self]
            intro m hm
            unfold notS
            exact decide_eq_true fun e => hn ⟨m, hm, e⟩
          rw [e] at hin
          exact h0 (cor_pos hin hf)
        have hfb : fullB (woL l but) = true := List.all_eq_true.1 ha but hbut
        have hmem : but ∈ (srcL l).filter (okS l) := List.mem_filter.2 ⟨hbut, decide_eq_true (cor_pos hin hfb)⟩
        rw [if_neg (by have := List.length_pos_of_mem hmem; omega)]
        by_cases h1 : 1 < ((srcL l).filter (okS l)).length
        · rw [if_pos h1]; exact ⟨by simp, .inl rfl, .inr (.inr rfl)⟩
        · rw [if_neg h1]
          refine ⟨by simp, .inr ?_, .inl rfl⟩
          generalize (srcL l).filter (okS l) = r at *
          match r, hmem, h1 with
          | [z], hm, _ => exact (List.mem_singleton.1 hm).symm
          | z :: z' :: r, _, h1 => exact absurd (show 1 < (z :: z' :: r).length by simp) h1
    · rw [if_neg ha]; exact ⟨by simp, .inl rfl, .inr (.inl rfl)⟩
  · rw [if_neg hf]; exact ⟨by simp, .inl rfl, .inr (.inl rfl)⟩
end Go.Proofs.YtajmjkliblippaaGreatDoor.S44
namespace Go.Proofs.YtajmjkliblippaaGreatDoor
set_option linter.unusedVariables false
/-- what a report of the tick gives -/
def rowT (tk cx cy x y : Int) (r : Rp) : List Ms := if r.t = tk then (rowsN r cx cy x y).1 else []
def rowsT (tk cx cy x y : Int) (L : List Rp) : List Ms := L.flatMap (rowT tk cx cy x y)
theorem rowsT_len (tk cx cy x y : Int) : ∀ L : List Rp, (rowsT tk cx cy x y L).length ≤ 2 * L.length
  | [] => by simp [rowsT]
  | r :: L => by
    have ih := rowsT_len tk cx cy x y L
    unfold rowsT at *
    rw [List.flatMap_cons, List.length_append, List.length_cons]
    have : (rowT tk cx cy x y r).length ≤ 2 := by
      unfold rowT
      split
      · exact rowsN_len r cx cy x y
      · simp
    omega
theorem rowsT_succ (tk cx cy x y : Int) {L : List Rp} {k : Nat} (h : k < L.length) : rowsT tk cx cy x y (L.take (k + 1)) = rowsT tk cx cy x y (L.take k) ++ rowT tk cx cy x y (nthR L k) := by
  have e : L.take (k + 1) = L.take k ++ [nthR L k] := by
    rw [List.take_succ_eq_append_getElem h]
    congr 1
    unfold nthR
    rw [List.getD_eq_getElem?_getD, List.getElem?_eq_getElem h]
    rfl
  unfold rowsT
  rw [e, List.flatMap_append]
  simp
theorem rowT_other {tk cx cy x y : Int} {r : Rp} (h : r.t ≠ tk) : rowT tk cx cy x y r = [] := if_neg h
theorem rowT_bad {tk cx cy x y : Int} {r : Rp} (h : (rowsN r cx cy x y).2 ≠ 0) : rowT tk cx cy x y r = [] := by
  unfold rowT
  split
  · exact rowsN_bad h
  · rfl
theorem rowT_good {tk cx cy x y : Int} {r : Rp} (h : r.t = tk) : rowT tk cx cy x y r = (rowsN r cx cy x y).1 := if_pos h
theorem rowT_mem {tk cx cy x y : Int} {r : Rp} {m : Ms} (h : m ∈ rowT tk cx cy x y r) : r.t = tk ∧ (rowsN r cx cy x y).2 = 0 ∧ m ∈ (rowsN r cx cy x y).1 := by
  by_cases h1 : r.t = tk
  · by_cases h2 : (rowsN r cx cy x y).2 = 0
    · rw [rowT_good h1] at h
      exact ⟨h1, h2, h⟩
    · rw [rowT_bad h2] at h
      exact absurd h (by simp)
  · rw [rowT_other h1] at h
    exact absurd h (by simp)
/-- what two ranges have in common -/
def ovL (a x b y : Int) : Int := max (a - x) (b - y)
def ovH (a x b y : Int) : Int := min (a + x) (b + y)
def ovM (a x b y : Int) : Int := (ovL a x b y + ovH a x b y) / 2
def mrgB (a b : Bx4) : Bx4 := ⟨ovM a.cx a.x b.cx b.x, ovM a.cy a.y b.cy b.y, ovH a.cx a.x b.cx b.x - ovM a.cx a.x b.cx b.x, ovH a.cy a.y b.cy b.y - ovM a.cy a.y b.cy b.y⟩
def mrgF (a b : Bx4) : Bx4 × Int :=
  if bxV a = true then (if bxV b = true then (if ovL a.cx a.x b.cx b.x ≤ ovH a.cx a.x b.cx b.x ∧ ovL a.cy a.y b.cy b.y ≤ ovH a.cy a.y b.cy b.y then (mrgB a b, 0) else (bx0, 11)) else (bx0, 1)) else (bx0, 1)
theorem mrg_ok {a b c : Bx4} (h : mrgF a b = (c, 0)) : bxV a = true ∧ bxV b = true ∧ c = mrgB a b ∧ bxV c = true ∧ c.x ≤ a.x ∧ c.y ≤ a.y := by
  unfold mrgF at h
  split at h
  · rename_i h1
    split at h
    · rename_i h2
      split at h
      · rename_i h3
        have hc : mrgB a b = c := (Prod.mk.inj h).1
        have v1 := bxV_iff.1 h1
        have v2 := bxV_iff.1 h2
        subst hc
        refine ⟨h1, h2, rfl, bxV_iff.2 ?_, ?_, ?_⟩ <;> (unfold mrgB ovM ovL ovH at *; simp only at *; omega)
      · cases h
    · cases h
  · cases h
theorem mrg_in {a b c : Bx4} {px py : Int} (h : mrgF a b = (c, 0)) (ha : inB a px py) (hb : inB b px py) : inB c px py := by
  obtain ⟨_, _, e, _⟩ := mrg_ok h
  subst e
  unfold inB mrgB ovM ovL ovH at *
  simp only at *
  omega
def toB (b : BoxI) : Bx4 := ⟨b.cx, b.cy, b.x, b.y⟩
/-- the levels without the excluded source -/
def fixL (l : List Ms) : BoxI × Int := levF (woL l (S44.fltF l).1)
/-- the fix: its box, the excluded source, and whether there is one -/
def fixF (l : List Ms) (a : Bx4) : (Bx4 × Int) × Bool :=
  if (S44.fltF l).2 = 0 then (if (fixL l).2 = 0 then (((mrgF a (toB (fixL l).1)).1, (S44.fltF l).1), decide ((mrgF a (toB (fixL l).1)).2 = 0)) else ((bx0, 0), false)) else ((bx0, 0), false)
theorem fix_ok {l : List Ms} {a c : Bx4} {k : Int} (h : fixF l a = ((c, k), true)) : (S44.fltF l).2 = 0 ∧ (S44.fltF l).1 = k ∧ (fixL l).2 = 0 ∧ mrgF a (toB (fixL l).1) = (c, 0) := by
  unfold fixF at h
  split at h
  · rename_i h1
    split at h
    · rename_i h2
      simp only [Prod.mk.injEq, decide_eq_true_eq] at h
      obtain ⟨⟨e1, e2⟩, e3⟩ := h
      exact ⟨h1, e2, h2, Prod.ext e1 e3⟩
    · simp at h
  · simp at h
/-- a state after a cycle: its box, the missed cycles, the excluded source -/
structure Cyc where
  box : Bx4
  ms : Int
  ex : Int
def cycF (c : Bx4) (m : Int) (l : List Ms) : Cyc := if (fixF l c).2 = true then ⟨(fixF l c).1.1, 0, (fixF l c).1.2⟩ else ⟨c, min (m + 1) 1000, 0⟩
def stpC (b : Bx4) (t m tick ve vn dr : Int) (L : List Rp) : Cyc :=
  cycF (movB b ve vn dr (tick - t)) m (rowsT tick (movB b ve vn dr (tick - t)).cx (movB b ve vn dr (tick - t)).cy (movB b ve vn dr (tick - t)).x (movB b ve vn dr (tick - t)).y L)
/-- the error of a step -/
def stpE2 (b : Bx4) (t m tick ve vn dr rq : Int) (n : Nat) : Int :=
  if chkS b t m ≠ 0 then chkS b t m else if tick ≤ t then 16 else if 1099511627776 < tick ∨ rq < 0 ∨ 2000000 < rq then 2 else if 8 < n then 3 else (cstF b ve vn dr (tick - t)).2
theorem stp_ok2 {b : Bx4} {t m tick ve vn dr rq : Int} {n : Nat} (h : stpE2 b t m tick ve vn dr rq n = 0) : chkS b t m = 0 ∧ t < tick ∧ (tick ≤ 1099511627776 ∧ 0 ≤ rq ∧ rq ≤ 2000000) ∧ n ≤ 8 ∧ (cstF b ve vn dr (tick - t)).2 = 0 := by
  unfold stpE2 at h
  split at h
  · rename_i h1; exact absurd h h1
  · rename_i h1
    split at h
    · cases h
    · rename_i h2
      split at h
      · cases h
      · rename_i h3
        split at h
        · cases h
        · rename_i h4
          exact ⟨Decidable.not_not.1 h1, by omega, by omega, by omega, h⟩
/-- the coasted box is valid, and narrower is the new one -/
theorem cyc_narrow {c : Bx4} {m : Int} {l : List Ms} (hv : bxV c = true) : bxV (cycF c m l).box = true ∧ (cycF c m l).box.x ≤ c.x ∧ (cycF c m l).box.y ≤ c.y ∧ ((cycF c m l).ms ≠ 0 → (cycF c m l).box = c) := by
  unfold cycF
  split
  · rename_i h
    obtain ⟨R, hf⟩ : ∃ z, fixF l c = z := ⟨_, rfl⟩
    rw [hf] at h ⊢
    obtain ⟨⟨b, k⟩, o⟩ := R
    simp only at h
    subst h
    obtain ⟨_, _, _, h4⟩ := fix_ok hf
    obtain ⟨_, _, _, h5, h6, h7⟩ := mrg_ok h4
    exact ⟨h5, h6, h7, fun q => absurd rfl q⟩
  · exact ⟨hv, Int.le_refl _, Int.le_refl _, fun _ => rfl⟩
theorem inN_iff {b : Bx4} {px py : Int} : inN b.cx b.cy b.x b.y px py = true ↔ bxV b = true ∧ inB b px py := by
  unfold inN
  rw [S41.insB_iff, S41.boxV_iff, bxV_iff]
  unfold inB
  omega
theorem vld_pv2 (x y : Int) : vldP x y = S41.pvB x y := by
  rw [Bool.eq_iff_iff, vldP_iff, S41.pvB_iff]
/-- all hold but those of one source -/
def HonL (l : List Ms) (fa px py : Int) : Prop := ∀ m ∈ l, m.s ≠ fa → HoldP m px py
theorem hon_all {l : List Ms} {fa px py : Int} (h : HonL l fa px py) (hc : chkL l = 0) (hv : S41.pvB px py = true) : S44.allB l px py fa = true := by
  refine List.all_eq_true.2 fun m hm => ?_
  by_cases e : m.s = fa
  · rw [decide_eq_true e, Bool.true_or]
  · have k := h m hm e
    have o := (chkL_ok hc).2 m hm
    rw [decide_eq_false e, Bool.false_or]
    unfold S44.hldB
    rw [okM_iff.2 o, vld_pv2, hv, Bool.true_and, Bool.true_and, decide_eq_true_eq]
    unfold S44.missI absI
    unfold HoldP at k
    split <;> omega
theorem flt_chk2 {l : List Ms} (h : (S44.fltF l).2 = 0) : chkL l = 0 := by
  by_cases hc : chkL l = 0
  · exact hc
  · unfold S44.fltF at h
    rw [if_neg hc] at h
    exact absurd h hc
/-- with at most one faulty source the point stays in the new box, and no other source is excluded -/
theorem cyc_safe {c : Bx4} {m : Int} {l : List Ms} {fa px py : Int} (hv : bxV c = true) (hi : inB c px py) (hp : S41.pvB px py = true) (h : HonL l fa px py) :
    inB (cycF c m l).box px py ∧ ((cycF c m l).ex = 0 ∨ (cycF c m l).ex = fa) := by
  unfold cycF
  split
  · rename_i hq
    obtain ⟨R, hf⟩ : ∃ z, fixF l c = z := ⟨_, rfl⟩
    rw [hf] at hq ⊢
    obtain ⟨⟨b, k⟩, o⟩ := R
    simp only at hq
    subst hq
    obtain ⟨h1, h2, h3, h4⟩ := fix_ok hf
    have hc := flt_chk2 h1
    have ho := (S44.only_flt hc (hon_all h hc hp)).2.1
    rw [h2] at ho
    refine ⟨?_, ho⟩
    refine mrg_in h4 hi ?_
    have hw : HonL (woL l k) fa px py := fun x hx => h x (List.mem_filter.1 hx).1
    unfold fixL at h3 ⊢
    rw [h2] at h3 ⊢
    have p := protects (lev_ok h3) hw
    exact ⟨⟨p.x0, p.x1⟩, p.y0, p.y1⟩
  · exact ⟨hi, .inl rfl⟩
theorem rows_hon {tk : Int} {c : Bx4} {L : List Rp} {fa px py : Int} (hi : inN c.cx c.cy c.x c.y px py = true) (h : ∀ i, i < L.length → (nthR L i).t = tk → (nthR L i).s ≠ fa → agN (nthR L i) px py = true) : HonL (rowsT tk c.cx c.cy c.x c.y L) fa px py := by
  intro m hm hs
  obtain ⟨r, hr, hmr⟩ := List.mem_flatMap.1 hm
  obtain ⟨h1, h2, h3⟩ := rowT_mem hmr
  obtain ⟨i, hi2, e⟩ := List.getElem_of_mem hr
  have en : nthR L i = r := by
    unfold nthR
    rw [List.getD_eq_getElem?_getD, List.getElem?_eq_getElem hi2, e]
    rfl
  have hsr := (rowsN_src h2).2 m h3
  have ha := h i hi2 (by rw [en]; exact h1) (by rw [en]; omega)
  rw [en] at ha
  exact rowsN_cert h2 ha hi m h3
theorem in_moves {b : Bx4} {ve vn dr tk px py qx qy : Int} (h : inB b px py) (hx : qx - px - ve * tk ≤ dr * tk ∧ -(qx - px - ve * tk) ≤ dr * tk) (hy : qy - py - vn * tk ≤ dr * tk ∧ -(qy - py - vn * tk) ≤ dr * tk) : inB (movB b ve vn dr tk) qx qy := by
  unfold inB movB at *
  simp only
  generalize ve * tk = a at *
  generalize vn * tk = a2 at *
  generalize dr * tk = a3 at *
  omega
end Go.Proofs.YtajmjkliblippaaGreatDoor
namespace Go.Proofs.YtajmjkliblippaaGreatDoor
set_option linter.unusedVariables false
open Go.RowKit
set_option maxHeartbeats 8000000 in
set_option maxRecDepth 100000 in
theorem ovl_any (a x b y : Int) (w : World) (ha : -2000000 ≤ a ∧ a ≤ 2000000) (hx : 0 ≤ x ∧ x ≤ 2000000) (hb : -2000000 ≤ b ∧ b ≤ 2000000) (hy : 0 ≤ y ∧ y ≤ 2000000) :
    Calls Tryz.prog 99 #[.int .i64 a, .int .i64 x, .int .i64 b, .int .i64 y] w fun e w' => e = .returned (.tuple #[.int .i64 (ovM a x b y), .int .i64 (ovH a x b y - ovM a x b y), .bool (decide (ovL a x b y ≤ ovH a x b y))]) ∧ Below w.heap.size w w' := by
  obtain ⟨a0, a1⟩ := ha
  obtain ⟨x0, x1⟩ := hx
  obtain ⟨b0, b1⟩ := hb
  obtain ⟨y0, y1⟩ := hy
  have EL := Lib.hid (show ovL a x b y = max (a - x) (b - y) from rfl)
  have EH := Lib.hid (show ovH a x b y = min (a + x) (b + y) from rfl)
  have EM := Lib.hid (show ovM a x b y = (max (a - x) (b - y) + min (a + x) (b + y)) / 2 from rfl)
  go_enter Tryz.func99, Tryz.ntmps99
  go_wp2
  go_ret3
  rw [EL.out, EH.out, EM.out]
  exact ⟨rfl, Below.refl _ _⟩
set_option maxHeartbeats 40000000 in
set_option maxRecDepth 100000 in
theorem merge_any (a b : Bx4) (w : World) : Calls Tryz.prog 63 #[.agg #[.int .i64 a.cx, .int .i64 a.cy, .int .i64 a.x, .int .i64 a.y], .agg #[.int .i64 b.cx, .int .i64 b.cy, .int .i64 b.x, .int .i64 b.y]] w fun e w' => e = .returned (.tuple #[.agg #[.int .i64 (mrgF a b).1.cx, .int .i64 (mrgF a b).1.cy, .int .i64 (mrgF a b).1.x, .int .i64 (mrgF a b).1.y], .int .i64 (mrgF a b).2]) ∧ Below w.heap.size w w' := by
  have VA0 := fun w => ival_any a w
  have VB0 := fun w => ival_any b w
  have EV0 : mrgF a b = if bxV a = true then (if bxV b = true then (if ovL a.cx a.x b.cx b.x ≤ ovH a.cx a.x b.cx b.x ∧ ovL a.cy a.y b.cy b.y ≤ ovH a.cy a.y b.cy b.y then (mrgB a b, 0) else (bx0, 11)) else (bx0, 1)) else (bx0, 1) := rfl
  cases hv : bxV a with
  | false =>
    rw [hv] at VA0
    have VA := Lib.hid VA0
    have EV := Lib.hid (EV0.trans (if_neg (by rw [hv]; decide)))
    clear EV0 VA0 hv VB0
    generalize mrgF a b = q at *
    obtain ⟨ax, ay, a1, a2⟩ := a
    obtain ⟨bx, by', b1, b2⟩ := b
    simp only at VA
    obtain ⟨KA, KB, KZ, HB⟩ := ent3 w #[.int .i64 ax, .int .i64 ay, .int .i64 a1, .int .i64 a2] 25 #[.int .i64 bx, .int .i64 (by'), .int .i64 b1, .int .i64 b2] 25 #[.int .i64 0, .int .i64 0, .int .i64 0, .int .i64 0] 25
    go_enter Tryz.func63, Tryz.ntmps63
    go_wp2_with fail
    generalize ((w.alloc (.cells #[.int .i64 ax, .int .i64 ay, .int .i64 a1, .int .i64 a2] 25)).alloc (.cells #[.int .i64 bx, .int .i64 (by'), .int .i64 b1, .int .i64 b2] 25)).alloc (.cells #[.int .i64 0, .int .i64 0, .int .i64 0, .int .i64 0] 25) = w0 at *
    refine (VA.out _).mono ?_
    rintro e1 w1 ⟨rfl, hb1⟩
    replace HB := hT HB hb1
    replace KA := hK KA hb1
    replace KB := hK KB hb1
    replace KZ := hK KZ hb1
    clear hb1
    obtain ⟨yZ_0, yZ_1, yZ_2, yZ_3, yZ_z, yZ_f0, yZ_f1, yZ_f2, yZ_f3⟩ := blf4 KZ
    go_wp2
    have hs := st4 w1 (w.heap.size + 1 + 1) 0 (.int .i64 0) 1 (.int .i64 0) 2 (.int .i64 0) 3 (.int .i64 0)
    replace KA := oB hs KA (by omega)
    replace KB := oB hs KB (by omega)
    replace KZ := Lib.hid (blk_set (blk_set (blk_set (blk_set KZ.out (j := 0) (by simp) (.int .i64 0)) (j := 1) (by simp) (.int .i64 0)) (j := 2) (by simp) (.int .i64 0)) (j := 3) (by simp) (.int .i64 0))
    replace HB := oH hs HB (by omega)
    clear hs
    clear yZ_0 yZ_1 yZ_2 yZ_3 yZ_z yZ_f0 yZ_f1 yZ_f2 yZ_f3
    generalize (((w1.setCell ⟨(w.heap.size + 1 + 1), 0, none⟩ (.int .i64 0)).setCell ⟨(w.heap.size + 1 + 1), 1, none⟩ (.int .i64 0)).setCell ⟨(w.heap.size + 1 + 1), 2, none⟩ (.int .i64 0)).setCell ⟨(w.heap.size + 1 + 1), 3, none⟩ (.int .i64 0) = w2 at *
    simp only [List.set] at KZ
    obtain ⟨yZ_0, yZ_1, yZ_2, yZ_3, yZ_z⟩ := blk4 KZ
    refine bodyPost_ret (v := .tuple #[.agg #[.int .i64 0, .int .i64 0, .int .i64 0, .int .i64 0], .int .i64 1]) (by simp [results, Tryz.results63, go_sem, yZ_0, yZ_1, yZ_2, yZ_3]) rfl ⟨by rw [EV.out]; rfl, HB.out⟩
  | true =>
    rw [hv, if_pos rfl] at EV0
    rw [hv] at VA0
    have VA := Lib.hid VA0
    clear VA0
    cases hb : bxV b with
    | false =>
      rw [hb] at VB0
      have VB := Lib.hid VB0
      have EV := Lib.hid (EV0.trans (if_neg (by rw [hb]; decide)))
      clear EV0 VB0 hv hb
      generalize mrgF a b = q at *
      obtain ⟨ax, ay, a1, a2⟩ := a
      obtain ⟨bx, by', b1, b2⟩ := b
      simp only at VA VB
      obtain ⟨KA, KB, KZ, HB⟩ := ent3 w #[.int .i64 ax, .int .i64 ay, .int .i64 a1, .int .i64 a2] 25 #[.int .i64 bx, .int .i64 (by'), .int .i64 b1, .int .i64 b2] 25 #[.int .i64 0, .int .i64 0, .int .i64 0, .int .i64 0] 25
      go_enter Tryz.func63, Tryz.ntmps63
      go_wp2_with fail
      generalize ((w.alloc (.cells #[.int .i64 ax, .int .i64 ay, .int .i64 a1, .int .i64 a2] 25)).alloc (.cells #[.int .i64 bx, .int .i64 (by'), .int .i64 b1, .int .i64 b2] 25)).alloc (.cells #[.int .i64 0, .int .i64 0, .int .i64 0, .int .i64 0] 25) = w0 at *
      refine (VA.out _).mono ?_
      rintro e1 w1 ⟨rfl, hb1⟩
      replace HB := hT HB hb1
      replace KA := hK KA hb1
      replace KB := hK KB hb1
      replace KZ := hK KZ hb1
      clear hb1
      obtain ⟨yB_0, yB_1, yB_2, yB_3, yB_z⟩ := blk4 KB
      go_wp2_with fail
      refine (VB.out _).mono ?_
      rintro e2 w2 ⟨rfl, hb2⟩
      replace HB := hT HB hb2
      replace KA := hK KA hb2
      replace KB := hK KB hb2
      replace KZ := hK KZ hb2
      clear yB_0 yB_1 yB_2 yB_3 yB_z
      clear hb2
      obtain ⟨yZ_0, yZ_1, yZ_2, yZ_3, yZ_z, yZ_f0, yZ_f1, yZ_f2, yZ_f3⟩ := blf4 KZ
      go_wp2
      have hs := st4 w2 (w.heap.size + 1 + 1) 0 (.int .i64 0) 1 (.int .i64 0) 2 (.int .i64 0) 3 (.int .i64 0)
      replace KA := oB hs KA (by omega)
      replace KB := oB hs KB (by omega)
      replace KZ := Lib.hid (blk_set (blk_set (blk_set (blk_set KZ.out (j := 0) (by simp) (.int .i64 0)) (j := 1) (by simp) (.int .i64 0)) (j := 2) (by simp) (.int .i64 0)) (j := 3) (by simp) (.int .i64 0))
      replace HB := oH hs HB (by omega)
      clear hs
      clear yZ_0 yZ_1 yZ_2 yZ_3 yZ_z yZ_f0 yZ_f1 yZ_f2 yZ_f3
      generalize (((w2.setCell ⟨(w.heap.size + 1 + 1), 0, none⟩ (.int .i64 0)).setCell ⟨(w.heap.size + 1 + 1), 1, none⟩ (.int .i64 0)).setCell ⟨(w.heap.size + 1 + 1), 2, none⟩ (.int .i64 0)).setCell ⟨(w.heap.size + 1 + 1), 3, none⟩ (.int .i64 0) = w3 at *
      simp only [List.set] at KZ
      obtain ⟨yZ_0, yZ_1, yZ_2, yZ_3, yZ_z⟩ := blk4 KZ
      refine bodyPost_ret (v := .tuple #[.agg #[.int .i64 0, .int .i64 0, .int .i64 0, .int .i64 0], .int .i64 1]) (by simp [results, Tryz.results63, go_sem, yZ_0, yZ_1, yZ_2, yZ_3]) rfl ⟨by rw [EV.out]; rfl, HB.out⟩
    | true =>
      rw [hb, if_pos rfl] at EV0
      rw [hb] at VB0
      have VB := Lib.hid VB0
      clear VB0
      have v1 := bxV_iff.1 hv
      have v2 := bxV_iff.1 hb
      have OX0 := fun w => ovl_any a.cx a.x b.cx b.x w (by omega) (by omega) (by omega) (by omega)
      have OY0 := fun w => ovl_any a.cy a.y b.cy b.y w (by omega) (by omega) (by omega) (by omega)
      clear hv hb v1 v2
      unfold mrgB at EV0
      obtain ⟨ox, hox⟩ : ∃ z, decide (ovL a.cx a.x b.cx b.x ≤ ovH a.cx a.x b.cx b.x) = z := ⟨_, rfl⟩
      obtain ⟨oy, hoy⟩ : ∃ z, decide (ovL a.cy a.y b.cy b.y ≤ ovH a.cy a.y b.cy b.y) = z := ⟨_, rfl⟩
      rw [hox] at OX0
      rw [hoy] at OY0
      have EX : ox = true → oy = true → mrgF a b = (⟨ovM a.cx a.x b.cx b.x, ovM a.cy a.y b.cy b.y, ovH a.cx a.x b.cx b.x - ovM a.cx a.x b.cx b.x, ovH a.cy a.y b.cy b.y - ovM a.cy a.y b.cy b.y⟩, 0) := fun h1 h2 => EV0.trans (if_pos ⟨of_decide_eq_true (hox.trans h1), of_decide_eq_true (hoy.trans h2)⟩)
      have EN : ox = false ∨ oy = false → mrgF a b = (bx0, 11) := fun h => EV0.trans (if_neg fun ⟨h1, h2⟩ => by
        rw [decide_eq_true h1] at hox
        rw [decide_eq_true h2] at hoy
        subst hox hoy
        simp at h)
      clear hox hoy EV0
      generalize ovH a.cx a.x b.cx b.x - ovM a.cx a.x b.cx b.x = wx at *
      generalize ovH a.cy a.y b.cy b.y - ovM a.cy a.y b.cy b.y = wy at *
      generalize ovM a.cx a.x b.cx b.x = mx at *
      generalize ovM a.cy a.y b.cy b.y = my at *
      generalize mrgF a b = q at *
      obtain ⟨ax, ay, a1, a2⟩ := a
      obtain ⟨bx, by', b1, b2⟩ := b
      simp only at VA VB OX0 OY0
      have OX := Lib.hid OX0
      have OY := Lib.hid OY0
      clear OX0 OY0
      cases ox with
      | false =>
        have EV := Lib.hid (EN (.inl rfl))
        clear EN EX
        cases oy with
        | false =>
          obtain ⟨KA, KB, KZ, HB⟩ := ent3 w #[.int .i64 ax, .int .i64 ay, .int .i64 a1, .int .i64 a2] 25 #[.int .i64 bx, .int .i64 (by'), .int .i64 b1, .int .i64 b2] 25 #[.int .i64 0, .int .i64 0, .int .i64 0, .int .i64 0] 25
          go_enter Tryz.func63, Tryz.ntmps63
          go_wp2_with fail
          generalize ((w.alloc (.cells #[.int .i64 ax, .int .i64 ay, .int .i64 a1, .int .i64 a2] 25)).alloc (.cells #[.int .i64 bx, .int .i64 (by'), .int .i64 b1, .int .i64 b2] 25)).alloc (.cells #[.int .i64 0, .int .i64 0, .int .i64 0, .int .i64 0] 25) = w0 at *
          refine (VA.out _).mono ?_
          rintro e1 w1 ⟨rfl, hb1⟩
          replace HB := hT HB hb1
          replace KA := hK KA hb1
          replace KB := hK KB hb1
          replace KZ := hK KZ hb1
          clear hb1
          obtain ⟨yB_0, yB_1, yB_2, yB_3, yB_z⟩ := blk4 KB
          go_wp2_with fail
          refine (VB.out _).mono ?_
          rintro e2 w2 ⟨rfl, hb2⟩
          replace HB := hT HB hb2
          replace KA := hK KA hb2
          replace KB := hK KB hb2
          replace KZ := hK KZ hb2
          clear yB_0 yB_1 yB_2 yB_3 yB_z
          clear hb2
          go_upto_region 5 with (fail)
          obtain ⟨KC, hb3⟩ := alB w2 #[.int .i64 0, .int .i64 0, .int .i64 0, .int .i64 0] 25
          have hnC := HB.out.size
          have nzC_A := KA.out.lt
          have nzC_B := KB.out.lt
          have nzC_Z := KZ.out.lt
          replace HB := hT HB hb3
          replace KA := hK KA hb3
          replace KB := hK KB hb3
          replace KZ := hK KZ hb3
          clear hb3
          generalize w2.alloc (.cells #[.int .i64 0, .int .i64 0, .int .i64 0, .int .i64 0] 25) = w3 at *
          generalize w2.heap.size = bC at *
          have neC_A : bC ≠ w.heap.size := by omega
          have neC_B : bC ≠ (w.heap.size + 1) := by omega
          have neC_Z : bC ≠ (w.heap.size + 1 + 1) := by omega
          clear nzC_A nzC_B nzC_Z
          obtain ⟨yA_0, yA_1, yA_2, yA_3, yA_z⟩ := blk4 KA
          obtain ⟨yB_0, yB_1, yB_2, yB_3, yB_z⟩ := blk4 KB
          go_wp2_with fail
          refine (OX.out _).mono ?_
          rintro e4 w4 ⟨rfl, hb4⟩
          replace HB := hT HB hb4
          replace KA := hK KA hb4
          replace KB := hK KB hb4
          replace KZ := hK KZ hb4
          replace KC := hK KC hb4
          clear yA_0 yA_1 yA_2 yA_3 yA_z yB_0 yB_1 yB_2 yB_3 yB_z
          clear hb4
          obtain ⟨yC_0, yC_1, yC_2, yC_3, yC_z, yC_f0, yC_f1, yC_f2, yC_f3⟩ := blf4 KC
          go_upto_region 6 with (fail)
          have hs := st2 w4 bC 0 (.int .i64 mx) 2 (.int .i64 wx)
          replace KA := oB hs KA (by omega)
          replace KB := oB hs KB (by omega)
          replace KZ := oB hs KZ (by omega)
          replace KC := Lib.hid (blk_set (blk_set KC.out (j := 0) (by simp) (.int .i64 mx)) (j := 2) (by simp) (.int .i64 wx))
          replace HB := oH hs HB (by omega)
          clear hs
          clear yC_0 yC_1 yC_2 yC_3 yC_z yC_f0 yC_f1 yC_f2 yC_f3
          generalize (w4.setCell ⟨bC, 0, none⟩ (.int .i64 mx)).setCell ⟨bC, 2, none⟩ (.int .i64 wx) = w5 at *
          simp only [List.set] at KC
          obtain ⟨yA_0, yA_1, yA_2, yA_3, yA_z⟩ := blk4 KA
          obtain ⟨yB_0, yB_1, yB_2, yB_3, yB_z⟩ := blk4 KB
          go_wp2_with fail
          refine (OY.out _).mono ?_
          rintro e6 w6 ⟨rfl, hb6⟩
          replace HB := hT HB hb6
          replace KA := hK KA hb6
          replace KB := hK KB hb6
          replace KZ := hK KZ hb6
          replace KC := hK KC hb6
          clear yA_0 yA_1 yA_2 yA_3 yA_z yB_0 yB_1 yB_2 yB_3 yB_z
          clear hb6
          obtain ⟨yC_0, yC_1, yC_2, yC_3, yC_z, yC_f0, yC_f1, yC_f2, yC_f3⟩ := blf4 KC
          go_upto_region 7 with (fail)
          have hs := st2 w6 bC 1 (.int .i64 my) 3 (.int .i64 wy)
          replace KA := oB hs KA (by omega)
          replace KB := oB hs KB (by omega)
          replace KZ := oB hs KZ (by omega)
          replace KC := Lib.hid (blk_set (blk_set KC.out (j := 1) (by simp) (.int .i64 my)) (j := 3) (by simp) (.int .i64 wy))
          replace HB := oH hs HB (by omega)
          clear hs
          clear yC_0 yC_1 yC_2 yC_3 yC_z yC_f0 yC_f1 yC_f2 yC_f3
          generalize (w6.setCell ⟨bC, 1, none⟩ (.int .i64 my)).setCell ⟨bC, 3, none⟩ (.int .i64 wy) = w7 at *
          simp only [List.set] at KC
          obtain ⟨yZ_0, yZ_1, yZ_2, yZ_3, yZ_z, yZ_f0, yZ_f1, yZ_f2, yZ_f3⟩ := blf4 KZ
          go_wp2
          have hs := st4 w7 (w.heap.size + 1 + 1) 0 (.int .i64 0) 1 (.int .i64 0) 2 (.int .i64 0) 3 (.int .i64 0)
          replace KA := oB hs KA (by omega)
          replace KB := oB hs KB (by omega)
          replace KZ := Lib.hid (blk_set (blk_set (blk_set (blk_set KZ.out (j := 0) (by simp) (.int .i64 0)) (j := 1) (by simp) (.int .i64 0)) (j := 2) (by simp) (.int .i64 0)) (j := 3) (by simp) (.int .i64 0))
          replace KC := oB hs KC (by omega)
          replace HB := oH hs HB (by omega)
          clear hs
          clear yZ_0 yZ_1 yZ_2 yZ_3 yZ_z yZ_f0 yZ_f1 yZ_f2 yZ_f3
          generalize (((w7.setCell ⟨(w.heap.size + 1 + 1), 0, none⟩ (.int .i64 0)).setCell ⟨(w.heap.size + 1 + 1), 1, none⟩ (.int .i64 0)).setCell ⟨(w.heap.size + 1 + 1), 2, none⟩ (.int .i64 0)).setCell ⟨(w.heap.size + 1 + 1), 3, none⟩ (.int .i64 0) = w8 at *
          simp only [List.set] at KZ
          obtain ⟨yZ_0, yZ_1, yZ_2, yZ_3, yZ_z⟩ := blk4 KZ
          refine bodyPost_ret (v := .tuple #[.agg #[.int .i64 0, .int .i64 0, .int .i64 0, .int .i64 0], .int .i64 11]) (by simp [results, Tryz.results63, go_sem, yZ_0, yZ_1, yZ_2, yZ_3]) rfl ⟨by rw [EV.out]; rfl, HB.out⟩
        | true =>
          obtain ⟨KA, KB, KZ, HB⟩ := ent3 w #[.int .i64 ax, .int .i64 ay, .int .i64 a1, .int .i64 a2] 25 #[.int .i64 bx, .int .i64 (by'), .int .i64 b1, .int .i64 b2] 25 #[.int .i64 0, .int .i64 0, .int .i64 0, .int .i64 0] 25
          go_enter Tryz.func63, Tryz.ntmps63
          go_wp2_with fail
          generalize ((w.alloc (.cells #[.int .i64 ax, .int .i64 ay, .int .i64 a1, .int .i64 a2] 25)).alloc (.cells #[.int .i64 bx, .int .i64 (by'), .int .i64 b1, .int .i64 b2] 25)).alloc (.cells #[.int .i64 0, .int .i64 0, .int .i64 0, .int .i64 0] 25) = w0 at *
          refine (VA.out _).mono ?_
          rintro e1 w1 ⟨rfl, hb1⟩
          replace HB := hT HB hb1
          replace KA := hK KA hb1
          replace KB := hK KB hb1
          replace KZ := hK KZ hb1
          clear hb1
          obtain ⟨yB_0, yB_1, yB_2, yB_3, yB_z⟩ := blk4 KB
          go_wp2_with fail
          refine (VB.out _).mono ?_
          rintro e2 w2 ⟨rfl, hb2⟩
          replace HB := hT HB hb2
          replace KA := hK KA hb2
          replace KB := hK KB hb2
          replace KZ := hK KZ hb2
          clear yB_0 yB_1 yB_2 yB_3 yB_z
          clear hb2
          go_upto_region 5 with (fail)
          obtain ⟨KC, hb3⟩ := alB w2 #[.int .i64 0, .int .i64 0, .int .i64 0, .int .i64 0] 25
          have hnC := HB.out.size
          have nzC_A := KA.out.lt
          have nzC_B := KB.out.lt
          have nzC_Z := KZ.out.lt
          replace HB := hT HB hb3
          replace KA := hK KA hb3
          replace KB := hK KB hb3
          replace KZ := hK KZ hb3
          clear hb3
          generalize w2.alloc (.cells #[.int .i64 0, .int .i64 0, .int .i64 0, .int .i64 0] 25) = w3 at *
          generalize w2.heap.size = bC at *
          have neC_A : bC ≠ w.heap.size := by omega
          have neC_B : bC ≠ (w.heap.size + 1) := by omega
          have neC_Z : bC ≠ (w.heap.size + 1 + 1) := by omega
          clear nzC_A nzC_B nzC_Z
          obtain ⟨yA_0, yA_1, yA_2, yA_3, yA_z⟩ := blk4 KA
          obtain ⟨yB_0, yB_1, yB_2, yB_3, yB_z⟩ := blk4 KB
          go_wp2_with fail
          refine (OX.out _).mono ?_
          rintro e4 w4 ⟨rfl, hb4⟩
          replace HB := hT HB hb4
          replace KA := hK KA hb4
          replace KB := hK KB hb4
          replace KZ := hK KZ hb4
          replace KC := hK KC hb4
          clear yA_0 yA_1 yA_2 yA_3 yA_z yB_0 yB_1 yB_2 yB_3 yB_z
          clear hb4
          obtain ⟨yC_0, yC_1, yC_2, yC_3, yC_z, yC_f0, yC_f1, yC_f2, yC_f3⟩ := blf4 KC
          go_upto_region 6 with (fail)
          have hs := st2 w4 bC 0 (.int .i64 mx) 2 (.int .i64 wx)
          replace KA := oB hs KA (by omega)
          replace KB := oB hs KB (by omega)
          replace KZ := oB hs KZ (by omega)
          replace KC := Lib.hid (blk_set (blk_set KC.out (j := 0) (by simp) (.int .i64 mx)) (j := 2) (by simp) (.int .i64 wx))
          replace HB := oH hs HB (by omega)
          clear hs
          clear yC_0 yC_1 yC_2 yC_3 yC_z yC_f0 yC_f1 yC_f2 yC_f3
          generalize (w4.setCell ⟨bC, 0, none⟩ (.int .i64 mx)).setCell ⟨bC, 2, none⟩ (.int .i64 wx) = w5 at *
          simp only [List.set] at KC
          obtain ⟨yA_0, yA_1, yA_2, yA_3, yA_z⟩ := blk4 KA
          obtain ⟨yB_0, yB_1, yB_2, yB_3, yB_z⟩ := blk4 KB
          go_wp2_with fail
          refine (OY.out _).mono ?_
          rintro e6 w6 ⟨rfl, hb6⟩
          replace HB := hT HB hb6
          replace KA := hK KA hb6
          replace KB := hK KB hb6
          replace KZ := hK KZ hb6
          replace KC := hK KC hb6
          clear yA_0 yA_1 yA_2 yA_3 yA_z yB_0 yB_1 yB_2 yB_3 yB_z
          clear hb6
          obtain ⟨yC_0, yC_1, yC_2, yC_3, yC_z, yC_f0, yC_f1, yC_f2, yC_f3⟩ := blf4 KC
          go_upto_region 7 with (fail)
          have hs := st2 w6 bC 1 (.int .i64 my) 3 (.int .i64 wy)
          replace KA := oB hs KA (by omega)
          replace KB := oB hs KB (by omega)
          replace KZ := oB hs KZ (by omega)
          replace KC := Lib.hid (blk_set (blk_set KC.out (j := 1) (by simp) (.int .i64 my)) (j := 3) (by simp) (.int .i64 wy))
          replace HB := oH hs HB (by omega)
          clear hs
          clear yC_0 yC_1 yC_2 yC_3 yC_z yC_f0 yC_f1 yC_f2 yC_f3
          generalize (w6.setCell ⟨bC, 1, none⟩ (.int .i64 my)).setCell ⟨bC, 3, none⟩ (.int .i64 wy) = w7 at *
          simp only [List.set] at KC
          obtain ⟨yZ_0, yZ_1, yZ_2, yZ_3, yZ_z, yZ_f0, yZ_f1, yZ_f2, yZ_f3⟩ := blf4 KZ
          go_wp2
          have hs := st4 w7 (w.heap.size + 1 + 1) 0 (.int .i64 0) 1 (.int .i64 0) 2 (.int .i64 0) 3 (.int .i64 0)
          replace KA := oB hs KA (by omega)
          replace KB := oB hs KB (by omega)
          replace KZ := Lib.hid (blk_set (blk_set (blk_set (blk_set KZ.out (j := 0) (by simp) (.int .i64 0)) (j := 1) (by simp) (.int .i64 0)) (j := 2) (by simp) (.int .i64 0)) (j := 3) (by simp) (.int .i64 0))
          replace KC := oB hs KC (by omega)
          replace HB := oH hs HB (by omega)
          clear hs
          clear yZ_0 yZ_1 yZ_2 yZ_3 yZ_z yZ_f0 yZ_f1 yZ_f2 yZ_f3
          generalize (((w7.setCell ⟨(w.heap.size + 1 + 1), 0, none⟩ (.int .i64 0)).setCell ⟨(w.heap.size + 1 + 1), 1, none⟩ (.int .i64 0)).setCell ⟨(w.heap.size + 1 + 1), 2, none⟩ (.int .i64 0)).setCell ⟨(w.heap.size + 1 + 1), 3, none⟩ (.int .i64 0) = w8 at *
          simp only [List.set] at KZ
          obtain ⟨yZ_0, yZ_1, yZ_2, yZ_3, yZ_z⟩ := blk4 KZ
          refine bodyPost_ret (v := .tuple #[.agg #[.int .i64 0, .int .i64 0, .int .i64 0, .int .i64 0], .int .i64 11]) (by simp [results, Tryz.results63, go_sem, yZ_0, yZ_1, yZ_2, yZ_3]) rfl ⟨by rw [EV.out]; rfl, HB.out⟩
      | true =>
        cases oy with
        | false =>
          have EV := Lib.hid (EN (.inr rfl))
          clear EN EX
          obtain ⟨KA, KB, KZ, HB⟩ := ent3 w #[.int .i64 ax, .int .i64 ay, .int .i64 a1, .int .i64 a2] 25 #[.int .i64 bx, .int .i64 (by'), .int .i64 b1, .int .i64 b2] 25 #[.int .i64 0, .int .i64 0, .int .i64 0, .int .i64 0] 25
          go_enter Tryz.func63, Tryz.ntmps63
          go_wp2_with fail
          generalize ((w.alloc (.cells #[.int .i64 ax, .int .i64 ay, .int .i64 a1, .int .i64 a2] 25)).alloc (.cells #[.int .i64 bx, .int .i64 (by'), .int .i64 b1, .int .i64 b2] 25)).alloc (.cells #[.int .i64 0, .int .i64 0, .int .i64 0, .int .i64 0] 25) = w0 at *
          refine (VA.out _).mono ?_
          rintro e1 w1 ⟨rfl, hb1⟩
          replace HB := hT HB hb1
          replace KA := hK KA hb1
          replace KB := hK KB hb1
          replace KZ := hK KZ hb1
          clear hb1
          obtain ⟨yB_0, yB_1, yB_2, yB_3, yB_z⟩ := blk4 KB
          go_wp2_with fail
          refine (VB.out _).mono ?_
          rintro e2 w2 ⟨rfl, hb2⟩
          replace HB := hT HB hb2
          replace KA := hK KA hb2
          replace KB := hK KB hb2
          replace KZ := hK KZ hb2
          clear yB_0 yB_1 yB_2 yB_3 yB_z
          clear hb2
          go_upto_region 5 with (fail)
          obtain ⟨KC, hb3⟩ := alB w2 #[.int .i64 0, .int .i64 0, .int .i64 0, .int .i64 0] 25
          have hnC := HB.out.size
          have nzC_A := KA.out.lt
          have nzC_B := KB.out.lt
          have nzC_Z := KZ.out.lt
          replace HB := hT HB hb3
          replace KA := hK KA hb3
          replace KB := hK KB hb3
          replace KZ := hK KZ hb3
          clear hb3
          generalize w2.alloc (.cells #[.int .i64 0, .int .i64 0, .int .i64 0, .int .i64 0] 25) = w3 at *
          generalize w2.heap.size = bC at *
          have neC_A : bC ≠ w.heap.size := by omega
          have neC_B : bC ≠ (w.heap.size + 1) := by omega
          have neC_Z : bC ≠ (w.heap.size + 1 + 1) := by omega
          clear nzC_A nzC_B nzC_Z
          obtain ⟨yA_0, yA_1, yA_2, yA_3, yA_z⟩ := blk4 KA
          obtain ⟨yB_0, yB_1, yB_2, yB_3, yB_z⟩ := blk4 KB
          go_wp2_with fail
          refine (OX.out _).mono ?_
          rintro e4 w4 ⟨rfl, hb4⟩
          replace HB := hT HB hb4
          replace KA := hK KA hb4
          replace KB := hK KB hb4
          replace KZ := hK KZ hb4
          replace KC := hK KC hb4
          clear yA_0 yA_1 yA_2 yA_3 yA_z yB_0 yB_1 yB_2 yB_3 yB_z
          clear hb4
          obtain ⟨yC_0, yC_1, yC_2, yC_3, yC_z, yC_f0, yC_f1, yC_f2, yC_f3⟩ := blf4 KC
          go_upto_region 6 with (fail)
          have hs := st2 w4 bC 0 (.int .i64 mx) 2 (.int .i64 wx)
          replace KA := oB hs KA (by omega)
          replace KB := oB hs KB (by omega)
          replace KZ := oB hs KZ (by omega)
          replace KC := Lib.hid (blk_set (blk_set KC.out (j := 0) (by simp) (.int .i64 mx)) (j := 2) (by simp) (.int .i64 wx))
          replace HB := oH hs HB (by omega)
          clear hs
          clear yC_0 yC_1 yC_2 yC_3 yC_z yC_f0 yC_f1 yC_f2 yC_f3
          generalize (w4.setCell ⟨bC, 0, none⟩ (.int .i64 mx)).setCell ⟨bC, 2, none⟩ (.int .i64 wx) = w5 at *
          simp only [List.set] at KC
          obtain ⟨yA_0, yA_1, yA_2, yA_3, yA_z⟩ := blk4 KA
          obtain ⟨yB_0, yB_1, yB_2, yB_3, yB_z⟩ := blk4 KB
          go_wp2_with fail
          refine (OY.out _).mono ?_
          rintro e6 w6 ⟨rfl, hb6⟩
          replace HB := hT HB hb6
          replace KA := hK KA hb6
          replace KB := hK KB hb6
          replace KZ := hK KZ hb6
          replace KC := hK KC hb6
          clear yA_0 yA_1 yA_2 yA_3 yA_z yB_0 yB_1 yB_2 yB_3 yB_z
          clear hb6
          obtain ⟨yC_0, yC_1, yC_2, yC_3, yC_z, yC_f0, yC_f1, yC_f2, yC_f3⟩ := blf4 KC
          go_upto_region 7 with (fail)
          have hs := st2 w6 bC 1 (.int .i64 my) 3 (.int .i64 wy)
          replace KA := oB hs KA (by omega)
          replace KB := oB hs KB (by omega)
          replace KZ := oB hs KZ (by omega)
          replace KC := Lib.hid (blk_set (blk_set KC.out (j := 1) (by simp) (.int .i64 my)) (j := 3) (by simp) (.int .i64 wy))
          replace HB := oH hs HB (by omega)
          clear hs
          clear yC_0 yC_1 yC_2 yC_3 yC_z yC_f0 yC_f1 yC_f2 yC_f3
          generalize (w6.setCell ⟨bC, 1, none⟩ (.int .i64 my)).setCell ⟨bC, 3, none⟩ (.int .i64 wy) = w7 at *
          simp only [List.set] at KC
          obtain ⟨yZ_0, yZ_1, yZ_2, yZ_3, yZ_z, yZ_f0, yZ_f1, yZ_f2, yZ_f3⟩ := blf4 KZ
          go_wp2
          have hs := st4 w7 (w.heap.size + 1 + 1) 0 (.int .i64 0) 1 (.int .i64 0) 2 (.int .i64 0) 3 (.int .i64 0)
          replace KA := oB hs KA (by omega)
          replace KB := oB hs KB (by omega)
          replace KZ := Lib.hid (blk_set (blk_set (blk_set (blk_set KZ.out (j := 0) (by simp) (.int .i64 0)) (j := 1) (by simp) (.int .i64 0)) (j := 2) (by simp) (.int .i64 0)) (j := 3) (by simp) (.int .i64 0))
          replace KC := oB hs KC (by omega)
          replace HB := oH hs HB (by omega)
          clear hs
          clear yZ_0 yZ_1 yZ_2 yZ_3 yZ_z yZ_f0 yZ_f1 yZ_f2 yZ_f3
          generalize (((w7.setCell ⟨(w.heap.size + 1 + 1), 0, none⟩ (.int .i64 0)).setCell ⟨(w.heap.size + 1 + 1), 1, none⟩ (.int .i64 0)).setCell ⟨(w.heap.size + 1 + 1), 2, none⟩ (.int .i64 0)).setCell ⟨(w.heap.size + 1 + 1), 3, none⟩ (.int .i64 0) = w8 at *
          simp only [List.set] at KZ
          obtain ⟨yZ_0, yZ_1, yZ_2, yZ_3, yZ_z⟩ := blk4 KZ
          refine bodyPost_ret (v := .tuple #[.agg #[.int .i64 0, .int .i64 0, .int .i64 0, .int .i64 0], .int .i64 11]) (by simp [results, Tryz.results63, go_sem, yZ_0, yZ_1, yZ_2, yZ_3]) rfl ⟨by rw [EV.out]; rfl, HB.out⟩
        | true =>
          have EV := Lib.hid (EX rfl rfl)
          clear EN EX
          obtain ⟨KA, KB, KZ, HB⟩ := ent3 w #[.int .i64 ax, .int .i64 ay, .int .i64 a1, .int .i64 a2] 25 #[.int .i64 bx, .int .i64 (by'), .int .i64 b1, .int .i64 b2] 25 #[.int .i64 0, .int .i64 0, .int .i64 0, .int .i64 0] 25
          go_enter Tryz.func63, Tryz.ntmps63
          go_wp2_with fail
          generalize ((w.alloc (.cells #[.int .i64 ax, .int .i64 ay, .int .i64 a1, .int .i64 a2] 25)).alloc (.cells #[.int .i64 bx, .int .i64 (by'), .int .i64 b1, .int .i64 b2] 25)).alloc (.cells #[.int .i64 0, .int .i64 0, .int .i64 0, .int .i64 0] 25) = w0 at *
          refine (VA.out _).mono ?_
          rintro e1 w1 ⟨rfl, hb1⟩
          replace HB := hT HB hb1
          replace KA := hK KA hb1
          replace KB := hK KB hb1
          replace KZ := hK KZ hb1
          clear hb1
          obtain ⟨yB_0, yB_1, yB_2, yB_3, yB_z⟩ := blk4 KB
          go_wp2_with fail
          refine (VB.out _).mono ?_
          rintro e2 w2 ⟨rfl, hb2⟩
          replace HB := hT HB hb2
          replace KA := hK KA hb2
          replace KB := hK KB hb2
          replace KZ := hK KZ hb2
          clear yB_0 yB_1 yB_2 yB_3 yB_z
          clear hb2
          go_upto_region 5 with (fail)
          obtain ⟨KC, hb3⟩ := alB w2 #[.int .i64 0, .int .i64 0, .int .i64 0, .int .i64 0] 25
          have hnC := HB.out.size
          have nzC_A := KA.out.lt
          have nzC_B := KB.out.lt
          have nzC_Z := KZ.out.lt
          replace HB := hT HB hb3
          replace KA := hK KA hb3
          replace KB := hK KB hb3
          replace KZ := hK KZ hb3
          clear hb3
          generalize w2.alloc (.cells #[.int .i64 0, .int .i64 0, .int .i64 0, .int .i64 0] 25) = w3 at *
          generalize w2.heap.size = bC at *
          have neC_A : bC ≠ w.heap.size := by omega
          have neC_B : bC ≠ (w.heap.size + 1) := by omega
          have neC_Z : bC ≠ (w.heap.size + 1 + 1) := by omega
          clear nzC_A nzC_B nzC_Z
          obtain ⟨yA_0, yA_1, yA_2, yA_3, yA_z⟩ := blk4 KA
          obtain ⟨yB_0, yB_1, yB_2, yB_3, yB_z⟩ := blk4 KB
          go_wp2_with fail
          refine (OX.out _).mono ?_
          rintro e4 w4 ⟨rfl, hb4⟩
          replace HB := hT HB hb4
          replace KA := hK KA hb4
          replace KB := hK KB hb4
          replace KZ := hK KZ hb4
          replace KC := hK KC hb4
          clear yA_0 yA_1 yA_2 yA_3 yA_z yB_0 yB_1 yB_2 yB_3 yB_z
          clear hb4
          obtain ⟨yC_0, yC_1, yC_2, yC_3, yC_z, yC_f0, yC_f1, yC_f2, yC_f3⟩ := blf4 KC
          go_upto_region 6 with (fail)
          have hs := st2 w4 bC 0 (.int .i64 mx) 2 (.int .i64 wx)
          replace KA := oB hs KA (by omega)
          replace KB := oB hs KB (by omega)
          replace KZ := oB hs KZ (by omega)
          replace KC := Lib.hid (blk_set (blk_set KC.out (j := 0) (by simp) (.int .i64 mx)) (j := 2) (by simp) (.int .i64 wx))
          replace HB := oH hs HB (by omega)
          clear hs
          clear yC_0 yC_1 yC_2 yC_3 yC_z yC_f0 yC_f1 yC_f2 yC_f3
          generalize (w4.setCell ⟨bC, 0, none⟩ (.int .i64 mx)).setCell ⟨bC, 2, none⟩ (.int .i64 wx) = w5 at *
          simp only [List.set] at KC
          obtain ⟨yA_0, yA_1, yA_2, yA_3, yA_z⟩ := blk4 KA
          obtain ⟨yB_0, yB_1, yB_2, yB_3, yB_z⟩ := blk4 KB
          go_wp2_with fail
          refine (OY.out _).mono ?_
          rintro e6 w6 ⟨rfl, hb6⟩
          replace HB := hT HB hb6
          replace KA := hK KA hb6
          replace KB := hK KB hb6
          replace KZ := hK KZ hb6
          replace KC := hK KC hb6
          clear yA_0 yA_1 yA_2 yA_3 yA_z yB_0 yB_1 yB_2 yB_3 yB_z
          clear hb6
          obtain ⟨yC_0, yC_1, yC_2, yC_3, yC_z, yC_f0, yC_f1, yC_f2, yC_f3⟩ := blf4 KC
          go_upto_region 7 with (fail)
          have hs := st2 w6 bC 1 (.int .i64 my) 3 (.int .i64 wy)
          replace KA := oB hs KA (by omega)
          replace KB := oB hs KB (by omega)
          replace KZ := oB hs KZ (by omega)
          replace KC := Lib.hid (blk_set (blk_set KC.out (j := 1) (by simp) (.int .i64 my)) (j := 3) (by simp) (.int .i64 wy))
          replace HB := oH hs HB (by omega)
          clear hs
          clear yC_0 yC_1 yC_2 yC_3 yC_z yC_f0 yC_f1 yC_f2 yC_f3
          generalize (w6.setCell ⟨bC, 1, none⟩ (.int .i64 my)).setCell ⟨bC, 3, none⟩ (.int .i64 wy) = w7 at *
          simp only [List.set] at KC
          obtain ⟨yZ_0, yZ_1, yZ_2, yZ_3, yZ_z, yZ_f0, yZ_f1, yZ_f2, yZ_f3⟩ := blf4 KZ
          obtain ⟨yC_0, yC_1, yC_2, yC_3, yC_z⟩ := blk4 KC
          go_wp2
          have hs := st4 w7 (w.heap.size + 1 + 1) 0 (.int .i64 mx) 1 (.int .i64 my) 2 (.int .i64 wx) 3 (.int .i64 wy)
          replace KA := oB hs KA (by omega)
          replace KB := oB hs KB (by omega)
          replace KZ := Lib.hid (blk_set (blk_set (blk_set (blk_set KZ.out (j := 0) (by simp) (.int .i64 mx)) (j := 1) (by simp) (.int .i64 my)) (j := 2) (by simp) (.int .i64 wx)) (j := 3) (by simp) (.int .i64 wy))
          replace KC := oB hs KC (by omega)
          replace HB := oH hs HB (by omega)
          clear hs
          clear yZ_0 yZ_1 yZ_2 yZ_3 yZ_z yZ_f0 yZ_f1 yZ_f2 yZ_f3 yC_0 yC_1 yC_2 yC_3 yC_z
          generalize (((w7.setCell ⟨(w.heap.size + 1 + 1), 0, none⟩ (.int .i64 mx)).setCell ⟨(w.heap.size + 1 + 1), 1, none⟩ (.int .i64 my)).setCell ⟨(w.heap.size + 1 + 1), 2, none⟩ (.int .i64 wx)).setCell ⟨(w.heap.size + 1 + 1), 3, none⟩ (.int .i64 wy) = w8 at *
          simp only [List.set] at KZ
          obtain ⟨yZ_0, yZ_1, yZ_2, yZ_3, yZ_z⟩ := blk4 KZ
          refine bodyPost_ret (v := .tuple #[.agg #[.int .i64 mx, .int .i64 my, .int .i64 wx, .int .i64 wy], .int .i64 0]) (by simp [results, Tryz.results63, go_sem, yZ_0, yZ_1, yZ_2, yZ_3]) rfl ⟨by rw [EV.out], HB.out⟩
end Go.Proofs.YtajmjkliblippaaGreatDoor
namespace Go.Proofs.YtajmjkliblippaaGreatDoor
set_option linter.unusedVariables false
open Go.RowKit
set_option maxHeartbeats 40000000 in
set_option maxRecDepth 100000 in
theorem fix_any (l : List Ms) (v : Value) (a : Bx4) (w : World) (h : LstAt l v w) : Calls Tryz.prog 33 #[v, .agg #[.int .i64 a.cx, .int .i64 a.cy, .int .i64 a.x, .int .i64 a.y]] w fun e w' => e = .returned (.tuple #[.agg #[.int .i64 (fixF l a).1.1.cx, .int .i64 (fixF l a).1.1.cy, .int .i64 (fixF l a).1.1.x, .int .i64 (fixF l a).1.1.y], .int .i64 (fixF l a).1.2, .bool (fixF l a).2]) ∧ Below w.heap.size w w' := by
  have EV0 : fixF l a = if (S44.fltF l).2 = 0 then (if (levF (woL l (S44.fltF l).1)).2 = 0 then (((mrgF a (toB (levF (woL l (S44.fltF l).1)).1)).1, (S44.fltF l).1), decide ((mrgF a (toB (levF (woL l (S44.fltF l).1)).1)).2 = 0)) else ((bx0, 0), false)) else ((bx0, 0), false) := rfl
  have FL := Lib.hid fun w h => S44.flt_any l v w h
  unfold S44.FlP at FL
  have WL := Lib.hid fun (h : (S44.fltF l).2 = 0) => show l.length ≤ 18 from Nat.le_trans (okL_of (flt_chk2 h)).len (by omega)
  generalize fixF l a = q at *
  generalize S44.fltF l = R at *
  obtain ⟨k, e⟩ := R
  simp only at FL WL EV0
  have LV := Lib.hid fun u w h => lev_any (woL l k) u w h
  generalize levF (woL l k) = R at *
  obtain ⟨⟨c0, c1, c2, c3⟩, el⟩ := R
  unfold toB at EV0
  unfold boxV at LV
  simp only at LV EV0
  have MG := Lib.hid fun w => merge_any a ⟨c0, c1, c2, c3⟩ w
  have EV1 := Lib.hid EV0
  clear EV0
  have EV0 := EV1
  clear EV1
  obtain ⟨ax, ay, a1, a2⟩ := a
  simp only at MG
  obtain ⟨KP, KZ, HB⟩ := ent2 w #[.int .i64 ax, .int .i64 ay, .int .i64 a1, .int .i64 a2] 25 #[.int .i64 0, .int .i64 0, .int .i64 0, .int .i64 0] 25
  have HL := Lib.hid (h.below (((Below.refl w.heap.size w).alloc (Nat.le_refl _) (.cells #[.int .i64 ax, .int .i64 ay, .int .i64 a1, .int .i64 a2] 25)).alloc (by simp) (.cells #[.int .i64 0, .int .i64 0, .int .i64 0, .int .i64 0] 25)))
  go_enter Tryz.func33, Tryz.ntmps33
  go_wp2_with fail
  generalize (w.alloc (.cells #[.int .i64 ax, .int .i64 ay, .int .i64 a1, .int .i64 a2] 25)).alloc (.cells #[.int .i64 0, .int .i64 0, .int .i64 0, .int .i64 0] 25) = w0 at *
  refine (FL.out _ HL.out).mono ?_
  rintro e1 w1 ⟨rfl, hb1⟩
  replace HB := hT HB hb1
  replace KP := hK KP hb1
  replace KZ := hK KZ hb1
  replace HL := Lib.hid (HL.out.below hb1)
  clear hb1
  by_cases he : e = 0
  · subst he
    have LN := WL.out rfl
    replace EV0 := Lib.hid (EV0.out.trans (if_pos rfl))
    clear WL
    go_wp2_with fail
    refine (wo_any l k v _ HL.out LN).mono ?_
    rintro e34 w34 ⟨⟨u2, rfl, ho2⟩, hb34⟩
    replace HB := hT HB hb34
    replace KP := hK KP hb34
    replace KZ := hK KZ hb34
    replace HL := Lib.hid (HL.out.below hb34)
    clear hb34
    have OL2 := Lib.hid ho2.lst
    clear ho2 LN
    have LV2 := Lib.hid fun w h => LV.out u2 w h
    clear LV
    go_wp2_with fail
    refine (LV2.out _ OL2.out).mono ?_
    rintro e35 w35 ⟨rfl, hb35⟩
    replace HB := hT HB hb35
    replace KP := hK KP hb35
    replace KZ := hK KZ hb35
    replace OL2 := Lib.hid (OL2.out.below hb35)
    clear hb35
    clear LV2
    go_upto_region 5 with (fail)
    obtain ⟨KL, hb36⟩ := alB w35 #[.int .i64 c0, .int .i64 c1, .int .i64 c2, .int .i64 c3] 25
    have hnL := HB.out.size
    have nzL_P := KP.out.lt
    have nzL_Z := KZ.out.lt
    replace HB := hT HB hb36
    replace KP := hK KP hb36
    replace KZ := hK KZ hb36
    replace OL2 := Lib.hid (OL2.out.below hb36)
    clear hb36
    generalize w35.alloc (.cells #[.int .i64 c0, .int .i64 c1, .int .i64 c2, .int .i64 c3] 25) = w36 at *
    generalize w35.heap.size = bL at *
    have neL_P : bL ≠ w.heap.size := by omega
    have neL_Z : bL ≠ (w.heap.size + 1) := by omega
    clear nzL_P nzL_Z
    by_cases hl : el = 0
    · subst hl
      replace EV0 := Lib.hid (EV0.out.trans (if_pos rfl))
      have MG2 := MG.out
      generalize mrgF ⟨ax, ay, a1, a2⟩ ⟨c0, c1, c2, c3⟩ = R at *
      obtain ⟨⟨d0, d1, d2, d3⟩, em⟩ := R
      simp only at MG2
      have MG3 := Lib.hid MG2
      clear MG MG2
      obtain ⟨yP_0, yP_1, yP_2, yP_3, yP_z⟩ := blk4 KP
      obtain ⟨yL_0, yL_1, yL_2, yL_3, yL_z⟩ := blk4 KL
      go_wp2_with fail
      refine (MG3.out _).mono ?_
      rintro e37 w37 ⟨rfl, hb37⟩
      replace HB := hT HB hb37
      replace KP := hK KP hb37
      replace KZ := hK KZ hb37
      replace KL := hK KL hb37
      replace OL2 := Lib.hid (OL2.out.below hb37)
      clear yP_0 yP_1 yP_2 yP_3 yP_z yL_0 yL_1 yL_2 yL_3 yL_z
      clear hb37
      clear MG3
      go_upto_region 8 with (fail)
      obtain ⟨KC, hb38⟩ := alB w37 #[.int .i64 d0, .int .i64 d1, .int .i64 d2, .int .i64 d3] 25
      have hnC := HB.out.size
      have nzC_P := KP.out.lt
      have nzC_Z := KZ.out.lt
      have nzC_L := KL.out.lt
      replace HB := hT HB hb38
      replace KP := hK KP hb38
      replace KZ := hK KZ hb38
      replace KL := hK KL hb38
      replace OL2 := Lib.hid (OL2.out.below hb38)
      clear hb38
      generalize w37.alloc (.cells #[.int .i64 d0, .int .i64 d1, .int .i64 d2, .int .i64 d3] 25) = w38 at *
      generalize w37.heap.size = bC at *
      have neC_P : bC ≠ w.heap.size := by omega
      have neC_Z : bC ≠ (w.heap.size + 1) := by omega
      have neC_L : bC ≠ bL := by omega
      clear nzC_P nzC_Z nzC_L
      by_cases hm : em = 0
      · subst hm
        have EV := EV0
        clear EV0
        obtain ⟨yZ_0, yZ_1, yZ_2, yZ_3, yZ_z, yZ_f0, yZ_f1, yZ_f2, yZ_f3⟩ := blf4 KZ
        obtain ⟨yC_0, yC_1, yC_2, yC_3, yC_z⟩ := blk4 KC
        go_wp2
        have hs := st4 w38 (w.heap.size + 1) 0 (.int .i64 d0) 1 (.int .i64 d1) 2 (.int .i64 d2) 3 (.int .i64 d3)
        replace KP := oB hs KP (by omega)
        replace KZ := Lib.hid (blk_set (blk_set (blk_set (blk_set KZ.out (j := 0) (by simp) (.int .i64 d0)) (j := 1) (by simp) (.int .i64 d1)) (j := 2) (by simp) (.int .i64 d2)) (j := 3) (by simp) (.int .i64 d3))
        replace KL := oB hs KL (by omega)
        replace KC := oB hs KC (by omega)
        replace HB := oH hs HB (by omega)
        clear hs
        clear yZ_0 yZ_1 yZ_2 yZ_3 yZ_z yZ_f0 yZ_f1 yZ_f2 yZ_f3 yC_0 yC_1 yC_2 yC_3 yC_z
        generalize (((w38.setCell ⟨(w.heap.size + 1), 0, none⟩ (.int .i64 d0)).setCell ⟨(w.heap.size + 1), 1, none⟩ (.int .i64 d1)).setCell ⟨(w.heap.size + 1), 2, none⟩ (.int .i64 d2)).setCell ⟨(w.heap.size + 1), 3, none⟩ (.int .i64 d3) = w39 at *
        simp only [List.set] at KZ
        obtain ⟨yZ_0, yZ_1, yZ_2, yZ_3, yZ_z⟩ := blk4 KZ
        refine bodyPost_ret (v := .tuple #[.agg #[.int .i64 d0, .int .i64 d1, .int .i64 d2, .int .i64 d3], .int .i64 k, .bool true]) (by simp [results, Tryz.results33, go_sem, yZ_0, yZ_1, yZ_2, yZ_3]) rfl ⟨by first | (rw [EV.out]; done) | (rw [EV.out]; rfl), HB.out⟩
      · have gm : (em == 0) = false := by simpa using hm
        have EV := Lib.hid (EV0.out.trans (by rw [show decide (em = 0) = false by simpa using hm]))
        clear EV0 hm
        obtain ⟨yZ_0, yZ_1, yZ_2, yZ_3, yZ_z, yZ_f0, yZ_f1, yZ_f2, yZ_f3⟩ := blf4 KZ
        obtain ⟨yC_0, yC_1, yC_2, yC_3, yC_z⟩ := blk4 KC
        go_wp2
        have hs := st4 w38 (w.heap.size + 1) 0 (.int .i64 d0) 1 (.int .i64 d1) 2 (.int .i64 d2) 3 (.int .i64 d3)
        replace KP := oB hs KP (by omega)
        replace KZ := Lib.hid (blk_set (blk_set (blk_set (blk_set KZ.out (j := 0) (by simp) (.int .i64 d0)) (j := 1) (by simp) (.int .i64 d1)) (j := 2) (by simp) (.int .i64 d2)) (j := 3) (by simp) (.int .i64 d3))
        replace KL := oB hs KL (by omega)
        replace KC := oB hs KC (by omega)
        replace HB := oH hs HB (by omega)
        clear hs
        clear yZ_0 yZ_1 yZ_2 yZ_3 yZ_z yZ_f0 yZ_f1 yZ_f2 yZ_f3 yC_0 yC_1 yC_2 yC_3 yC_z
        generalize (((w38.setCell ⟨(w.heap.size + 1), 0, none⟩ (.int .i64 d0)).setCell ⟨(w.heap.size + 1), 1, none⟩ (.int .i64 d1)).setCell ⟨(w.heap.size + 1), 2, none⟩ (.int .i64 d2)).setCell ⟨(w.heap.size + 1), 3, none⟩ (.int .i64 d3) = w39 at *
        simp only [List.set] at KZ
        obtain ⟨yZ_0, yZ_1, yZ_2, yZ_3, yZ_z⟩ := blk4 KZ
        refine bodyPost_ret (v := .tuple #[.agg #[.int .i64 d0, .int .i64 d1, .int .i64 d2, .int .i64 d3], .int .i64 k, .bool false]) (by simp [results, Tryz.results33, go_sem, yZ_0, yZ_1, yZ_2, yZ_3]) rfl ⟨by first | (rw [EV.out]; done) | (rw [EV.out]; rfl), HB.out⟩
    · have EV := Lib.hid (EV0.out.trans (if_neg hl))
      have gl : (el != 0) = true := by simpa using hl
      clear EV0 hl MG
      obtain ⟨yZ_0, yZ_1, yZ_2, yZ_3, yZ_z, yZ_f0, yZ_f1, yZ_f2, yZ_f3⟩ := blf4 KZ
      go_wp2
      have hs := st4 w36 (w.heap.size + 1) 0 (.int .i64 0) 1 (.int .i64 0) 2 (.int .i64 0) 3 (.int .i64 0)
      replace KP := oB hs KP (by omega)
      replace KZ := Lib.hid (blk_set (blk_set (blk_set (blk_set KZ.out (j := 0) (by simp) (.int .i64 0)) (j := 1) (by simp) (.int .i64 0)) (j := 2) (by simp) (.int .i64 0)) (j := 3) (by simp) (.int .i64 0))
      replace KL := oB hs KL (by omega)
      replace HB := oH hs HB (by omega)
      clear hs
      clear yZ_0 yZ_1 yZ_2 yZ_3 yZ_z yZ_f0 yZ_f1 yZ_f2 yZ_f3
      generalize (((w36.setCell ⟨(w.heap.size + 1), 0, none⟩ (.int .i64 0)).setCell ⟨(w.heap.size + 1), 1, none⟩ (.int .i64 0)).setCell ⟨(w.heap.size + 1), 2, none⟩ (.int .i64 0)).setCell ⟨(w.heap.size + 1), 3, none⟩ (.int .i64 0) = w37 at *
      simp only [List.set] at KZ
      obtain ⟨yZ_0, yZ_1, yZ_2, yZ_3, yZ_z⟩ := blk4 KZ
      refine bodyPost_ret (v := .tuple #[.agg #[.int .i64 0, .int .i64 0, .int .i64 0, .int .i64 0], .int .i64 0, .bool false]) (by simp [results, Tryz.results33, go_sem, yZ_0, yZ_1, yZ_2, yZ_3]) rfl ⟨by rw [EV.out]; rfl, HB.out⟩
  · have EV := Lib.hid (EV0.out.trans (if_neg he))
    have ge : (e != 0) = true := by simpa using he
    clear EV0 he WL LV
    obtain ⟨yZ_0, yZ_1, yZ_2, yZ_3, yZ_z, yZ_f0, yZ_f1, yZ_f2, yZ_f3⟩ := blf4 KZ
    go_wp2
    have hs := st4 w1 (w.heap.size + 1) 0 (.int .i64 0) 1 (.int .i64 0) 2 (.int .i64 0) 3 (.int .i64 0)
    replace KP := oB hs KP (by omega)
    replace KZ := Lib.hid (blk_set (blk_set (blk_set (blk_set KZ.out (j := 0) (by simp) (.int .i64 0)) (j := 1) (by simp) (.int .i64 0)) (j := 2) (by simp) (.int .i64 0)) (j := 3) (by simp) (.int .i64 0))
    replace HB := oH hs HB (by omega)
    clear hs
    clear yZ_0 yZ_1 yZ_2 yZ_3 yZ_z yZ_f0 yZ_f1 yZ_f2 yZ_f3
    generalize (((w1.setCell ⟨(w.heap.size + 1), 0, none⟩ (.int .i64 0)).setCell ⟨(w.heap.size + 1), 1, none⟩ (.int .i64 0)).setCell ⟨(w.heap.size + 1), 2, none⟩ (.int .i64 0)).setCell ⟨(w.heap.size + 1), 3, none⟩ (.int .i64 0) = w2 at *
    simp only [List.set] at KZ
    obtain ⟨yZ_0, yZ_1, yZ_2, yZ_3, yZ_z⟩ := blk4 KZ
    refine bodyPost_ret (v := .tuple #[.agg #[.int .i64 0, .int .i64 0, .int .i64 0, .int .i64 0], .int .i64 0, .bool false]) (by simp [results, Tryz.results33, go_sem, yZ_0, yZ_1, yZ_2, yZ_3]) rfl ⟨by rw [EV.out]; rfl, HB.out⟩
end Go.Proofs.YtajmjkliblippaaGreatDoor
namespace Go.Proofs.YtajmjkliblippaaGreatDoor
set_option linter.unusedVariables false
open Go.ChangeShapes Go.WideShapes Go.ChangeAt Go.RowKit Go.Joins

theorem cells_of_navstate : Tryz.prog.cellsOf 27 = 6 := by kernel_rfl
theorem cells_of_velocity : Tryz.prog.cellsOf 36 = 2 := by kernel_rfl

structure Pt where
  x : Int
  y : Int
def nthP (l : List Pt) (i : Nat) : Pt := l.getD i ⟨0, 0⟩
structure PtsAt (l : List Pt) (b o : Nat) (w : World) : Prop where
  lt : b < w.heap.size
  c0 : ∀ i, i < l.length → w.cell? ⟨b, o + i * 2, none⟩ = some (.int .i64 (nthP l i).x)
  c1 : ∀ i, i < l.length → w.cell? ⟨b, o + i * 2 + 1, none⟩ = some (.int .i64 (nthP l i).y)
theorem PtsAt.below {l : List Pt} {b o : Nat} {w w' : World} (h : PtsAt l b o w) (hb : Below w.heap.size w w') : PtsAt l b o w' :=
  ⟨Nat.lt_of_lt_of_le h.lt hb.size, fun i hi => (hb.cell (p := ⟨b, o + i * 2, none⟩) h.lt).trans (h.c0 i hi), fun i hi => (hb.cell (p := ⟨b, o + i * 2 + 1, none⟩) h.lt).trans (h.c1 i hi)⟩
def PlAt (l : List Pt) (v : Value) (w : World) : Prop := (v = .slice none 0 0 ∧ l = []) ∨ ∃ b o cap, v = .slice (some ⟨b, o, none⟩) l.length cap ∧ l.length ≤ cap ∧ cap ≤ 9223372036854775807 ∧ PtsAt l b o w
theorem PlAt.below {l : List Pt} {v : Value} {w w' : World} (h : PlAt l v w) (hb : Below w.heap.size w w') : PlAt l v w' := by
  rcases h with h | ⟨b, o, cap, h1, h2, h3, h4⟩
  · exact .inl h
  · exact .inr ⟨b, o, cap, h1, h2, h3, h4.below hb⟩
theorem pl_form {l : List Pt} {v : Value} {w : World} (h : PlAt l v w) : ∃ p cap, v = .slice p l.length cap := by
  rcases h with ⟨rfl, rfl⟩ | ⟨b, o, cap, rfl, _⟩
  · exact ⟨none, 0, rfl⟩
  · exact ⟨_, _, rfl⟩
theorem pl_at {l : List Pt} {p : Option Addr} {cap : Nat} {w : World} (h : PlAt l (.slice p l.length cap) w) {k : Nat} (q : k < l.length) : ∃ b o, p = some ⟨b, o, none⟩ ∧ l.length ≤ cap ∧ cap ≤ 9223372036854775807 ∧ PtsAt l b o w := by
  rcases h with ⟨_, rfl⟩ | ⟨b, o, cap', e, h2, h3, h4⟩
  · exact absurd q (by simp)
  · injection e with e1 e2 e3
    subst e3
    exact ⟨b, o, e1, h2, h3, h4⟩
theorem cells_of_navin : Tryz.prog.cellsOf 38 = 6 := by kernel_rfl
theorem cells_of_reports : Tryz.prog.cellsOf 34 = 1 := by kernel_rfl

section
variable {H : Type} {enc : TypeId × Value → H} {W : World} {base : Nat} {spare : Nat → Bool} {held : Bool} {b0 : Nat}

set_option maxRecDepth 100000 in
theorem trod_navstate {n : Nat} {c0 c1 c2 c3 c4 c5 : Value} {y : DataW H × List MemPlace} (h : DataW.trod enc Tryz.prog W base spare held n 27 [c0, c1, c2, c3, c4, c5] = some y) :
    ∃ a0 a1 a2 a3 a4 a5 : Int, c0 = .int .i64 a0 ∧ c1 = .int .i64 a1 ∧ c2 = .int .i64 a2 ∧ c3 = .int .i64 a3 ∧ c4 = .int .i64 a4 ∧ c5 = .int .i64 a5 ∧ y = (.agg [.agg [.agg [.lit (.int .i64 a0), .lit (.int .i64 a1)], .lit (.int .i64 a2), .lit (.int .i64 a3)], .lit (.int .i64 a4), .lit (.int .i64 a5)], []) ∧ (Lit.int .i64 a0).wf = true ∧ (Lit.int .i64 a1).wf = true ∧ (Lit.int .i64 a2).wf = true ∧ (Lit.int .i64 a3).wf = true ∧ (Lit.int .i64 a4).wf = true ∧ (Lit.int .i64 a5).wf = true := by
  obtain ⟨xs, m, _, hx, _, hlen, hg⟩ := DataW.trod_struct Tryz.underlying27 h
  match xs, hlen with
  | [y0, y1, y2], _ =>
    have h0 : DataW.trod enc Tryz.prog W base spare held m 25 (([c0, c1, c2, c3, c4, c5].drop 0).take (Tryz.prog.cellsOf 25)) = some y0 := hg 0 _ rfl
    rw [cells_of_box] at h0
    have g0 : DataW.trod enc Tryz.prog W base spare held m 25 [c0, c1, c2, c3] = some y0 := h0
    have h1 : DataW.trod enc Tryz.prog W base spare held m 2 (([c0, c1, c2, c3, c4, c5].drop 4).take (Tryz.prog.cellsOf 2)) = some y1 := hg 1 _ rfl
    rw [cells_of_int64] at h1
    have g1 : DataW.trod enc Tryz.prog W base spare held m 2 [c4] = some y1 := h1
    have h2 : DataW.trod enc Tryz.prog W base spare held m 3 (([c0, c1, c2, c3, c4, c5].drop 5).take (Tryz.prog.cellsOf 3)) = some y2 := hg 2 _ rfl
    rw [cells_of_int] at h2
    have g2 : DataW.trod enc Tryz.prog W base spare held m 3 [c5] = some y2 := h2
    obtain ⟨a0, a1, a2, a3, rfl, rfl, rfl, rfl, r0, w0, w1, w2, w3⟩ := trod_box g0
    obtain ⟨a4, e4, r1, w4⟩ := DataW.trod_int Tryz.underlying2 g1
    obtain rfl : c4 = .int .i64 a4 := by simpa using e4
    obtain ⟨a5, e5, r2, w5⟩ := DataW.trod_int Tryz.underlying3 g2
    obtain rfl : c5 = .int .i64 a5 := by simpa using e5
    subst r0 r1 r2
    exact ⟨a0, a1, a2, a3, a4, a5, rfl, rfl, rfl, rfl, rfl, rfl, hx, w0, w1, w2, w3, w4, w5⟩
set_option maxRecDepth 100000 in
theorem trod_navstate_mk {a0 a1 a2 a3 a4 a5 : Int} (m : Nat) (w0 : (Lit.int .i64 a0).wf = true) (w1 : (Lit.int .i64 a1).wf = true) (w2 : (Lit.int .i64 a2).wf = true) (w3 : (Lit.int .i64 a3).wf = true) (w4 : (Lit.int .i64 a4).wf = true) (w5 : (Lit.int .i64 a5).wf = true) :
    DataW.trod enc Tryz.prog W base spare held (m + 4) 27 [.int .i64 a0, .int .i64 a1, .int .i64 a2, .int .i64 a3, .int .i64 a4, .int .i64 a5] = some (.agg [.agg [.agg [.lit (.int .i64 a0), .lit (.int .i64 a1)], .lit (.int .i64 a2), .lit (.int .i64 a3)], .lit (.int .i64 a4), .lit (.int .i64 a5)], []) := by
  have i0 := trod_box_mk (enc := enc) (W := W) (base := base) (spare := spare) (held := held) m w0 w1 w2 w3
  have i1 := trod_int_mk (enc := enc) (w := W) (base := base) (spare := spare) (held := held) (m + 2) Tryz.underlying2 w4
  have i2 := trod_int_mk (enc := enc) (w := W) (base := base) (spare := spare) (held := held) (m + 2) Tryz.underlying3 w5
  have := trod_struct_mk (enc := enc) (w := W) (base := base) (spare := spare) (held := held) (n := m + 3) (cs := [.int .i64 a0, .int .i64 a1, .int .i64 a2, .int .i64 a3, .int .i64 a4, .int .i64 a5])
    (xs := [(.agg [.agg [.lit (.int .i64 a0), .lit (.int .i64 a1)], .lit (.int .i64 a2), .lit (.int .i64 a3)], []), (.lit (.int .i64 a4), []), (.lit (.int .i64 a5), [])]) Tryz.underlying27 (by rw [cells_of_navstate]; rfl)
    (by simp [cells_of_box, cells_of_int, cells_of_int64, i0, i1, i2])
  simpa using this
set_option maxRecDepth 100000 in
theorem open_navstate {v : Value} {d : DataW H} {p : List MemPlace} (hv : Value.okWide Tryz.prog W .any b0 27 v) (h : DataW.Trod enc Tryz.prog W base spare held 27 v d p) :
    ∃ a0 a1 a2 a3 a4 a5 : Int, v = .agg #[.int .i64 a0, .int .i64 a1, .int .i64 a2, .int .i64 a3, .int .i64 a4, .int .i64 a5] ∧ d = .agg [.agg [.agg [.lit (.int .i64 a0), .lit (.int .i64 a1)], .lit (.int .i64 a2), .lit (.int .i64 a3)], .lit (.int .i64 a4), .lit (.int .i64 a5)] ∧ p = [] ∧ (Lit.int .i64 a0).wf = true ∧ (Lit.int .i64 a1).wf = true ∧ (Lit.int .i64 a2).wf = true ∧ (Lit.int .i64 a3).wf = true ∧ (Lit.int .i64 a4).wf = true ∧ (Lit.int .i64 a5).wf = true := by
  obtain ⟨cs, rfl, hsz⟩ := okWide_struct Tryz.underlying27 hv
  obtain ⟨l⟩ := cs
  match l, hsz.trans cells_of_navstate with
  | [c0, c1, c2, c3, c4, c5], _ =>
    obtain ⟨fuel, hf⟩ := h
    have hf' : DataW.trod enc Tryz.prog W base spare held fuel 27 [c0, c1, c2, c3, c4, c5] = some (d, p) := hf
    obtain ⟨a0, a1, a2, a3, a4, a5, rfl, rfl, rfl, rfl, rfl, rfl, hy, w0, w1, w2, w3, w4, w5⟩ := trod_navstate hf'
    simp only [Prod.mk.injEq] at hy
    exact ⟨a0, a1, a2, a3, a4, a5, rfl, hy.1, hy.2, w0, w1, w2, w3, w4, w5⟩
set_option maxRecDepth 100000 in
theorem shut_navstate {a0 a1 a2 a3 a4 a5 : Int} (w0 : (Lit.int .i64 a0).wf = true) (w1 : (Lit.int .i64 a1).wf = true) (w2 : (Lit.int .i64 a2).wf = true) (w3 : (Lit.int .i64 a3).wf = true) (w4 : (Lit.int .i64 a4).wf = true) (w5 : (Lit.int .i64 a5).wf = true) :
    DataW.Trod enc Tryz.prog W base spare held 27 (.agg #[.int .i64 a0, .int .i64 a1, .int .i64 a2, .int .i64 a3, .int .i64 a4, .int .i64 a5]) (.agg [.agg [.agg [.lit (.int .i64 a0), .lit (.int .i64 a1)], .lit (.int .i64 a2), .lit (.int .i64 a3)], .lit (.int .i64 a4), .lit (.int .i64 a5)]) [] :=
  ⟨4, trod_navstate_mk (enc := enc) (W := W) (base := base) (spare := spare) (held := held) 0 w0 w1 w2 w3 w4 w5⟩
set_option maxRecDepth 100000 in
theorem trod_velocity {n : Nat} {c0 c1 : Value} {y : DataW H × List MemPlace} (h : DataW.trod enc Tryz.prog W base spare held n 36 [c0, c1] = some y) :
    ∃ a0 a1 : Int, c0 = .int .i64 a0 ∧ c1 = .int .i64 a1 ∧ y = (.agg [.lit (.int .i64 a0), .lit (.int .i64 a1)], []) ∧ (Lit.int .i64 a0).wf = true ∧ (Lit.int .i64 a1).wf = true := by
  obtain ⟨xs, m, _, hx, _, hlen, hg⟩ := DataW.trod_struct Tryz.underlying36 h
  match xs, hlen with
  | [y0, y1], _ =>
    have h0 : DataW.trod enc Tryz.prog W base spare held m 2 (([c0, c1].drop 0).take (Tryz.prog.cellsOf 2)) = some y0 := hg 0 _ rfl
    rw [cells_of_int64] at h0
    have g0 : DataW.trod enc Tryz.prog W base spare held m 2 [c0] = some y0 := h0
    have h1 : DataW.trod enc Tryz.prog W base spare held m 2 (([c0, c1].drop 1).take (Tryz.prog.cellsOf 2)) = some y1 := hg 1 _ rfl
    rw [cells_of_int64] at h1
    have g1 : DataW.trod enc Tryz.prog W base spare held m 2 [c1] = some y1 := h1
    obtain ⟨a0, e0, r0, w0⟩ := DataW.trod_int Tryz.underlying2 g0
    obtain rfl : c0 = .int .i64 a0 := by simpa using e0
    obtain ⟨a1, e1, r1, w1⟩ := DataW.trod_int Tryz.underlying2 g1
    obtain rfl : c1 = .int .i64 a1 := by simpa using e1
    subst r0 r1
    exact ⟨a0, a1, rfl, rfl, hx, w0, w1⟩
set_option maxRecDepth 100000 in
theorem trod_velocity_mk {a0 a1 : Int} (m : Nat) (w0 : (Lit.int .i64 a0).wf = true) (w1 : (Lit.int .i64 a1).wf = true) :
    DataW.trod enc Tryz.prog W base spare held (m + 2) 36 [.int .i64 a0, .int .i64 a1] = some (.agg [.lit (.int .i64 a0), .lit (.int .i64 a1)], []) := by
  have i0 := trod_int_mk (enc := enc) (w := W) (base := base) (spare := spare) (held := held) m Tryz.underlying2 w0
  have i1 := trod_int_mk (enc := enc) (w := W) (base := base) (spare := spare) (held := held) m Tryz.underlying2 w1
  have := trod_struct_mk (enc := enc) (w := W) (base := base) (spare := spare) (held := held) (n := m + 1) (cs := [.int .i64 a0, .int .i64 a1])
    (xs := [(.lit (.int .i64 a0), []), (.lit (.int .i64 a1), [])]) Tryz.underlying36 (by rw [cells_of_velocity]; rfl)
    (by simp [cells_of_int64, i0, i1])
  simpa using this
set_option maxRecDepth 100000 in
theorem open_velocity {v : Value} {d : DataW H} {p : List MemPlace} (hv : Value.okWide Tryz.prog W .any b0 36 v) (h : DataW.Trod enc Tryz.prog W base spare held 36 v d p) :
    ∃ a0 a1 : Int, v = .agg #[.int .i64 a0, .int .i64 a1] ∧ d = .agg [.lit (.int .i64 a0), .lit (.int .i64 a1)] ∧ p = [] ∧ (Lit.int .i64 a0).wf = true ∧ (Lit.int .i64 a1).wf = true := by
  obtain ⟨cs, rfl, hsz⟩ := okWide_struct Tryz.underlying36 hv
  obtain ⟨l⟩ := cs
  match l, hsz.trans cells_of_velocity with
  | [c0, c1], _ =>
    obtain ⟨fuel, hf⟩ := h
    have hf' : DataW.trod enc Tryz.prog W base spare held fuel 36 [c0, c1] = some (d, p) := hf
    obtain ⟨a0, a1, rfl, rfl, hy, w0, w1⟩ := trod_velocity hf'
    simp only [Prod.mk.injEq] at hy
    exact ⟨a0, a1, rfl, hy.1, hy.2, w0, w1⟩
set_option maxRecDepth 100000 in
theorem shut_velocity {a0 a1 : Int} (w0 : (Lit.int .i64 a0).wf = true) (w1 : (Lit.int .i64 a1).wf = true) :
    DataW.Trod enc Tryz.prog W base spare held 36 (.agg #[.int .i64 a0, .int .i64 a1]) (.agg [.lit (.int .i64 a0), .lit (.int .i64 a1)]) [] :=
  ⟨2, trod_velocity_mk (enc := enc) (W := W) (base := base) (spare := spare) (held := held) 0 w0 w1⟩
instance : Inhabited Pt := ⟨⟨0, 0⟩⟩
set_option maxRecDepth 100000 in
theorem open_points {v : Value} {d : DataW H} {p : List MemPlace} (hv : Value.okWide Tryz.prog W .any b0 135 v) (h : DataW.Trod enc Tryz.prog W 0 (fun _ => true) true 135 v d p) :
    ∃ l : List Pt, PlAt l v W ∧ ∀ i, i < l.length → (-9223372036854775808 ≤ (nthP l i).x ∧ (nthP l i).x ≤ 9223372036854775807) ∧ (-9223372036854775808 ≤ (nthP l i).y ∧ (nthP l i).y ≤ 9223372036854775807) := by
  have hok := hv
  simp only [Value.okWide, Tryz.underlying135, Cell.okWide] at hok
  obtain ⟨fuel, hf⟩ := h
  obtain ⟨ao, len, cap, rfl⟩ := okWide_slice Tryz.underlying135 hv
  rcases Go.Deep.open_slice Tryz.underlying135 hf with ⟨hc, _⟩ | ⟨a, len', cap', m, n, D, Pl, hc, _, hlc, _, hm, _, hi⟩
  · have hc' : [Value.slice ao len cap] = [Value.slice none 0 0] := hc
    exact ⟨[], .inl ⟨List.cons.inj hc' |>.1, rfl⟩, fun i hi => absurd hi (by simp)⟩
  · have hc0 : [Value.slice ao len cap] = [Value.slice (some a) len' cap'] := hc
    have hc' := (List.cons.inj hc0).1
    clear hc0
    cases hc'
    simp only [if_true] at hm
    subst hm
    have hhas : len ≤ m ∧ (m : Int) ≤ IntKind.i64.max ∧ W.has Tryz.prog .any b0 a 23 m := by simpa [Cell.ok, Tryz.underlying135] using hok
    obtain ⟨_, hmax, _, hsp, row, cells, hsh, _⟩ := hhas
    have hlt : a.block < W.heap.size := by
      unfold World.shape? at hsh
      split at hsh
      · rename_i q
        exact (Array.getElem?_eq_some_iff.1 q).1
      · cases hsh
    have key : ∀ i, i < len → ∃ x : Pt, ((-9223372036854775808 ≤ x.x ∧ x.x ≤ 9223372036854775807) ∧ (-9223372036854775808 ≤ x.y ∧ x.y ≤ 9223372036854775807)) ∧ W.cell? ⟨a.block, a.off + i * 2, none⟩ = some (.int .i64 x.x) ∧ W.cell? ⟨a.block, a.off + i * 2 + 1, none⟩ = some (.int .i64 x.y) := by
      intro i hil
      obtain ⟨cs, hcs, ht⟩ := hi i (by omega)
      rw [cells_of_point] at hcs
      obtain ⟨_, hl, hat⟩ := World.cells?_some hcs
      match cs, hl with
      | [c0, c1], _ =>
        obtain ⟨a0, a1, rfl, rfl, _, k0, k1⟩ := trod_point ht
        have ad : ∀ j, (a.add (i * 2)).add j = ⟨a.block, a.off + i * 2 + j, none⟩ := fun j => by
          rw [Go.Deep.add_add]
          unfold Addr.add
          obtain ⟨ab, af, asp⟩ := a
          simp only at hsp
          subst hsp
          split
          · rename_i e
            simp only [Addr.mk.injEq, and_true, true_and]
            omega
          · simp only [Addr.mk.injEq, and_true, true_and]
            omega
        refine ⟨⟨a0, a1⟩, ⟨bd64 k0, bd64 k1⟩, ?_, ?_⟩
        · have := hat 0 (by omega); rw [ad] at this; exact this
        · have := hat 1 (by omega); rw [ad] at this; exact this
    obtain ⟨f, hf⟩ := Go.Deep.choose_lt key
    have hlen : ((List.range len).map f).length = len := by simp
    have hn : ∀ i, i < len → nthP ((List.range len).map f) i = f i := fun i hil => by
      unfold nthP
      rw [List.getD_eq_getElem?_getD, List.getElem?_map, List.getElem?_range hil]
      rfl
    obtain ⟨ab, af, asp⟩ := a
    simp only at hsp
    subst hsp
    refine ⟨(List.range len).map f, .inr ⟨ab, af, m, by rw [hlen], by rw [hlen]; exact hlc, by simp [IntKind.max, IntKind.signed, IntKind.bits] at hmax; omega, hlt, ?_, ?_⟩, fun i hil => ?_⟩
    rotate_left 2
    · rw [hlen] at hil
      rw [hn i hil]
      exact (hf i hil).1
    all_goals
      intro i hil
      rw [hlen] at hil
      rw [hn i hil]
    · exact (hf i hil).2.1
    · exact (hf i hil).2.2
set_option maxRecDepth 100000 in
theorem open_navin {v : Value} {d : DataW H} {p : List MemPlace} (hv : Value.okWide Tryz.prog W .any b0 38 v) (h : DataW.Trod enc Tryz.prog W base spare held 38 v d p) :
    ∃ (a0 : Int) (r : Value) (a2 a3 a4 a5 : Int), v = .agg #[.int .i64 a0, r, .int .i64 a2, .int .i64 a3, .int .i64 a4, .int .i64 a5] := by
  obtain ⟨cs, rfl, hsz⟩ := okWide_struct Tryz.underlying38 hv
  obtain ⟨l⟩ := cs
  match l, hsz.trans cells_of_navin with
  | [c0, c1, c2, c3, c4, c5], _ =>
    obtain ⟨fuel, hf⟩ := h
    have hf' : DataW.trod enc Tryz.prog W base spare held fuel 38 [c0, c1, c2, c3, c4, c5] = some (d, p) := hf
    obtain ⟨xs, m, _, hx, _, hlen, hg⟩ := DataW.trod_struct Tryz.underlying38 hf'
    match xs, hlen with
    | [y0, y1, y2, y3, y4], _ =>
      have h0 : DataW.trod enc Tryz.prog W base spare held m 2 (([c0, c1, c2, c3, c4, c5].drop 0).take (Tryz.prog.cellsOf 2)) = some y0 := hg 0 _ rfl
      rw [cells_of_int64] at h0
      have g0 : DataW.trod enc Tryz.prog W base spare held m 2 [c0] = some y0 := h0
      have h2 : DataW.trod enc Tryz.prog W base spare held m 36 (([c0, c1, c2, c3, c4, c5].drop 2).take (Tryz.prog.cellsOf 36)) = some y2 := hg 2 _ rfl
      rw [cells_of_velocity] at h2
      have g2 : DataW.trod enc Tryz.prog W base spare held m 36 [c2, c3] = some y2 := h2
      have h3 : DataW.trod enc Tryz.prog W base spare held m 2 (([c0, c1, c2, c3, c4, c5].drop 4).take (Tryz.prog.cellsOf 2)) = some y3 := hg 3 _ rfl
      rw [cells_of_int64] at h3
      have g3 : DataW.trod enc Tryz.prog W base spare held m 2 [c4] = some y3 := h3
      have h4 : DataW.trod enc Tryz.prog W base spare held m 2 (([c0, c1, c2, c3, c4, c5].drop 5).take (Tryz.prog.cellsOf 2)) = some y4 := hg 4 _ rfl
      rw [cells_of_int64] at h4
      have g4 : DataW.trod enc Tryz.prog W base spare held m 2 [c5] = some y4 := h4
      obtain ⟨a0, e0, _, _⟩ := DataW.trod_int Tryz.underlying2 g0
      obtain rfl : c0 = .int .i64 a0 := by simpa using e0
      obtain ⟨a2, a3, rfl, rfl, _, _, _⟩ := trod_velocity g2
      obtain ⟨a4, e4, _, _⟩ := DataW.trod_int Tryz.underlying2 g3
      obtain rfl : c4 = .int .i64 a4 := by simpa using e4
      obtain ⟨a5, e5, _, _⟩ := DataW.trod_int Tryz.underlying2 g4
      obtain rfl : c5 = .int .i64 a5 := by simpa using e5
      exact ⟨a0, c1, a2, a3, a4, a5, rfl⟩
end
end Go.Proofs.YtajmjkliblippaaGreatDoor
