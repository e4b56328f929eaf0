/-
  The walk of the closure of layer 44's corners, and of corners.
-/
import Derived.Test.YtmlopbolekddnaaExcCorB
import Derived.Lib.SmallJoins
import Derived.Deep.Onto
namespace Go.Proofs.Ytmlopbolekddnaa
set_option linter.unusedVariables false
open Go.RowKit

/-- an edge's copy in a block of its own -/
structure EdgeAt (m : Ms) (c : Int) (be : Nat) (W : World) : Prop where
  lt : be < W.heap.size
  c0 : W.cell? ⟨be, 0, none⟩ = some (.int .i64 m.a)
  c1 : W.cell? ⟨be, 1, none⟩ = some (.int .i64 m.b)
  c2 : W.cell? ⟨be, 2, none⟩ = some (.int .i64 c)
theorem edge_new (m : Ms) (c : Int) (w : World) (t : TypeId) : EdgeAt m c w.heap.size (w.alloc (.cells #[.int .i64 m.a, .int .i64 m.b, .int .i64 c] t)) :=
  ⟨by simp, by rw [World.cell?_alloc_at _ _ _ _ rfl]; rfl, by rw [World.cell?_alloc_at _ _ _ _ rfl]; rfl, by rw [World.cell?_alloc_at _ _ _ _ rfl]; rfl⟩
theorem EdgeAt.same {m : Ms} {c : Int} {be : Nat} {W w' : World} (h : EdgeAt m c be W) (hk : w'.heap[be]? = W.heap[be]?) (hs : W.heap.size ≤ w'.heap.size) : EdgeAt m c be w' :=
  ⟨Nat.lt_of_lt_of_le h.lt hs, (World.cell?_of_block (w := W) (a := ⟨be, 0, none⟩) hk).trans h.c0, (World.cell?_of_block (w := W) (a := ⟨be, 1, none⟩) hk).trans h.c1, (World.cell?_of_block (w := W) (a := ⟨be, 2, none⟩) hk).trans h.c2⟩
theorem EdgeAt.below {m : Ms} {c : Int} {be : Nat} {W w' : World} (h : EdgeAt m c be W) (hb : Below W.heap.size W w') : EdgeAt m c be w' := h.same (hb.block be h.lt) hb.size
structure CrAt (p : Cr) (bp : Nat) (W : World) : Prop where
  lt : bp < W.heap.size
  c0 : W.cell? ⟨bp, 0, none⟩ = some (.int .i64 p.x)
  c1 : W.cell? ⟨bp, 1, none⟩ = some (.int .i64 p.y)
  c2 : W.cell? ⟨bp, 2, none⟩ = some (.int .i64 p.d)
theorem cr_new (p : Cr) (w : World) (t : TypeId) : CrAt p w.heap.size (w.alloc (.cells #[.int .i64 p.x, .int .i64 p.y, .int .i64 p.d] t)) :=
  ⟨by simp, by rw [World.cell?_alloc_at _ _ _ _ rfl]; rfl, by rw [World.cell?_alloc_at _ _ _ _ rfl]; rfl, by rw [World.cell?_alloc_at _ _ _ _ rfl]; rfl⟩
theorem CrAt.below {p : Cr} {be : Nat} {W w' : World} (h : CrAt p be W) (hb : Below W.heap.size W w') : CrAt p be w' :=
  ⟨Nat.lt_of_lt_of_le h.lt hb.size, (hb.cell (p := ⟨be, 0, none⟩) h.lt).trans h.c0, (hb.cell (p := ⟨be, 1, none⟩) h.lt).trans h.c1, (hb.cell (p := ⟨be, 2, none⟩) h.lt).trans h.c2⟩
theorem own_below {bo : Nat} {W w' : World} {k : Nat} (hl : bo < W.heap.size) (hb : Below W.heap.size W w') (hn : ¬ OwnC bo W k) : ¬ OwnC bo w' k := fun h => hn (by
  rcases h with h | ⟨u, h1, h2⟩
  · exact .inl h
  · exact .inr ⟨u, by rw [← h1]; exact (hb.cell (p := ⟨bo, 0, none⟩) hl).symm, h2⟩)
/-- the state in the closure's loops -/
structure CorSt (w W : World) (bl bo : Nat) (v : Value) (n : Ms) (bn : Nat) (C : List Cr) (wr : World) : Prop where
  ex : ∃ u, CorI w bl bo v u C wr
  kx : KeepX (OwnC bo) W wr
  cp : CopyAt n bn wr
  nn : ¬ OwnC bo wr bn
theorem CorSt.keep {w W : World} {bl bo : Nat} {v : Value} {n : Ms} {bn : Nat} {C : List Cr} {wr w' : World} (h : CorSt w W bl bo v n bn C wr) (hb : Below wr.heap.size wr w') : CorSt w W bl bo v n bn C w' := by
  obtain ⟨u, hu⟩ := h.ex
  exact ⟨⟨u, hu.keep hb⟩, h.kx.trans (keepx_below hu.lt hb), h.cp.below hb, own_below hu.lt hb h.nn⟩
def Q1 (w W : World) (bl bo : Nat) (v : Value) (l : List Ms) (m n : Ms) (bn : Nat) (C : List Cr) (s : Value) (wr : World) : Prop := ∃ i : Nat, s = .int .i64 i ∧ i ≤ 2 ∧ Hid (CorSt w W bl bo v n bn (C ++ crn l m n (2 * i)) wr)
def Q2 (w W : World) (bl bo : Nat) (v : Value) (l : List Ms) (m n : Ms) (bn : Nat) (C : List Cr) (i be : Nat) (s : Value) (wr : World) : Prop := ∃ j : Nat, s = .int .i64 j ∧ j ≤ 2 ∧ Hid (CorSt w W bl bo v n bn (C ++ crn l m n (2 * i + j)) wr) ∧ Hid (EdgeAt m (edgeC m (tag2 i)) be wr) ∧ Hid (¬ OwnC bo wr be)
def CorPost (w W : World) (bl bo : Nat) (v : Value) (l : List Ms) (m n : Ms) (C : List Cr) (e : Ending) (w' : World) : Prop := e = .returned (.tuple #[]) ∧ (∃ u, CorI w bl bo v u (C ++ crn l m n 4) w') ∧ KeepX (OwnC bo) W w'
theorem crn_at (l : List Ms) (m n : Ms) {i j : Nat} (hj : j < 2) : crn l m n (2 * i + (j + 1)) = crn l m n (2 * i + j) ++ pickC l m n (tag2 i) (tag2 j) := by
  rw [← Nat.add_assoc, crn_succ, show (2 * i + j) / 2 = i by omega, show (2 * i + j) % 2 = j by omega]
set_option maxHeartbeats 16000000 in
set_option maxRecDepth 100000 in
theorem cor_fn (l : List Ms) (v u : Value) (m n : Ms) (w W : World) (bl bo : Nat) (C : List Cr) (hI : CorI w bl bo v u C W) (hlb : bl ≠ bo) (hV : LstAt l v w) (he : ∀ m ∈ l, EdM m) (hm : EdM m) (hn : EdM n) (hC : C.length ≤ 2000) :
    Calls Try.prog 53 #[.agg #[.int .i64 m.s, .int .i64 m.a, .int .i64 m.b, .int .i64 m.z, .int .i64 m.d, .int .i64 m.w], .agg #[.int .i64 n.s, .int .i64 n.a, .int .i64 n.b, .int .i64 n.z, .int .i64 n.d, .int .i64 n.w], .pointer (some ⟨bl, 0, none⟩), .pointer (some ⟨bo, 0, none⟩)] W
      (CorPost w W bl bo v l m n C) := by
  have HI := Lib.hid hI
  have HLB := Lib.hid hlb
  have HV := Lib.hid hV
  have HEd := Lib.hid he
  have HM := Lib.hid hm
  have HN := Lib.hid hn
  have CN := Lib.hid (copy_new n (W.alloc (.cells #[.int .i64 m.s, .int .i64 m.a, .int .i64 m.b, .int .i64 m.z, .int .i64 m.d, .int .i64 m.w] 50)) 50)
  clear hI hlb hV he hm hn
  go_enter Try.func53, Try.ntmps53
  go_wp2_with fail
  refine (edges_any m _ HM.out).mono ?_
  rintro e w1 ⟨rfl, hb1⟩
  have hbW : Below W.heap.size W w1 := (((Below.refl W.heap.size W).alloc (Nat.le_refl _) _).alloc (by simp) _).trans (hb1.mono (by simp; omega))
  have S1 : CorSt w W bl bo v n (W.heap.size + 1) (C ++ crn l m n (2 * 0)) w1 := by
    refine ⟨⟨u, ?_⟩, keepx_below HI.out.lt hbW, ?_, own_below HI.out.lt hbW (own_new HI.out (by omega))⟩
    · have e : C ++ crn l m n (2 * 0) = C := by unfold crn; simp
      rw [e]
      exact HI.out.keep hbW
    · have := CN.out.below hb1
      simpa using this
  have HS1 := Lib.hid S1
  clear hbW S1 hb1 CN
  generalize W.heap.size + 1 = bn at *
  go_wp2_with fail
  go_loopw [14] (Q1 w W bl bo v l m n bn C) (fun i _ => 2 - (intOf i).toNat)
  case atStart => exact ⟨0, rfl, by omega, HS1⟩
  case round =>
    obtain ⟨i, rfl, hi, HS⟩ := hrel
    by_cases q : i < 2
    · have q' : decide ((i : Int) < 2) = true := by simp; omega
      have ix1 : ∀ w, (Instr.index 89 (.agg #[.int .i64 m.a, .int .i64 m.b, .int .i64 (edgeC m false), .int .i64 m.a, .int .i64 m.b, .int .i64 (edgeC m true)]) (.int .i64 (i : Int))).run Try.prog w = .ok (.agg #[.int .i64 m.a, .int .i64 m.b, .int .i64 (edgeC m (tag2 i))]) w := by
        intro w
        rcases (show i = 0 ∨ i = 1 by omega) with rfl | rfl <;> rfl
      have cn := HS.out.cp
      have c0 := cn.c0
      have c1 := cn.c1
      have c2 := cn.c2
      have c3 := cn.c3
      have c4 := cn.c4
      have c5 := cn.c5
      have hbn := cn.lt
      clear cn
      have EN := Lib.hid (edge_new m (edgeC m (tag2 i)) wr 88)
      go_wp2_with fail
      refine (edges_any n _ HN.out).mono ?_
      rintro e w2 ⟨rfl, hb2⟩
      have hbr : Below wr.heap.size wr w2 := ((Below.refl wr.heap.size wr).alloc (Nat.le_refl _) _).trans (hb2.mono (by simp))
      have HS2 := Lib.hid (HS.out.keep hbr)
      have HE2 := Lib.hid (EN.out.below hb2)
      have HO2 : Hid (¬ OwnC bo w2 wr.heap.size) := by
        obtain ⟨u0, hu0⟩ := HS.out.ex
        exact own_below hu0.lt hbr (own_new hu0 (Nat.le_refl _))
      clear c0 c1 c2 c3 c4 c5 hbn hbr hb2 EN ix1 HS
      generalize wr.heap.size = be at *
      go_wp2_with fail
      go_loopw [19] (Q2 w W bl bo v l m n bn C i be) (fun j _ => 2 - (intOf j).toNat)
      case atStart => exact ⟨0, rfl, by omega, HS2, HE2, HO2⟩
      case round =>
        obtain ⟨j, rfl, hj, HS, HE, HO⟩ := hrel
        by_cases r : j < 2
        · have r' : decide ((j : Int) < 2) = true := by simp; omega
          have ix2 : ∀ w, (Instr.index 89 (.agg #[.int .i64 n.a, .int .i64 n.b, .int .i64 (edgeC n false), .int .i64 n.a, .int .i64 n.b, .int .i64 (edgeC n true)]) (.int .i64 (j : Int))).run Try.prog w = .ok (.agg #[.int .i64 n.a, .int .i64 n.b, .int .i64 (edgeC n (tag2 j))]) w := by
            intro w
            rcases (show j = 0 ∨ j = 1 by omega) with rfl | rfl <;> rfl
          have he := HE.out
          have x0 := he.c0
          have x1 := he.c1
          have x2 := he.c2
          have hbe := he.lt
          have hsm1 := Lib.hid (edge_sm HM.out (tag2 i))
          have hsm2 := Lib.hid (edge_sm HN.out (tag2 j))
          have CA := Lib.hid (crn_at l m n (i := i) r)
          have MT := Lib.hid fun w => meet_any m n (edgeC m (tag2 i)) (edgeC n (tag2 j)) w HM.out HN.out hsm1.out hsm2.out
          obtain ⟨u1, hu1⟩ := HS.out.ex
          have HU := Lib.hid hu1
          clear he hu1
          by_cases hd : detM m n = 0
          · have PK := Lib.hid (show pickC l m n (tag2 i) (tag2 j) = [] by unfold pickC; rw [if_pos hd])
            have EM : meetF m n (edgeC m (tag2 i)) (edgeC n (tag2 j)) = (⟨0, 0, 0⟩, false) := by unfold meetF; rw [if_pos hd]
            have MT2 := MT.out
            rw [EM] at MT2
            have HMT := Lib.hid MT2
            clear hd EM MT2 MT
            go_wp2_with fail
            refine (HMT.out _).mono ?_
            rintro e w3 ⟨rfl, hb3⟩
            have hbr : Below wr.heap.size wr w3 := ((Below.refl wr.heap.size wr).alloc (Nat.le_refl _) _).trans (hb3.mono (by simp))
            have HB := Lib.hid hbr
            clear x0 x1 x2 hbe hb3 hbr
            go_wp2
            go_roundw
            case rel =>
              have hb := HB.out.alloc HB.out.size (.cells #[.int .i64 0, .int .i64 0, .int .i64 0] 92)
              refine ⟨j + 1, by go_num, by omega, ?_, HE.out.below hb, own_below HU.out.lt hb HO.out⟩
              rw [CA.out, PK.out, List.append_nil]
              exact HS.out.keep hb
            case measure => simp [intOf]; omega
          · have EM : meetF m n (edgeC m (tag2 i)) (edgeC n (tag2 j)) = (crossC m n (edgeC m (tag2 i)) (edgeC n (tag2 j)), true) := by unfold meetF; rw [if_neg hd]
            have MT2 := MT.out
            rw [EM] at MT2
            have HMT := Lib.hid MT2
            have SP := Lib.hid (cross_sm HM.out HN.out hsm1.out hsm2.out)
            have PK0 : pickC l m n (tag2 i) (tag2 j) = if holdsB l (crossC m n (edgeC m (tag2 i)) (edgeC n (tag2 j))) = true then [crossC m n (edgeC m (tag2 i)) (edgeC n (tag2 j))] else [] := by unfold pickC; rw [if_neg hd]
            clear hd EM MT2 MT
            generalize crossC m n (edgeC m (tag2 i)) (edgeC n (tag2 j)) = p at *
            have HO0 := fun v w hv => holds_any l p v w hv HEd.out SP.out
            have CNP := Lib.hid fun w => cr_new p w 92
            cases hh : holdsB l p with
            | false =>
              rw [hh] at HO0
              have HH := Lib.hid HO0
              have PK := Lib.hid (show pickC l m n (tag2 i) (tag2 j) = [] by rw [PK0, hh]; rfl)
              clear hh PK0 HO0
              go_wp2_with fail
              refine (HMT.out _).mono ?_
              rintro e w3 ⟨rfl, hb3⟩
              have hbr : Below wr.heap.size wr w3 := ((Below.refl wr.heap.size wr).alloc (Nat.le_refl _) _).trans (hb3.mono (by simp))
              have HB := Lib.hid (hbr.alloc hbr.size (.cells #[.int .i64 p.x, .int .i64 p.y, .int .i64 p.d] 92))
              have HU3 := HU.out.keep HB.out
              have k0 := HU3.lst
              have CP := CNP.out w3
              have k1 := CP.c0
              have k2 := CP.c1
              have k3 := CP.c2
              have LV := Lib.hid (HV.out.below HU3.below)
              clear x0 x1 x2 hbe hb3 hbr HU3 CP
              go_wp2_with fail
              refine (HH.out _ _ LV.out).mono ?_
              rintro e w4 ⟨rfl, hb4⟩
              have HB4 := Lib.hid (HB.out.trans (hb4.mono HB.out.size))
              clear k0 k1 k2 k3 hb4
              go_wp2
              go_roundw
              case rel =>
                refine ⟨j + 1, by go_num, by omega, ?_, HE.out.below HB4.out, own_below HU.out.lt HB4.out HO.out⟩
                rw [CA.out, PK.out, List.append_nil]
                exact HS.out.keep HB4.out
              case measure => simp [intOf]; omega
            | true =>
              rw [hh] at HO0
              have HH := Lib.hid HO0
              have PK := Lib.hid (show pickC l m n (tag2 i) (tag2 j) = [p] by rw [PK0, hh]; rfl)
              clear hh PK0 HO0
              go_wp2_with fail
              refine (HMT.out _).mono ?_
              rintro e w3 ⟨rfl, hb3⟩
              have hbr : Below wr.heap.size wr w3 := ((Below.refl wr.heap.size wr).alloc (Nat.le_refl _) _).trans (hb3.mono (by simp))
              have HB := Lib.hid (hbr.alloc hbr.size (.cells #[.int .i64 p.x, .int .i64 p.y, .int .i64 p.d] 92))
              have HU3 := HU.out.keep HB.out
              have k0 := HU3.lst
              have CP := CNP.out w3
              have k1 := CP.c0
              have k2 := CP.c1
              have k3 := CP.c2
              have LV := Lib.hid (HV.out.below HU3.below)
              have HCP := Lib.hid CP
              clear x0 x1 x2 hbe hb3 hbr HU3 CP
              go_wp2_with fail
              refine (HH.out _ _ LV.out).mono ?_
              rintro e w4 ⟨rfl, hb4⟩
              have HB4 := Lib.hid (HB.out.trans (hb4.mono HB.out.size))
              have HU4 := Lib.hid (HU.out.keep HB4.out)
              have CP4 := HCP.out.below hb4
              have k0 := HU4.out.cell
              have k1 := CP4.c0
              have k2 := CP4.c1
              have k3 := CP4.c2
              have hbo4 := HU4.out.lt
              have hp4 := CP4.lt
              have SZ : (C ++ crn l m n (2 * i + j)).length ≤ 100000 := by
                have := crn_len l m n (2 * i + j)
                rw [List.length_append]
                omega
              have HSZ := Lib.hid SZ
              have hB4 : Hid (bo + 1 ≤ w4.heap.size) := hbo4
              clear hb4 CP4 SZ
              go_wp2_with (at_builtin; refine Halt.mk ?_)
              unfold Halt
              refine wpList_oc rfl (.tmp 34) (.tmp 36) rfl (bo + 1) u1 (C ++ crn l m n (2 * i + j)) rfl w4 HU4.out.own _ p 1 rfl HSZ.out hB4.out ?_
              intro u2 w5 ho5 hg5 hat5
              have PU := Lib.hid (CorI.push HU4.out HLB.out ho5 hg5 hat5)
              have hr5 : ∀ k, u1.ownBlock = some k → bo + 1 ≤ k := fun k hk => (World.ownsRow.lt HU4.out.own k hk).1
              have hne : some bo ≠ u1.ownBlock := fun e => by have := hr5 bo e.symm; omega
              have k5 : w5.cell? ⟨bo, 0, none⟩ = some u1 := hg5.cell (a := ⟨bo, 0, none⟩) ((HU4.out.keep ((Below.refl _ _).alloc (Nat.le_refl _) _)).cell) hne
              have f5 : w5.frozen? ⟨bo, 0, none⟩ = false := (World.frozen?_of_block (hg5.block bo (by rw [World.size_alloc]; omega) hne)).trans ((HU4.out.keep ((Below.refl _ _).alloc (Nat.le_refl _) _)).frz)
              obtain ⟨g5, cap5, hu2⟩ := Go.Joins.ownsRow_form ho5 (show 0 < ((C ++ crn l m n (2 * i + j)) ++ [p]).length by rw [List.length_append, List.length_singleton]; omega)
              obtain ⟨N5, hN5⟩ : ∃ N, ((C ++ crn l m n (2 * i + j)) ++ [p]).length = N := ⟨_, rfl⟩
              rw [hN5] at hu2
              clear k0 k1 k2 k3 hp4 hr5 hne hg5 ho5 hat5 hN5
              subst hu2
              go_wp2
              go_roundw
              case rel =>
                have kx := PU.out.2
                have hk4 := (keepx_below HU.out.lt HB4.out).trans kx
                have kb := hk4.keep be HE.out.lt HO.out
                have kn := hk4.keep bn HS.out.cp.lt HS.out.nn
                refine ⟨j + 1, by go_num, by omega, ?_, HE.out.same kb.1 hk4.size, kb.2⟩
                rw [CA.out, PK.out, ← List.append_assoc]
                exact ⟨⟨_, PU.out.1⟩, HS.out.kx.trans hk4, HS.out.cp.same kn.1 hk4.size, kn.2⟩
              case measure => simp [intOf]; omega
        · obtain rfl : j = 2 := by omega
          go_wp2
          go_roundw
          case rel => exact ⟨i + 1, by go_num, by omega, HS⟩
          case measure => simp [intOf]; omega
    · obtain rfl : i = 2 := by omega
      go_wp2
      go_end0
      exact ⟨rfl, HS.out.ex, HS.out.kx⟩
theorem corners_some (l : List Ms) (b o cap : Nat) (w : World) (h : MsAt l b o w) (hc : l.length ≤ cap) (hm : cap ≤ 9223372036854775807) (he : ∀ m ∈ l, EdM m) (hl : l.length ≤ 17) :
    Calls Try.prog 34 #[.slice (some ⟨b, o, none⟩) l.length cap] w fun e w' => (∃ u, e = .returned u ∧ OC w.heap.size w' u (corL l)) ∧ Below w.heap.size w w' := by
  have LV : LstAt l (.slice (some ⟨b, o, none⟩) l.length cap) w := .inr ⟨b, o, cap, rfl, hc, hm, h⟩
  have HP := Lib.hid fun W1 (h0 : ∃ u, CorI w w.heap.size (w.heap.size + 1) (.slice (some ⟨b, o, none⟩) l.length cap) u [] W1) => pairs_cor l b o cap W1 ⟨w.heap.size, 0, none⟩ ⟨w.heap.size + 1, 0, none⟩
    (fun acc W => ∃ u, CorI w w.heap.size (w.heap.size + 1) (.slice (some ⟨b, o, none⟩) l.length cap) u (corP l acc) W) (OwnC (w.heap.size + 1)) hl hc hm
    ⟨fun acc W hi => by obtain ⟨u, hi⟩ := hi; exact h.below hi.below, fun acc W ob hi => by
      obtain ⟨u, hi⟩ := hi
      have hb := (Below.refl W.heap.size W).alloc (Nat.le_refl _) ob
      exact ⟨⟨u, hi.keep hb⟩, own_alloc hi ob, fun k hk hn => own_below hi.lt hb hn⟩⟩ h0
    (fun acc m n W hm hn hacc hi => by
      obtain ⟨u, hi⟩ := hi
      refine (cor_fn l _ u m n w W _ _ _ hi (by omega) LV he (he m hm) (he n hn) (by have := corP_len l acc; omega)).mono fun e w' ⟨h1, h2, h3⟩ => ⟨h1, ?_, h3⟩
      have e : corP l (acc ++ [(m, n)]) = corP l acc ++ crn l m n 4 := by unfold corP; rw [List.flatMap_append]; simp
      rw [e]
      exact h2)
  have H0 := Lib.hid (show ∀ t1 t2, ∃ u, CorI w w.heap.size (w.heap.size + 1) (.slice (some ⟨b, o, none⟩) l.length cap) u [] ((w.alloc (.cells #[.slice (some ⟨b, o, none⟩) l.length cap] t1)).alloc (.cells #[.slice none 0 0] t2)) from fun t1 t2 =>
    ⟨.slice none 0 0, ⟨((Below.refl _ _).alloc (Nat.le_refl _) _).alloc (by simp) _, by omega, by omega, by simp, by
      rw [World.cell?_alloc_some _ _ _ (by rw [World.cell?_alloc_at _ _ _ _ rfl]; rfl), World.cell?_alloc_at _ _ _ _ rfl]; rfl, by
      rw [World.cell?_alloc_at _ _ _ _ (by simp)]; rfl, by go_simp, World.ownsRow_nil _ _ _ _⟩⟩)
  clear h he LV
  go_enter Try.func34, Try.ntmps34
  go_wp2_with (go_at_call 51; refine (HP.out _ (H0.out _ _)).mono ?_; rintro e w2 ⟨rfl, u, hi⟩; have hcell := hi.cell; have HI := Lib.hid hi; clear hi)
  go_ret
  exact ⟨⟨u, rfl, (World.ownsRow.mono HI.out.own (by omega))⟩, HI.out.below⟩
theorem corners_nil (w : World) :
    Calls Try.prog 34 #[.slice none 0 0] w fun e w' => (∃ u, e = .returned u ∧ OC w.heap.size w' u (corL [])) ∧ Below w.heap.size w w' := by
  go_enter Try.func34, Try.ntmps34
  go_wp2_with (go_at_call 51; refine (pairs_nil _ _ _).mono ?_; rintro e w2 ⟨rfl, rfl⟩)
  go_ret
  exact ⟨⟨_, rfl, World.ownsRow_nil _ _ _ _⟩, ((Below.refl _ _).alloc (Nat.le_refl _) _).alloc (by simp) _⟩
theorem corners_any (l : List Ms) (v : Value) (w : World) (h : LstAt l v w) (he : ∀ m ∈ l, EdM m) (hl : l.length ≤ 17) :
    Calls Try.prog 34 #[v] w fun e w' => (∃ u, e = .returned u ∧ OC w.heap.size w' u (corL l)) ∧ Below w.heap.size w w' := by
  rcases h with ⟨rfl, rfl⟩ | ⟨b, o, cap, rfl, h2, h3, h4⟩
  · exact corners_nil w
  · exact corners_some l b o cap w h4 h2 h3 he hl
end Go.Proofs.Ytmlopbolekddnaa
