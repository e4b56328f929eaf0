/-
  The walk of the reference's vertices of layer 44.
-/
import Derived.Test.YtmlopbolekddnaaRef44A
import Derived.Test.YtmlopbolekddnaaExcCor
import Derived.Test.YtmlopbolekddnaaMeasOwn
import Derived.Lib.SmallJoins
namespace Go.Proofs.Ytmlopbolekddnaa
set_option linter.unusedVariables false
open Go.RowKit

/-- a slice of the call's own that holds these corners -/
def OV (B : Nat) (w : World) (v : Value) (l : List Cr) : Prop := w.ownsRow B 98 3 v l.length (crC l)
theorem infoVer : (Try.prog.info? 98).map (fun i => (i.zero, i.size, i.bytes)) = some (some (.agg #[.int .i64 0, .int .i64 0, .int .i64 0]), 3, 24) := by kernel_rfl
theorem wpList_ov {ops : Array Oper} {rest : List Oper} {o : Oper} {a : Act} {Q : Exit → Act → World → Prop} (hgd : o.guard = none) (s x : Operand)
    (ho : o.op = .call { callee := .builtin .append, args := #[s, x], argTypes := #[64, 64] })
    (B : Nat) (v : Value) (l : List Cr) (hs : a.eval s = v) (w0 : World) (h : OV B w0 v l) (T : TypeId) (p : Cr) (c : Nat)
    (hx : a.eval x = .slice (some ⟨w0.heap.size, 0, none⟩) 1 c) (hl : l.length ≤ 100000) (hB : B ≤ w0.heap.size)
    (H : ∀ v' w', OV B w' v' (l ++ [p]) → (w0.alloc (.cells #[.int .i64 p.x, .int .i64 p.y, .int .i64 p.d] T)).grownBy w' v.ownBlock → (v'.ownBlock = v.ownBlock ∨ v'.ownBlock = some (w0.heap.size + 1)) → wpList Try.prog ops Q rest (a.put o.dst v') w') :
    wpList Try.prog ops Q (o :: rest) a (w0.alloc (.cells #[.int .i64 p.x, .int .i64 p.y, .int .i64 p.d] T)) := by
  obtain ⟨i0, hi, hz0, hz1, hz2⟩ := info_parts infoVer
  refine wpList_append_own_at _ hgd s x 64 ho B 98 i0 (.agg #[.int .i64 0, .int .i64 0, .int .i64 0]) 3 24 Try.underlying64 hi hz0 hz1 hz2 rfl (by decide) v l.length (crC l) hs (World.ownsRow.alloc h _) ⟨w0.heap.size, 0, none⟩ 1 c (crC [p]) hx (by rw [crC_len]; rfl) ?_ ?_ (by unfold maxLen; omega) (by omega) (by simp; omega) ?_
  · intro j u hu
    have hadd : (⟨w0.heap.size, 0, none⟩ : Addr).add j = ⟨w0.heap.size, j, none⟩ := by unfold Addr.add; split <;> simp_all
    rw [hadd, World.cell?_alloc_at _ _ _ _ (by rfl)]
    unfold crC at hu
    simpa using hu
  · intro u hu
    unfold crC at hu
    simp only [List.flatMap_cons, List.flatMap_nil, List.append_nil, List.mem_cons, List.not_mem_nil, or_false] at hu
    rcases hu with rfl | rfl | rfl <;> rfl
  · intro v' w' ho' hg _ hat
    refine H v' w' (by unfold OV; rw [List.length_append, crC_append]; exact ho') hg ?_
    simpa using hat
theorem OV.below {B : Nat} {w w' : World} {v : Value} {l : List Cr} (h : OV B w v l) (hb : Below w.heap.size w w') : OV B w' v l := by
  refine World.ownsRow.kept h (grown_of_below hb) ?_
  cases v.ownBlock <;> simp
/-- the four corners in the reference's order -/
def tagS (q : Nat) : Bool := decide (q % 2 ≠ 1)
def tagT (q : Nat) : Bool := decide (¬ 1 < q)
def vrn (R : List Ms) (m n : Ms) (k : Nat) : List Cr := (List.range k).flatMap fun q => pickC R m n (tagS q) (tagT q)
theorem vrn_succ (R : List Ms) (m n : Ms) (k : Nat) : vrn R m n (k + 1) = vrn R m n k ++ pickC R m n (tagS k) (tagT k) := by
  unfold vrn
  rw [List.range_succ, List.flatMap_append]
  simp
theorem vrn_len (R : List Ms) (m n : Ms) (k : Nat) : (vrn R m n k).length ≤ k := by
  induction k with
  | zero => simp [vrn]
  | succ k ih =>
    rw [vrn_succ, List.length_append]
    have := pick_len R m n (tagS k) (tagT k)
    omega
def verP (R : List Ms) (ps : List (Ms × Ms)) : List Cr := ps.flatMap fun p => vrn R p.1 p.2 4
def verL (l : List Ms) : List Cr := verP l (pairsL l)
theorem verP_len (R : List Ms) (ps : List (Ms × Ms)) : (verP R ps).length ≤ 4 * ps.length := by
  unfold verP
  induction ps with
  | nil => simp
  | cons p r ih =>
    simp only [List.flatMap_cons, List.length_append, List.length_cons]
    have := vrn_len R p.1 p.2 4
    omega
theorem mem_vrn {R : List Ms} {m n : Ms} {p : Cr} : p ∈ vrn R m n 4 ↔ p ∈ crn R m n 4 := by
  have e : vrn R m n 4 = pickC R m n true true ++ pickC R m n false true ++ pickC R m n true false ++ pickC R m n false false := by
    rw [vrn_succ, vrn_succ, vrn_succ, vrn_succ]
    rfl
  have e' : crn R m n 4 = pickC R m n false false ++ pickC R m n false true ++ pickC R m n true false ++ pickC R m n true true := by
    rw [crn_succ, crn_succ, crn_succ, crn_succ]
    rfl
  rw [e, e']
  simp only [List.mem_append]
  constructor
  · rintro (((h | h) | h) | h)
    · exact .inr h
    · exact .inl (.inl (.inr h))
    · exact .inl (.inr h)
    · exact .inl (.inl (.inl h))
  · rintro (((h | h) | h) | h)
    · exact .inr h
    · exact .inl (.inl (.inr h))
    · exact .inl (.inr h)
    · exact .inl (.inl (.inl h))
theorem mem_verL {l : List Ms} {p : Cr} : p ∈ verL l ↔ p ∈ corL l := by
  unfold verL verP corL corP
  simp only [List.mem_flatMap, mem_vrn]
theorem verP_app (R : List Ms) (ps : List (Ms × Ms)) (m n : Ms) : verP R (ps ++ [(m, n)]) = verP R ps ++ vrn R m n 4 := by
  unfold verP
  rw [List.flatMap_append]
  simp
theorem any_app (ps : List (Ms × Ms)) (m n : Ms) : (ps ++ [(m, n)]).any crossB = (ps.any crossB || crossB (m, n)) := by
  rw [List.any_append]
  simp
theorem pick_all {R : List Ms} {m n : Ms} {s t : Bool} {p : Cr} {y : Bool} (hp : crossC m n (edgeC m s) (edgeC n t) = p) (hy : y = (crossB (m, n) && R.all (inB p))) : pickC R m n s t = if y = true then [p] else [] := by
  unfold pickC
  rw [hp]
  by_cases h : detM m n = 0
  · have hc : crossB (m, n) = false := by rw [crossB_at]; exact decide_eq_false (fun q => q h)
    rw [if_pos h, hy, hc]
    rfl
  · have hc : crossB (m, n) = true := crossB_iff.2 h
    rw [if_neg h, hy, hc, Bool.true_and]
    rfl
def VR1 (l : List Ms) (w : World) (v r s : Value) (wr : World) : Prop := ∃ i : Nat, s = .int .i64 i ∧ i ≤ l.length ∧ ∃ x : Bool, r = .bool x ∧ Hid (x = (pairsUpto l i).any crossB) ∧ Hid (Below w.heap.size w wr) ∧ Hid (OV w.heap.size wr v (verP l (pairsUpto l i)))
def VR2 (l : List Ms) (w : World) (i bm : Nat) (v r s : Value) (wr : World) : Prop := ∃ j : Nat, s = .int .i64 j ∧ j ≤ i ∧ ∃ x : Bool, r = .bool x ∧ Hid (x = (pairsAt l i j).any crossB) ∧ Hid (Below w.heap.size w wr) ∧ Hid (OV w.heap.size wr v (verP l (pairsAt l i j))) ∧ Hid (CopyAt (nth l i) bm wr) ∧ Hid (v.ownBlock ≠ some bm)
def VR3 (l : List Ms) (w : World) (m n : Ms) (bm bn : Nat) (x0 : Bool) (C : List Cr) (v r s : Value) (wr : World) : Prop := ∃ q : Nat, s = .int .i64 q ∧ q ≤ 4 ∧ ∃ x : Bool, r = .bool x ∧ Hid (x = (x0 || (decide (0 < q) && crossB (m, n)))) ∧ Hid (Below w.heap.size w wr) ∧ Hid (OV w.heap.size wr v (C ++ vrn l m n q)) ∧ Hid (CopyAt m bm wr) ∧ Hid (CopyAt n bn wr) ∧ Hid (v.ownBlock ≠ some bm) ∧ Hid (v.ownBlock ≠ some bn)
def VR4 (l : List Ms) (w : World) (m n : Ms) (bm bn : Nat) (p : Cr) (bp : Nat) (c : Bool) (v : Value) (C : List Cr) (f s : Value) (wr : World) : Prop := ∃ k : Nat, s = .int .i64 k ∧ k ≤ l.length ∧ ∃ y : Bool, f = .bool y ∧ Hid (y = (c && (l.take k).all (inB p))) ∧ Hid (Below w.heap.size w wr) ∧ Hid (OV w.heap.size wr v C) ∧ Hid (CopyAt m bm wr) ∧ Hid (CopyAt n bn wr) ∧ Hid (CrAt p bp wr)
set_option maxHeartbeats 100000000 in
set_option maxRecDepth 100000 in
theorem vertices_some (l : List Ms) (b o cap : Nat) (w : World) (h : MsAt l b o w) (hc : l.length ≤ cap) (hm : cap ≤ 9223372036854775807) (he : ∀ m ∈ l, EdM m) (hl : l.length ≤ 17) :
    Calls Try.prog 42 #[.slice (some ⟨b, o, none⟩) l.length cap] w fun e w' => (∃ u, e = .returned (.tuple #[u, .bool (fullB l)]) ∧ OV w.heap.size w' u (verL l)) ∧ Below w.heap.size w w' := by
  have H := Lib.hid h
  have hlt := h.lt
  have HE := Lib.hid he
  clear h he
  go_enter Try.func42, Try.ntmps42
  go_wp2_with fail
  go_loopw [4, 5, 20] (VR1 l w) (fun _ _ i _ => l.length - (intOf i).toNat)
  case atStart => exact ⟨0, rfl, Nat.zero_le _, false, rfl, Lib.hid rfl, Lib.hid ((Below.refl _ _).alloc (Nat.le_refl _) _), Lib.hid (World.ownsRow_lit w #[] 0 (Nat.le_refl _) (by decide) rfl)⟩
  case round =>
    obtain ⟨i, rfl, hi, x1, rfl, HX, HB, HO⟩ := hrel
    by_cases q : i < l.length
    · have q' : decide (i < l.length) = true := by simpa using q
      have M := H.out.keep HB.out hlt
      have c0 := M.c0 i q
      have c1 := M.c1 i q
      have c2 := M.c2 i q
      have c3 := M.c3 i q
      have c4 := M.c4 i q
      have c5 := M.c5 i q
      have CO := Lib.hid (copy_new (nth l i) wr 50)
      have HB1 := Lib.hid (HB.out.alloc HB.out.size (.cells #[.int .i64 (nth l i).s, .int .i64 (nth l i).a, .int .i64 (nth l i).b, .int .i64 (nth l i).z, .int .i64 (nth l i).d, .int .i64 (nth l i).w] 50))
      have HO1 := Lib.hid (HO.out.below ((Below.refl _ _).alloc (Nat.le_refl _) (.cells #[.int .i64 (nth l i).s, .int .i64 (nth l i).a, .int .i64 (nth l i).b, .int .i64 (nth l i).z, .int .i64 (nth l i).d, .int .i64 (nth l i).w] 50)))
      have NB := Lib.hid (show u4.ownBlock ≠ some wr.heap.size from fun e => by have := (World.ownsRow.lt HO.out _ e).2; omega)
      have EM := Lib.hid (HE.out _ (nth_mem q))
      have LE := Lib.hid fun j => pairsAt_len (l := l) (i := i) (j := j) hl q
      have hic : i ≤ cap := by omega
      clear M HB HO
      go_wp2_with fail
      generalize wr.heap.size = bm at *
      generalize wr.alloc (.cells #[.int .i64 (nth l i).s, .int .i64 (nth l i).a, .int .i64 (nth l i).b, .int .i64 (nth l i).z, .int .i64 (nth l i).d, .int .i64 (nth l i).w] 50) = wo at *
      clear c0 c1 c2 c3 c4 c5
      go_loopw [4, 5, 29] (VR2 l w i bm) (fun _ _ j _ => i - (intOf j).toNat)
      case atStart => exact ⟨0, rfl, Nat.zero_le _, x1, rfl, by rw [pairsAt_zero]; exact HX, HB1, by rw [pairsAt_zero]; exact HO1, CO, NB⟩
      case round =>
        obtain ⟨j, rfl, hj, x2, rfl, HX, HB, HO, HM, NM⟩ := hrel
        by_cases r : j < i
        · have r' : decide (j < i) = true := by simpa using r
          have hjl : j < l.length := by omega
          have M := H.out.keep HB.out hlt
          have c0 := M.c0 j hjl
          have c1 := M.c1 j hjl
          have c2 := M.c2 j hjl
          have c3 := M.c3 j hjl
          have c4 := M.c4 j hjl
          have c5 := M.c5 j hjl
          have CO2 := Lib.hid (copy_new (nth l j) wr 50)
          have HB1 := Lib.hid (HB.out.alloc HB.out.size (.cells #[.int .i64 (nth l j).s, .int .i64 (nth l j).a, .int .i64 (nth l j).b, .int .i64 (nth l j).z, .int .i64 (nth l j).d, .int .i64 (nth l j).w] 50))
          have HO1 := Lib.hid (HO.out.below ((Below.refl _ _).alloc (Nat.le_refl _) (.cells #[.int .i64 (nth l j).s, .int .i64 (nth l j).a, .int .i64 (nth l j).b, .int .i64 (nth l j).z, .int .i64 (nth l j).d, .int .i64 (nth l j).w] 50)))
          have HM1 := Lib.hid (HM.out.below ((Below.refl _ _).alloc (Nat.le_refl _) (.cells #[.int .i64 (nth l j).s, .int .i64 (nth l j).a, .int .i64 (nth l j).b, .int .i64 (nth l j).z, .int .i64 (nth l j).d, .int .i64 (nth l j).w] 50)))
          have NB2 := Lib.hid (show u4.ownBlock ≠ some wr.heap.size from fun e => by have := (World.ownsRow.lt HO.out _ e).2; omega)
          have EN := Lib.hid (HE.out _ (nth_mem hjl))
          have PS := Lib.hid (pairsAt_succ (l := l) (i := i) hjl)
          have LN := Lib.hid (show (verP l (pairsAt l i j)).length ≤ 1300 by have := verP_len l (pairsAt l i j); have := LE.out j; omega)
          clear M HB HO HM
          go_wp2_with fail
          generalize wr.heap.size = bn at *
          generalize wr.alloc (.cells #[.int .i64 (nth l j).s, .int .i64 (nth l j).a, .int .i64 (nth l j).b, .int .i64 (nth l j).z, .int .i64 (nth l j).d, .int .i64 (nth l j).w] 50) = wp at *
          clear c0 c1 c2 c3 c4 c5
          generalize hN : nth l j = n at *
          generalize hMM : nth l i = m at *
          have HNN := Lib.hid hN
          have HMM := Lib.hid hMM
          clear hN hMM
          go_loopw [4, 5, 10] (VR3 l w m n bm bn x2 (verP l (pairsAt l i j))) (fun _ _ q _ => 4 - (intOf q).toNat)
          case atStart => exact ⟨0, rfl, Nat.zero_le _, x2, rfl, Lib.hid (by simp), HB1, by rw [show vrn l m n 0 = [] from rfl, List.append_nil]; exact HO1, HM1, CO2, NM, NB2⟩
          case round =>
            obtain ⟨q, rfl, hq, x3, rfl, HX3, HB, HO, HM, HN, NM3, NN3⟩ := hrel
            by_cases t : q < 4
            · have t' : decide ((q : Int) < 4) = true := by simpa using (show (q : Int) < 4 by omega)
              have xm := HM.out
              have x0_ := xm.c0
              have x1_ := xm.c1
              have x2_ := xm.c2
              have x3_ := xm.c3
              have x4_ := xm.c4
              have x5_ := xm.c5
              have xmz := xm.lt
              have yn := HN.out
              have y0_ := yn.c0
              have y1_ := yn.c1
              have y2_ := yn.c2
              have y3_ := yn.c3
              have y4_ := yn.c4
              have y5_ := yn.c5
              have ynz := yn.lt
              clear xm yn
              have em := EM.out
              have en := EN.out
              have d1 := em.d0
              have d2 := em.d1
              have d3 := em.z0
              have d4 := em.z1
              have d5 := en.d0
              have d6 := en.d1
              have d7 := en.z0
              have d8 := en.z1
              clear em en
              have s1 : IntKind.i64.wrap (m.z + m.d) = m.z + m.d := IntWalk.i64_in _ (by omega)
              have s2 : IntKind.i64.wrap (n.z + n.d) = n.z + n.d := IntWalk.i64_in _ (by omega)
              have s3 : IntKind.i64.wrap (m.z - m.d) = m.z - m.d := IntWalk.i64_in _ (by omega)
              have s4 : IntKind.i64.wrap (n.z - n.d) = n.z - n.d := IntWalk.i64_in _ (by omega)
              clear d1 d2 d3 d4 d5 d6 d7 d8
              have VS := Lib.hid (vrn_succ l m n q)
              have VL := Lib.hid (show (verP l (pairsAt l i j) ++ vrn l m n q).length ≤ 100000 by have := vrn_len l m n q; rw [List.length_append]; have := LN.out; omega)
              have CX := Lib.hid fun W => crossing_ref m n (edgeC m (tagS q)) (edgeC n (tagT q)) W EM.out EN.out (edge_sm EM.out _) (edge_sm EN.out _)
              have SP := cross_sm EM.out EN.out (edge_sm EM.out (tagS q)) (edge_sm EN.out (tagT q))
              have PK := fun y => pick_all (R := l) (m := m) (n := n) (s := tagS q) (t := tagT q) (y := y) rfl
              generalize crossC m n (edgeC m (tagS q)) (edgeC n (tagT q)) = p at *
              generalize hcB : crossB (m, n) = cB at *
              have HCB := Lib.hid hcB
              clear hcB
              obtain ⟨c9, hc9⟩ : ∃ c9, cB = c9 := ⟨_, rfl⟩
              have HC9 := Lib.hid hc9
              have PK9 : ∀ y, y = (c9 && l.all (inB p)) → pickC l m n (tagS q) (tagT q) = if y = true then [p] else [] := by rw [← hc9]; exact PK
              have HP9 := Lib.hid PK9
              clear hc9 PK9
              have HSP := Lib.hid SP
              clear SP PK
              have k1 : (((q : Int) % 2 == 1) = true ∧ edgeC m (tagS q) = m.z - m.d) ∨ (((q : Int) % 2 == 1) = false ∧ edgeC m (tagS q) = m.z + m.d) := by
                by_cases z : q % 2 = 1
                · left; refine ⟨by simpa using (show (q : Int) % 2 = 1 by omega), ?_⟩; unfold edgeC tagS; simp [z]
                · right; refine ⟨by simpa using (show ¬ (q : Int) % 2 = 1 by omega), ?_⟩; unfold edgeC tagS; simp [z]
              have k2 : (decide ((1 : Int) < q) = true ∧ edgeC n (tagT q) = n.z - n.d) ∨ (decide ((1 : Int) < q) = false ∧ edgeC n (tagT q) = n.z + n.d) := by
                by_cases z : 1 < q
                · left; refine ⟨by simpa using (show (1 : Int) < q by omega), ?_⟩; unfold edgeC tagT; simp [z]
                · right; refine ⟨by simpa using (show ¬ (1 : Int) < q by omega), ?_⟩; unfold edgeC tagT; simp [z]
              rcases k1 with ⟨g1, e1⟩ | ⟨g1, e1⟩ <;> rcases k2 with ⟨g2, e2⟩ | ⟨g2, e2⟩
              all_goals
                rw [e1, e2] at CX
                clear e1 e2
                go_wp2_with fail
                go_quiet (fail)
                go_wp2_with fail
                refine (CX.out _).mono ?_
                rintro e w2 ⟨rfl, hb2⟩
                have hbr : Below wr.heap.size wr w2 := (below_drewN (Below.refl wr.heap.size wr) _).trans hb2
                have HBp := Lib.hid (hbr.alloc hbr.size (.cells #[.int .i64 p.x, .int .i64 p.y, .int .i64 p.d] 98))
                have HB3 := Lib.hid (HB.out.trans (HBp.out.mono HB.out.size))
                have HO3 := Lib.hid (HO.out.below HBp.out)
                have HM3 := Lib.hid (HM.out.below HBp.out)
                have HN3 := Lib.hid (HN.out.below HBp.out)
                have HP3 := Lib.hid (cr_new p w2 98)
                clear s1 s2 s3 s4 hb2 hbr x0_ x1_ x2_ x3_ x4_ x5_ xmz y0_ y1_ y2_ y3_ y4_ y5_ ynz HB HO HM HN
                cases cB <;> cases x3
                all_goals
                  go_wp2_with fail
                  generalize w2.alloc (.cells #[.int .i64 p.x, .int .i64 p.y, .int .i64 p.d] 98) = w3 at *
                  generalize w2.heap.size = bp at *
                  go_loopw [14, 76] (VR4 l w m n bm bn p bp c9 u4 (verP l (pairsAt l i j) ++ vrn l m n q)) (fun _ k _ => l.length - (intOf k).toNat)
                  case atStart => exact ⟨0, rfl, Nat.zero_le _, _, rfl, Lib.hid (by rw [← HC9.out]; rfl), HB3, HO3, HM3, HN3, HP3⟩
                  case round =>
                    obtain ⟨k, rfl, hk, y, rfl, HY, HB4, HO4, HM4, HN4, HP4⟩ := hrel
                    have vp := HP4.out
                    have z0 := vp.c0
                    have z1 := vp.c1
                    have z2 := vp.c2
                    have zz := vp.lt
                    clear vp
                    by_cases u : k < l.length
                    · have u' : decide (k < l.length) = true := by simpa using u
                      have M := H.out.keep HB4.out hlt
                      have c0 := M.c0 k u
                      have c1 := M.c1 k u
                      have c2 := M.c2 k u
                      have c3 := M.c3 k u
                      have c4 := M.c4 k u
                      have c5 := M.c5 k u
                      have MT := Lib.hid fun W => meets_ref (nth l k) p W (HE.out _ (nth_mem u)) HSP.out
                      have AL := Lib.hid (show (l.take (k + 1)).all (inB p) = ((l.take k).all (inB p) && inB p (nth l k)) by rw [take_nth u, List.all_append]; simp)
                      clear M
                      cases y with
                      | false =>
                        have HK5 := Lib.hid ((Below.refl wr.heap.size wr).alloc (Nat.le_refl _) (.cells #[.int .i64 (nth l k).s, .int .i64 (nth l k).a, .int .i64 (nth l k).b, .int .i64 (nth l k).z, .int .i64 (nth l k).d, .int .i64 (nth l k).w] 50))
                        go_wp2
                        go_roundw
                        case rel => exact ⟨k + 1, by go_num, by omega, _, rfl, Lib.hid (by have h := HY.out; rw [AL.out]; revert h; cases c9 <;> cases (l.take k).all (inB p) <;> simp), Lib.hid (HB4.out.trans (HK5.out.mono HB4.out.size)), Lib.hid (HO4.out.below HK5.out), Lib.hid (HM4.out.below HK5.out), Lib.hid (HN4.out.below HK5.out), Lib.hid (HP4.out.below HK5.out)⟩
                        case measure => simp [intOf]; omega
                      | true =>
                        go_wp2_with fail
                        refine (MT.out _).mono ?_
                        rintro e w5 ⟨rfl, hb5⟩
                        have HK5 := Lib.hid (((Below.refl wr.heap.size wr).alloc (Nat.le_refl _) (.cells #[.int .i64 (nth l k).s, .int .i64 (nth l k).a, .int .i64 (nth l k).b, .int .i64 (nth l k).z, .int .i64 (nth l k).d, .int .i64 (nth l k).w] 50)).trans (hb5.mono (by simp)))
                        generalize hib : inB p (nth l k) = ib at *
                        have AL2 := Lib.hid AL.out
                        clear hb5
                        go_wp2
                        go_roundw
                        case rel => exact ⟨k + 1, by go_num, by omega, _, rfl, Lib.hid (by have h := HY.out; rw [AL2.out]; revert h; cases c9 <;> cases (l.take k).all (inB p) <;> cases ib <;> simp), Lib.hid (HB4.out.trans (HK5.out.mono HB4.out.size)), Lib.hid (HO4.out.below HK5.out), Lib.hid (HM4.out.below HK5.out), Lib.hid (HN4.out.below HK5.out), Lib.hid (HP4.out.below HK5.out)⟩
                        case measure => simp [intOf]; omega
                    · obtain rfl : k = l.length := by omega
                      have FY := Lib.hid (show y = (c9 && l.all (inB p)) by have h := HY.out; rwa [List.take_length] at h)
                      have PKY := HP9.out y
                      cases y with
                      | false =>
                        have PE := Lib.hid (PKY FY.out)
                        clear PKY
                        go_wp2
                        go_roundw
                        case rel => exact ⟨q + 1, by go_num, by omega, _, rfl, Lib.hid (by have h := HX3.out; have c := HCB.out; rw [c]; revert h; cases x2 <;> simp), HB4, by rw [VS.out, PE.out]; simpa using HO4, HM4, HN4, NM3, NN3⟩
                        case measure => simp [intOf]; omega
                      | true =>
                        have PE := Lib.hid (PKY FY.out)
                        clear PKY
                        go_wp2_with (at_builtin; refine Halt.mk ?_)
                        unfold Halt
                        refine wpList_ov rfl (.tmp 88) (.tmp 90) rfl w.heap.size u4 (verP l (pairsAt l i j) ++ vrn l m n q) rfl wr HO4.out _ p 1 rfl VL.out HB4.out.size ?_
                        intro u2 w5 ho5 hg5 hat5
                        have HBa := Lib.hid ((Below.refl wr.heap.size wr).alloc (Nat.le_refl _) (.cells #[.int .i64 p.x, .int .i64 p.y, .int .i64 p.d] 98))
                        have HB5 : Hid (Below w.heap.size w w5) := Lib.hid (below_grown (HB4.out.trans (HBa.out.mono HB4.out.size)) hg5 (by simp; have := HB4.out.size; omega) (fun k hk => (World.ownsRow.lt HO4.out k hk).1))
                        have HM5 : Hid (CopyAt m bm w5) := Lib.hid ((HM4.out.below HBa.out).same (hg5.block bm (by rw [World.size_alloc]; have := HM4.out.lt; omega) (fun e => NM3.out e.symm)) hg5.size)
                        have HN5 : Hid (CopyAt n bn w5) := Lib.hid ((HN4.out.below HBa.out).same (hg5.block bn (by rw [World.size_alloc]; have := HN4.out.lt; omega) (fun e => NN3.out e.symm)) hg5.size)
                        have NM5 : Hid (u2.ownBlock ≠ some bm) := Lib.hid (by rcases hat5 with h | h <;> rw [h]; exact NM3.out; intro e; injection e with e; have := HM4.out.lt; omega)
                        have NN5 : Hid (u2.ownBlock ≠ some bn) := Lib.hid (by rcases hat5 with h | h <;> rw [h]; exact NN3.out; intro e; injection e with e; have := HN4.out.lt; omega)
                        have HO5 : Hid (OV w.heap.size w5 u2 (verP l (pairsAt l i j) ++ vrn l m n (q + 1))) := Lib.hid (by rw [VS.out, PE.out, ← List.append_assoc]; exact ho5)
                        obtain ⟨g5, cap5, hu2⟩ := Go.Joins.ownsRow_form ho5 (show 0 < ((verP l (pairsAt l i j) ++ vrn l m n q) ++ [p]).length by rw [List.length_append, List.length_singleton]; omega)
                        obtain ⟨N5, hN5⟩ : ∃ N, ((verP l (pairsAt l i j) ++ vrn l m n q) ++ [p]).length = N := ⟨_, rfl⟩
                        rw [hN5] at hu2
                        clear hg5 hat5 ho5 hN5 z0 z1 z2 zz
                        subst hu2
                        go_wp2
                        go_roundw
                        case rel => exact ⟨q + 1, by go_num, by omega, _, rfl, Lib.hid (by have h := HX3.out; have c := HCB.out; rw [c]; revert h; cases x2 <;> simp), HB5, HO5, HM5, HN5, NM5, NN5⟩
                        case measure => simp [intOf]; omega
            · obtain rfl : q = 4 := by omega
              have hm := HMM.out
              have hn := HNN.out
              clear HMM HNN
              subst hm
              subst hn
              have VA := Lib.hid (verP_app l (pairsAt l i j) (nth l i) (nth l j))
              have AA := Lib.hid (any_app (pairsAt l i j) (nth l i) (nth l j))
              go_wp2
              go_roundw
              case rel => exact ⟨j + 1, by go_num, by omega, _, rfl, Lib.hid (by have h := HX3.out; rw [PS.out, AA.out, ← HX.out]; revert h; simp), HB, by rw [PS.out, VA.out]; exact HO, HM, NM3⟩
              case measure => simp [intOf]; omega
        · obtain rfl : j = i := by omega
          have PF := Lib.hid (pairsAt_full l j)
          go_wp2
          go_roundw
          case rel => exact ⟨j + 1, by go_num, by omega, _, rfl, by rw [← PF.out]; exact HX, HB, by rw [← PF.out]; exact HO⟩
          case measure => simp [intOf]; omega
    · obtain rfl : i = l.length := by omega
      go_wp2
      go_ret2
      exact ⟨⟨_, by rw [HX.out]; rfl, HO.out⟩, HB.out⟩
end Go.Proofs.Ytmlopbolekddnaa
