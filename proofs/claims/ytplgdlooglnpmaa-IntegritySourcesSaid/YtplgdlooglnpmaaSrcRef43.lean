/-
  The walk of the reference's Sources of layer 43.
-/
import Derived.Test.YtplgdlooglnpmaaRefSrcPlain
import Derived.Test.YtplgdlooglnpmaaSrc43
import Derived.Test.YtplgdlooglnpmaaHold43
namespace Go.Proofs.Ytplgdlooglnpmaa
set_option linter.unusedVariables false
open Go.RowKit

theorem oi_at {B : Nat} {w : World} {g cap : Nat} {l : List Int} (h : OI B w (.slice (some ⟨g, 0, none⟩) l.length cap) l) : B ≤ g ∧ g < w.heap.size ∧ l.length ≤ cap ∧ (∀ i, i < l.length → w.cell? ⟨g, i, none⟩ = some (.int .i64 (l.getD i 0))) ∧ ∀ j, w.frozen? ⟨g, j, none⟩ = false := by
  rcases oi_cases h with ⟨e, _⟩ | ⟨g', cap', e, h2, h3, h4, h5⟩
  · cases e
  · cases e
    exact ⟨h4, h5.lt, h2, h5.c, fun j => World.ownsRow.frozenAt h j⟩
theorem inC_set (l : List Int) (j : Nat) (x : Int) : inC (l.set j x) = (inC l).set j (.int .i64 x) := by
  unfold inC
  rw [List.map_set]
def SRa (l : List Ms) (w : World) (v s : Value) (wr : World) : Prop := ∃ k : Nat, s = .int .i64 k ∧ k ≤ l.length ∧ ∃ g cap, v = .slice (some ⟨g, 0, none⟩) (refK l k).length cap ∧ Hid (Below w.heap.size w wr) ∧ Hid (OI w.heap.size wr (.slice (some ⟨g, 0, none⟩) (refK l k).length cap) (refK l k))
def SRb (w : World) (out : List Int) (m : Ms) (bm g cap : Nat) (s : Value) (wr : World) : Prop := ∃ i : Nat, s = .int .i64 i ∧ i ≤ out.length ∧ Hid (∀ j, j < i → out.getD j 0 < m.s) ∧ Hid (Below w.heap.size w wr) ∧ Hid (OI w.heap.size wr (.slice (some ⟨g, 0, none⟩) out.length cap) out) ∧ Hid (CopyAt m bm wr)
def SRc (w : World) (out : List Int) (i : Nat) (m : Ms) (bm g N cap : Nat) (s : Value) (wr : World) : Prop := ∃ j : Nat, s = .int .i64 j ∧ i ≤ j ∧ j ≤ out.length ∧ Hid (Below w.heap.size w wr) ∧ Hid (OI w.heap.size wr (.slice (some ⟨g, 0, none⟩) N cap) (shS out j)) ∧ Hid (CopyAt m bm wr)
set_option maxHeartbeats 100000000 in
set_option maxRecDepth 100000 in
theorem srcref_some (l : List Ms) (b o cap : Nat) (w : World) (h : MsAt l b o w) (hc : l.length ≤ cap) (hm : cap ≤ 9223372036854775807) (hl : l.length ≤ 1000) :
    Calls Try.prog 20 #[.slice (some ⟨b, o, none⟩) l.length cap] w fun e w' => (∃ u, e = .returned u ∧ OI w.heap.size w' u (srcL l)) ∧ Below w.heap.size w w' := by
  have H := Lib.hid h
  have hlt := h.lt
  clear h
  go_enter Try.func20, Try.ntmps20
  go_wp2_with fail
  go_loopw [3, 11] (SRa l w) (fun _ i _ => l.length - (intOf i).toNat)
  case atStart => exact ⟨0, rfl, Nat.zero_le _, _, 0, rfl, Lib.hid ((Below.refl _ _).alloc (Nat.le_refl _) _), Lib.hid (World.ownsRow_lit w #[] 0 (Nat.le_refl _) (by decide) rfl)⟩
  case round =>
    obtain ⟨k, rfl, hk, g, cp, rfl, HB, HO⟩ := hrel
    by_cases q : k < l.length
    · have q' : decide (k < l.length) = true := by simpa using q
      have M := H.out.keep HB.out hlt
      have c0 := M.c0 k q
      have c1 := M.c1 k q
      have c2 := M.c2 k q
      have c3 := M.c3 k q
      have c4 := M.c4 k q
      have c5 := M.c5 k q
      have RK := Lib.hid (refK_succ q)
      have lk := Nat.le_trans (refK_len (l := l) (k := k)) hl
      clear M
      generalize nth l k = m at *
      generalize refK l k = out at *
      have CO := Lib.hid (copy_new m wr 36)
      have HB1 := Lib.hid (HB.out.alloc HB.out.size (.cells #[.int .i64 m.s, .int .i64 m.a, .int .i64 m.b, .int .i64 m.z, .int .i64 m.d, .int .i64 m.w] 36))
      have HO1 := Lib.hid (HO.out.below ((Below.refl _ _).alloc (Nat.le_refl _) (.cells #[.int .i64 m.s, .int .i64 m.a, .int .i64 m.b, .int .i64 m.z, .int .i64 m.d, .int .i64 m.w] 36)))
      have NG := Lib.hid (show g ≠ wr.heap.size from fun e => by have := (oi_at HO.out).2.1; omega)
      clear HB HO
      go_wp2_with fail
      generalize wr.heap.size = bm at *
      generalize wr.alloc (.cells #[.int .i64 m.s, .int .i64 m.a, .int .i64 m.b, .int .i64 m.z, .int .i64 m.d, .int .i64 m.w] 36) = wo at *
      clear c0 c1 c2 c3 c4 c5
      go_loopw [6] (SRb w out m bm g cp) (fun i _ => out.length - (intOf i).toNat)
      case atStart => exact ⟨0, rfl, Nat.zero_le _, Lib.hid (fun j hj => absurd hj (by omega)), HB1, HO1, CO⟩
      case round =>
        obtain ⟨i, rfl, hi, HJ, HB, HO, HM⟩ := hrel
        have cm := HM.out
        have y0 := cm.c0
        have yz := cm.lt
        clear cm
        obtain ⟨a1, a2, a3, a4, -⟩ := oi_at HO.out
        have key : (decide (i < out.length) = true ∧ i < out.length ∧ decide (out.getD i 0 < m.s) = true) ∨ ((decide (i < out.length) = true ∧ decide (out.getD i 0 < m.s) = false ∧ ((i : Int) == (out.length : Int)) = false ∧ (out.getD i 0 != m.s) = false) ∧ insI out m.s = out ∧ i < out.length) ∨ (((decide (i < out.length) = true ∧ decide (out.getD i 0 < m.s) = false ∧ ((i : Int) == (out.length : Int)) = false ∧ (out.getD i 0 != m.s) = true ∧ i < out.length) ∨ (decide (i < out.length) = false ∧ ((i : Int) == (out.length : Int)) = true ∧ i = out.length)) ∧ insI out m.s = out.take i ++ m.s :: out.drop i) := by
          by_cases z1 : i < out.length
          · by_cases z2 : out.getD i 0 < m.s
            · exact .inl ⟨by simpa using z1, z1, by simpa using z2⟩
            · have IA := ins_at m.s out i HJ.out hi (.inr z2)
              by_cases z3 : out.getD i 0 = m.s
              · rw [if_neg (by rintro (e | e); omega; exact e z3)] at IA
                exact .inr (.inl ⟨⟨by simpa using z1, by simpa using z2, by rw [beq_eq_false_iff_ne]; omega, by rw [z3]; simp⟩, IA, z1⟩)
              · rw [if_pos (.inr z3)] at IA
                exact .inr (.inr ⟨.inl ⟨by simpa using z1, by simpa using z2, by rw [beq_eq_false_iff_ne]; omega, by simpa using z3, z1⟩, IA⟩)
          · obtain rfl : i = out.length := by omega
            have IA := ins_at m.s out out.length HJ.out (Nat.le_refl _) (.inl rfl)
            rw [if_pos (.inl rfl)] at IA
            exact .inr (.inr ⟨.inr ⟨by simp, by simp, rfl⟩, IA⟩)
        rcases key with ⟨k1, z1, k2⟩ | ⟨⟨k1, k2, k3, k4⟩, IA, z1⟩ | ⟨key, IA⟩
        · have d0 := a4 i z1
          clear a4
          have k2s := Lib.hid k2
          generalize hx : out.getD i 0 = x at *
          have HX := Lib.hid hx
          clear hx
          go_wp2_with fail
          go_quiet (fail)
          go_wp2
          go_roundw
          case rel =>
            have hb := below_drewN (Below.refl wr.heap.size wr) nq
            exact ⟨i + 1, by go_num, by omega, Lib.hid (fun j hj => (Nat.lt_or_ge j i).elim (fun qq => HJ.out j qq) (fun qq => by rw [show j = i by omega, HX.out]; simpa using k2s.out)), Lib.hid (HB.out.trans (hb.mono HB.out.size)), Lib.hid (HO.out.below hb), Lib.hid (HM.out.below hb)⟩
          case measure => simp [intOf]; omega
        · have d0 := a4 i z1
          clear a4
          have HIA := Lib.hid IA
          generalize out.getD i 0 = x at *
          clear IA
          go_wp2_with fail
          go_quiet (fail)
          generalize hnq : nq = nq1 at *
          go_wp2_with fail
          go_quiet (fail)
          go_wp2
          go_roundw
          case rel =>
            have hb := (below_drewN (Below.refl wr.heap.size wr) (nq1 + nq))
            exact ⟨k + 1, by go_num, by omega, g, cp, by rw [RK.out, HIA.out], Lib.hid (HB.out.trans (hb.mono HB.out.size)), by rw [RK.out, HIA.out]; exact Lib.hid (HO.out.below hb)⟩
          case measure => simp [intOf]; omega
        · have HIA := Lib.hid IA
          clear IA
          rcases key with ⟨k1, k2, k3, k4, z1⟩ | ⟨k1, k3, z1⟩
          · have d0 := a4 i z1
            clear a4
            generalize out.getD i 0 = x at *
            go_wp2_with fail
            go_quiet (fail)
            generalize hnq : nq = nq1 at *
            go_wp2_with fail
            go_quiet (fail)
            have hbq : Below wr.heap.size wr (wr.drewN (nq1 + nq)) := below_drewN (Below.refl wr.heap.size wr) _
            have HBq := Lib.hid (HB.out.trans (hbq.mono HB.out.size))
            have HOq := Lib.hid (HO.out.below hbq)
            have HMq := Lib.hid (HM.out.below hbq)
            go_wp2_with (at_builtin; refine Halt.mk ?_)
            unfold Halt
            have HWS : Hid (wr.heap.size = (wr.drewN (nq1 + nq)).heap.size) := Lib.hid rfl
            generalize wr.drewN (nq1 + nq) = wq at *
            clear HB HO HM hbq y0 yz a1 a2 a3
            refine wpList_oi rfl (.tmp 43) (.tmp 44) rfl w.heap.size (.slice (some ⟨g, 0, none⟩) out.length cp) out rfl wq HOq.out _ 0 1 (by rw [← HWS.out]; rfl) (by omega) HBq.out.size ?_
            intro u2 w5 ho5 hg5 hat5
            have HBa := Lib.hid ((Below.refl wq.heap.size wq).alloc (Nat.le_refl _) (.cells #[.int .i64 0] 3))
            have HB5 : Hid (Below w.heap.size w w5) := Lib.hid (below_grown (HBq.out.trans (HBa.out.mono HBq.out.size)) hg5 (by simp; have := HBq.out.size; omega) (fun k hk => (World.ownsRow.lt HOq.out k hk).1))
            have HM5 : Hid (CopyAt m bm w5) := Lib.hid ((HMq.out.below HBa.out).same (hg5.block bm (by rw [World.size_alloc]; have := HMq.out.lt; omega) (fun e => NG.out (Option.some.inj e).symm)) hg5.size)
            obtain ⟨g5, cap5, hu2⟩ := Go.Joins.ownsRow_form ho5 (show 0 < (out ++ [0]).length by rw [List.length_append, List.length_singleton]; omega)
            rw [List.length_append, List.length_singleton] at hu2
            subst hu2
            have NG5 := Lib.hid (show g5 ≠ bm from by rcases hat5 with h | h; exact fun e => NG.out ((Option.some.inj h).symm.trans e); intro e; have h2 : g5 = wq.heap.size + 1 := Option.some.inj h; have := HMq.out.lt; omega)
            have HO5 : Hid (OI w.heap.size w5 (.slice (some ⟨g5, 0, none⟩) (out.length + 1) cap5) (shS out out.length)) := Lib.hid (by rw [shS_top]; exact ho5)
            clear hg5 hat5 ho5
            go_wp2_with fail
            go_loopw [7] (SRc w out i m bm g5 (out.length + 1) cap5) (fun j _ => (intOf j).toNat)
            case atStart => exact ⟨out.length, by go_num, by omega, Nat.le_refl _, HB5, HO5, HM5⟩
            case round =>
              obtain ⟨j, rfl, hij, hj, HB, HO, HM⟩ := hrel
              have OA := HO.out
              rw [← shS_len out j hj] at OA
              obtain ⟨a1, a2, a3, a4, a5⟩ := oi_at OA
              rw [shS_len out j hj] at a4
              by_cases r : i < j
              · obtain ⟨j, rfl⟩ : ∃ j', j = j' + 1 := ⟨j - 1, by omega⟩
                have r' : decide ((i : Int) < (j : Int) + 1) = true := by simpa using (show (i : Int) < (j : Int) + 1 by omega)
                have x0 := a4 j (by omega)
                rw [shS_get out j (by omega)] at x0
                have x1 := a4 (j + 1) (by omega)
                have f1 := a5 (j + 1)
                have z1 : j + 1 < out.length + 1 := by omega
                have z2 : j < out.length + 1 := by omega
                have SS := Lib.hid (shS_set out j (by omega))
                have SL := Lib.hid (shS_len out j (by omega))
                clear a4 a5 OA
                generalize out.getD j 0 = x at *
                generalize (shS out (j + 1)).getD (j + 1) 0 = x' at *
                go_wp2_with fail
                go_roundw
                case rel =>
                  have S1 := World.ownsRow.stored (show wr.ownsRow w.heap.size 3 1 (.slice (some ⟨g5, 0, none⟩) (out.length + 1) cap5) (out.length + 1) (inC (shS out (j + 1))) by have := HO.out; unfold OI at this; rw [shS_len out (j + 1) hj] at this; exact this) (j + 1) (.int .i64 x)
                  refine ⟨j, by go_num, by omega, by omega, Lib.hid (below_grown HB.out S1.2 HB.out.size (fun k hk => by cases hk; exact a1)), Lib.hid ?_, Lib.hid (HM.out.same (S1.2.block bm HM.out.lt (fun e => NG5.out (Option.some.inj e).symm)) S1.2.size)⟩
                  unfold OI
                  rw [SL.out, ← SS.out, inC_set]
                  exact S1.1
                case measure => simp [intOf] <;> omega
              · obtain rfl : j = i := by omega
                have r' : decide ((j : Int) < (j : Int)) = false := by simp
                have cm := HM.out
                have y0 := cm.c0
                have yz := cm.lt
                have x1 := a4 j (by omega)
                have f1 := a5 j
                have z1 : j < out.length + 1 := by omega
                have SI := Lib.hid (shS_ins m.s out j hj)
                clear a4 a5 OA cm
                generalize (shS out j).getD j 0 = x' at *
                go_wp2_with fail
                go_roundw
                case rel =>
                  have S1 := World.ownsRow.stored (show wr.ownsRow w.heap.size 3 1 (.slice (some ⟨g5, 0, none⟩) (out.length + 1) cap5) (out.length + 1) (inC (shS out j)) by have := HO.out; unfold OI at this; rw [shS_len out j hj] at this; exact this) j (.int .i64 m.s)
                  have LN : (insI out m.s).length = out.length + 1 := by rw [HIA.out, ← SI.out, List.length_set, shS_len out j hj]
                  refine ⟨k + 1, by go_num, by omega, g5, cap5, by rw [RK.out, LN], Lib.hid (below_grown HB.out S1.2 HB.out.size (fun k hk => by cases hk; exact a1)), Lib.hid ?_⟩
                  rw [RK.out, LN]
                  unfold OI
                  rw [LN, HIA.out, ← SI.out, inC_set]
                  exact S1.1
                case measure => simp [intOf]; omega
          · clear a4 z1
            go_wp2_with fail
            go_quiet (fail)
            generalize hnq : nq = nq1 at *
            go_wp2_with fail
            go_quiet (fail)
            have hbq : Below wr.heap.size wr (wr.drewN (nq1 + nq)) := below_drewN (Below.refl wr.heap.size wr) _
            have HBq := Lib.hid (HB.out.trans (hbq.mono HB.out.size))
            have HOq := Lib.hid (HO.out.below hbq)
            have HMq := Lib.hid (HM.out.below hbq)
            go_wp2_with (at_builtin; refine Halt.mk ?_)
            unfold Halt
            have HWS : Hid (wr.heap.size = (wr.drewN (nq1 + nq)).heap.size) := Lib.hid rfl
            generalize wr.drewN (nq1 + nq) = wq at *
            clear HB HO HM hbq y0 yz a1 a2 a3
            refine wpList_oi rfl (.tmp 43) (.tmp 44) rfl w.heap.size (.slice (some ⟨g, 0, none⟩) out.length cp) out rfl wq HOq.out _ 0 1 (by rw [← HWS.out]; rfl) (by omega) HBq.out.size ?_
            intro u2 w5 ho5 hg5 hat5
            have HBa := Lib.hid ((Below.refl wq.heap.size wq).alloc (Nat.le_refl _) (.cells #[.int .i64 0] 3))
            have HB5 : Hid (Below w.heap.size w w5) := Lib.hid (below_grown (HBq.out.trans (HBa.out.mono HBq.out.size)) hg5 (by simp; have := HBq.out.size; omega) (fun k hk => (World.ownsRow.lt HOq.out k hk).1))
            have HM5 : Hid (CopyAt m bm w5) := Lib.hid ((HMq.out.below HBa.out).same (hg5.block bm (by rw [World.size_alloc]; have := HMq.out.lt; omega) (fun e => NG.out (Option.some.inj e).symm)) hg5.size)
            obtain ⟨g5, cap5, hu2⟩ := Go.Joins.ownsRow_form ho5 (show 0 < (out ++ [0]).length by rw [List.length_append, List.length_singleton]; omega)
            rw [List.length_append, List.length_singleton] at hu2
            subst hu2
            have NG5 := Lib.hid (show g5 ≠ bm from by rcases hat5 with h | h; exact fun e => NG.out ((Option.some.inj h).symm.trans e); intro e; have h2 : g5 = wq.heap.size + 1 := Option.some.inj h; have := HMq.out.lt; omega)
            have HO5 : Hid (OI w.heap.size w5 (.slice (some ⟨g5, 0, none⟩) (out.length + 1) cap5) (shS out out.length)) := Lib.hid (by rw [shS_top]; exact ho5)
            clear hg5 hat5 ho5
            go_wp2_with fail
            go_loopw [7] (SRc w out i m bm g5 (out.length + 1) cap5) (fun j _ => (intOf j).toNat)
            case atStart => exact ⟨out.length, by go_num, by omega, Nat.le_refl _, HB5, HO5, HM5⟩
            case round =>
              obtain ⟨j, rfl, hij, hj, HB, HO, HM⟩ := hrel
              have OA := HO.out
              rw [← shS_len out j hj] at OA
              obtain ⟨a1, a2, a3, a4, a5⟩ := oi_at OA
              rw [shS_len out j hj] at a4
              by_cases r : i < j
              · obtain ⟨j, rfl⟩ : ∃ j', j = j' + 1 := ⟨j - 1, by omega⟩
                have r' : decide ((i : Int) < (j : Int) + 1) = true := by simpa using (show (i : Int) < (j : Int) + 1 by omega)
                have x0 := a4 j (by omega)
                rw [shS_get out j (by omega)] at x0
                have x1 := a4 (j + 1) (by omega)
                have f1 := a5 (j + 1)
                have z1 : j + 1 < out.length + 1 := by omega
                have z2 : j < out.length + 1 := by omega
                have SS := Lib.hid (shS_set out j (by omega))
                have SL := Lib.hid (shS_len out j (by omega))
                clear a4 a5 OA
                generalize out.getD j 0 = x at *
                generalize (shS out (j + 1)).getD (j + 1) 0 = x' at *
                go_wp2_with fail
                go_roundw
                case rel =>
                  have S1 := World.ownsRow.stored (show wr.ownsRow w.heap.size 3 1 (.slice (some ⟨g5, 0, none⟩) (out.length + 1) cap5) (out.length + 1) (inC (shS out (j + 1))) by have := HO.out; unfold OI at this; rw [shS_len out (j + 1) hj] at this; exact this) (j + 1) (.int .i64 x)
                  refine ⟨j, by go_num, by omega, by omega, Lib.hid (below_grown HB.out S1.2 HB.out.size (fun k hk => by cases hk; exact a1)), Lib.hid ?_, Lib.hid (HM.out.same (S1.2.block bm HM.out.lt (fun e => NG5.out (Option.some.inj e).symm)) S1.2.size)⟩
                  unfold OI
                  rw [SL.out, ← SS.out, inC_set]
                  exact S1.1
                case measure => simp [intOf] <;> omega
              · obtain rfl : j = i := by omega
                have r' : decide ((j : Int) < (j : Int)) = false := by simp
                have cm := HM.out
                have y0 := cm.c0
                have yz := cm.lt
                have x1 := a4 j (by omega)
                have f1 := a5 j
                have z1 : j < out.length + 1 := by omega
                have SI := Lib.hid (shS_ins m.s out j hj)
                clear a4 a5 OA cm
                generalize (shS out j).getD j 0 = x' at *
                go_wp2_with fail
                go_roundw
                case rel =>
                  have S1 := World.ownsRow.stored (show wr.ownsRow w.heap.size 3 1 (.slice (some ⟨g5, 0, none⟩) (out.length + 1) cap5) (out.length + 1) (inC (shS out j)) by have := HO.out; unfold OI at this; rw [shS_len out j hj] at this; exact this) j (.int .i64 m.s)
                  have LN : (insI out m.s).length = out.length + 1 := by rw [HIA.out, ← SI.out, List.length_set, shS_len out j hj]
                  refine ⟨k + 1, by go_num, by omega, g5, cap5, by rw [RK.out, LN], Lib.hid (below_grown HB.out S1.2 HB.out.size (fun k hk => by cases hk; exact a1)), Lib.hid ?_⟩
                  rw [RK.out, LN]
                  unfold OI
                  rw [LN, HIA.out, ← SI.out, inC_set]
                  exact S1.1
                case measure => simp [intOf]; omega
    · obtain rfl : k = l.length := by omega
      go_wp2
      go_ret
      exact ⟨⟨_, rfl, by rw [← refK_eq]; exact HO.out⟩, HB.out⟩
end Go.Proofs.Ytplgdlooglnpmaa
