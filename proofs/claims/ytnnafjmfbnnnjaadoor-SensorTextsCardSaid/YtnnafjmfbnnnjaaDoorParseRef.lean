/-
  The walk of the reference's Parse.
-/
import Derived.Test.YtnnafjmfbnnnjaaDoorParseWalk
import Derived.Test.YtnnafjmfbnnnjaaDoorFields41
import Derived.StillTailTactics
import Derived.Deep.RegionHeld3
namespace Go.Proofs.YtnnafjmfbnnnjaaDoor
set_option linter.unusedVariables false
open Go.RowKit Tr Sq

/-- a slice of the call's own that holds these numbers -/
def OI (B : Nat) (w : World) (v : Value) (l : List Int) : Prop := w.ownsRow B 2 1 v l.length (l.map (Value.int .i64))
theorem infoI64 : (Tryd.prog.info? 2).map (fun i => (i.zero, i.size, i.bytes)) = some (some (.int .i64 0), 1, 8) := by kernel_rfl
theorem wpList_oi {ops : Array Oper} {rest : List Oper} {o : Oper} {a : Act} {Q : Exit → Act → World → Prop} (hgd : o.guard = none) (s x : Operand)
    (ho : o.op = .call { callee := .builtin .append, args := #[s, x], argTypes := #[76, 76] })
    (B : Nat) (v : Value) (l : List Int) (hs : a.eval s = v) (w0 : World) (h : OI B w0 v l) (T : TypeId) (t : Int) (c : Nat)
    (hx : a.eval x = .slice (some ⟨w0.heap.size, 0, none⟩) 1 c) (hl : l.length ≤ 100000) (hB : B ≤ w0.heap.size)
    (H : ∀ v' w', OI B w' v' (l ++ [t]) → Below B w0 w' → wpList Tryd.prog ops Q rest (a.put o.dst v') w') : wpList Tryd.prog ops Q (o :: rest) a (w0.alloc (.cells #[.int .i64 t] T)) := by
  obtain ⟨i0, hi, hz0, hz1, hz2⟩ := info_parts infoI64
  refine wpList_append_own _ hgd s x 76 ho B 2 i0 (.int .i64 0) 1 8 Tryd.underlying76 hi hz0 hz1 hz2 rfl (by decide) v l.length (l.map (Value.int .i64)) hs (World.ownsRow.alloc h _) ⟨w0.heap.size, 0, none⟩ 1 c [.int .i64 t] hx rfl ?_ ?_ (by unfold maxLen; omega) (by omega) (by simp; omega) ?_
  · intro j u hu
    have hj : j = 0 := by
      cases j with
      | zero => rfl
      | succ j => simp at hu
    subst hj
    have hadd : (⟨w0.heap.size, 0, none⟩ : Addr).add 0 = ⟨w0.heap.size, 0, none⟩ := by unfold Addr.add; split <;> simp_all
    rw [hadd, World.cell?_alloc_at _ _ _ _ (by rfl)]
    simpa using hu
  · intro u hu
    simp only [List.mem_cons, List.not_mem_nil, or_false] at hu
    subst hu; rfl
  · intro v' w' ho' hg _
    refine H v' w' ?_ ?_
    · unfold OI
      rw [List.length_append, List.map_append]
      exact ho'
    · refine (((Below.refl B w0).alloc hB (.cells #[.int .i64 t] T))).grown hg (by simp; omega) ?_
      intro q hq
      exact (World.ownsRow.lt h q hq).1
theorem own_cells {B : Nat} {w : World} {T : TypeId} {v : Value} {xs : List Value} {n : Nat} (h : w.ownsRow B T 1 v n xs) (hn : 0 < n) :
    ∃ g cap, v = .slice (some ⟨g, 0, none⟩) n cap ∧ n ≤ cap ∧ B ≤ g ∧ g < w.heap.size ∧ ∀ j u, xs[j]? = some u → w.cell? ⟨g, j, none⟩ = some u := by
  obtain ⟨g, cap, rfl⟩ := Go.Joins.ownsRow_form h hn
  refine ⟨g, cap, rfl, ?_, (World.ownsRow.lt h g rfl).1, (World.ownsRow.lt h g rfl).2, fun j u hu => ?_⟩
  · rcases h.2 with ⟨h', _⟩ | ⟨g', cap', cur, h', _, _, hc, _⟩
    · simp at h'
    · simp only [Value.slice.injEq, Option.some.injEq, Addr.mk.injEq, and_true, true_and] at h'
      rw [h'.2]; exact hc
  · have := World.ownsRow.cells h rfl j u hu
    have hadd : (⟨g, 0, none⟩ : Addr).add j = ⟨g, j, none⟩ := by unfold Addr.add; split <;> simp_all
    rwa [hadd] at this
theorem pF_other {f0 f1 f2 f3 f4 f5 f6 f7 : List UInt8} (h1 : f1 ≠ [80]) (h2 : f1 ≠ [82]) (h3 : f1 ≠ [66]) : pF [f0, f1, f2, f3, f4, f5, f6, f7] = (rp0, 4) := by
  by_cases h : f1.length = 1
  · match f1, h with
    | [c], _ =>
      rw [pF_pK]
      unfold pK
      rw [if_pos]
      unfold kindC
      rw [if_neg (fun e => h1 (by rw [e])), if_neg (fun e => h2 (by rw [e])), if_neg (fun e => h3 (by rw [e]))]
  · exact pF_kind h
theorem pF_bad {f0 f1 f2 f3 f4 f5 f6 f7 : List UInt8} (h : okNums f0 f2 f3 f4 f5 f6 f7 = false) : pF [f0, f1, f2, f3, f4, f5, f6, f7] = (rp0, 4) := by
  by_cases hl : f1.length = 1
  · match f1, hl with
    | [c], _ =>
      rw [pF_pK]
      unfold pK
      split
      · rfl
      · rw [if_neg (by rw [h]; decide)]
  · exact pF_kind hl
theorem pF_good {c : UInt8} {f0 f2 f3 f4 f5 f6 f7 : List UInt8} (hk : kindC c ≠ 0) (h : okNums f0 f2 f3 f4 f5 f6 f7 = true) : pF [f0, [c], f2, f3, f4, f5, f6, f7] = checkedF ⟨(numF f0).1, kindC c, (numF f2).1, (numF f3).1, (numF f4).1, (numF f5).1, (numF f6).1, (numF f7).1⟩ := by
  rw [pF_pK]; unfold pK; rw [if_neg hk, if_pos h]
set_option maxHeartbeats 2000000 in
set_option maxRecDepth 100000 in
theorem parseref_len (s : ByteArray) (w : World) (hs : s.size ≤ 1000) (h : (fieldsL s.data.toList).length ≠ 8) :
    Calls Tryd.prog 31 #[.string s] w (RetP (parse41 s.data.toList) w) := by
  have E := Lib.hid (show parse41 s.data.toList = (rp0, 4) from pF_len h)
  have hp : 0 < (fieldsL s.data.toList).length := by unfold fieldsL; simp
  go_enter Tryd.func31, Tryd.ntmps31
  go_wp2_with fail
  refine (fields_ref s _ hs).mono ?_
  rintro e w2 ⟨v2, rfl, hos, hb2⟩
  have D := (blk8_one w 0 0 0 0 0 0 0 0 26).keep hb2 (by simp)
  have HB := Lib.hid (below_box hb2)
  have hz : w.heap.size < w2.heap.size := by have := hb2.size; simp at this; omega
  obtain ⟨g, cap, rfl, -, -, -, -⟩ := own_cells hos hp
  obtain ⟨n, hn⟩ : ∃ n, (fieldsL s.data.toList).length = n := ⟨_, rfl⟩
  rw [hn] at h ⊢
  have g1 : ((n : Int) == 8) = false := by simp; omega
  have g2 : ((n : Int) != 8) = true := by simp; omega
  clear hos hb2 h hn hp
  obtain ⟨⟨d0, d1, d2, d3, d4, d5, d6, d7⟩, e0, e1, e2, e3, e4, e5, e6, e7⟩ := D
  go_wp2
  exact bodyPost_ret (v := .tuple #[.agg #[.int .i64 0, .int .u8 0, .int .i64 0, .int .i64 0, .int .i64 0, .int .i64 0, .int .i64 0, .int .i64 0], .int .i64 4]) (by simp [results, Tryd.results31, go_sem, d0, d1, d2, d3, d4, d5, d6, d7]) rfl ⟨by rw [E.out]; rfl, by repeat (first | with_reducible exact HB.out | with_reducible refine Below.setCell ?_ (by simp) _)⟩
def PrR (w2 : World) (o0 o2 o3 o4 o5 o6 o7 : Bool) (x0 x2 x3 x4 x5 x6 x7 : Int) (v i : Value) (w' : World) : Prop := (i = .int .i64 0 ∧ (True) ∧ OI w2.heap.size w' v [] ∧ Below w2.heap.size w2 w') ∨ (i = .int .i64 1 ∧ (o0 = true) ∧ OI w2.heap.size w' v [x0] ∧ Below w2.heap.size w2 w') ∨ (i = .int .i64 2 ∧ (o0 = true) ∧ OI w2.heap.size w' v [x0] ∧ Below w2.heap.size w2 w') ∨ (i = .int .i64 3 ∧ (o0 = true ∧ o2 = true) ∧ OI w2.heap.size w' v [x0, x2] ∧ Below w2.heap.size w2 w') ∨ (i = .int .i64 4 ∧ (o0 = true ∧ o2 = true ∧ o3 = true) ∧ OI w2.heap.size w' v [x0, x2, x3] ∧ Below w2.heap.size w2 w') ∨ (i = .int .i64 5 ∧ (o0 = true ∧ o2 = true ∧ o3 = true ∧ o4 = true) ∧ OI w2.heap.size w' v [x0, x2, x3, x4] ∧ Below w2.heap.size w2 w') ∨ (i = .int .i64 6 ∧ (o0 = true ∧ o2 = true ∧ o3 = true ∧ o4 = true ∧ o5 = true) ∧ OI w2.heap.size w' v [x0, x2, x3, x4, x5] ∧ Below w2.heap.size w2 w') ∨ (i = .int .i64 7 ∧ (o0 = true ∧ o2 = true ∧ o3 = true ∧ o4 = true ∧ o5 = true ∧ o6 = true) ∧ OI w2.heap.size w' v [x0, x2, x3, x4, x5, x6] ∧ Below w2.heap.size w2 w') ∨ (i = .int .i64 8 ∧ (o0 = true ∧ o2 = true ∧ o3 = true ∧ o4 = true ∧ o5 = true ∧ o6 = true ∧ o7 = true) ∧ OI w2.heap.size w' v [x0, x2, x3, x4, x5, x6, x7] ∧ Below w2.heap.size w2 w')
set_option maxHeartbeats 4000000 in
set_option maxRecDepth 100000 in
theorem parseref_eight (s : ByteArray) (f0 f1 f2 f3 f4 f5 f6 f7 : List UInt8) (w : World) (hs : s.size ≤ 1000) (hF : fieldsL s.data.toList = [f0, f1, f2, f3, f4, f5, f6, f7])
    (hsz : f0.length ≤ 4294967280 ∧ f2.length ≤ 4294967280 ∧ f3.length ≤ 4294967280 ∧ f4.length ≤ 4294967280 ∧ f5.length ≤ 4294967280 ∧ f6.length ≤ 4294967280 ∧ f7.length ≤ 4294967280) :
    Calls Tryd.prog 31 #[.string s] w (RetP (parse41 s.data.toList) w) := by
  have hP : parse41 s.data.toList = pF [f0, f1, f2, f3, f4, f5, f6, f7] := by unfold parse41; rw [hF]
  obtain ⟨z0, z2, z3, z4, z5, z6, z7⟩ := hsz
  have BAD0 := fun h : okNums f0 f2 f3 f4 f5 f6 f7 = false => hP.trans (pF_bad (f1 := f1) h)
  have OTH := Lib.hid (fun h1 h2 h3 => hP.trans (pF_other (f0 := f0) (f1 := f1) (f2 := f2) (f3 := f3) (f4 := f4) (f5 := f5) (f6 := f6) (f7 := f7) h1 h2 h3))
  have GOOD0 := fun (c : UInt8) (hc : f1 = [c]) (hk : kindC c ≠ 0) (h : okNums f0 f2 f3 f4 f5 f6 f7 = true) => show parse41 s.data.toList = checkedF ⟨(numF f0).1, kindC c, (numF f2).1, (numF f3).1, (numF f4).1, (numF f5).1, (numF f6).1, (numF f7).1⟩ from hP.trans (by rw [hc]; exact pF_good hk h)
  obtain ⟨g0, hg0⟩ : ∃ g : ByteArray, (⟨f0.toArray⟩ : ByteArray) = g := ⟨_, rfl⟩
  have hgl0 : g0.data.toList = f0 := by rw [← hg0]
  have N0 := Lib.hid (fun w => number_ref g0 w (by rw [← len_data, hgl0]; exact z0))
  have nb0 := numF_bd f0
  rw [hgl0] at N0
  obtain ⟨g2, hg2⟩ : ∃ g : ByteArray, (⟨f2.toArray⟩ : ByteArray) = g := ⟨_, rfl⟩
  have hgl2 : g2.data.toList = f2 := by rw [← hg2]
  have N2 := Lib.hid (fun w => number_ref g2 w (by rw [← len_data, hgl2]; exact z2))
  have nb2 := numF_bd f2
  rw [hgl2] at N2
  obtain ⟨g3, hg3⟩ : ∃ g : ByteArray, (⟨f3.toArray⟩ : ByteArray) = g := ⟨_, rfl⟩
  have hgl3 : g3.data.toList = f3 := by rw [← hg3]
  have N3 := Lib.hid (fun w => number_ref g3 w (by rw [← len_data, hgl3]; exact z3))
  have nb3 := numF_bd f3
  rw [hgl3] at N3
  obtain ⟨g4, hg4⟩ : ∃ g : ByteArray, (⟨f4.toArray⟩ : ByteArray) = g := ⟨_, rfl⟩
  have hgl4 : g4.data.toList = f4 := by rw [← hg4]
  have N4 := Lib.hid (fun w => number_ref g4 w (by rw [← len_data, hgl4]; exact z4))
  have nb4 := numF_bd f4
  rw [hgl4] at N4
  obtain ⟨g5, hg5⟩ : ∃ g : ByteArray, (⟨f5.toArray⟩ : ByteArray) = g := ⟨_, rfl⟩
  have hgl5 : g5.data.toList = f5 := by rw [← hg5]
  have N5 := Lib.hid (fun w => number_ref g5 w (by rw [← len_data, hgl5]; exact z5))
  have nb5 := numF_bd f5
  rw [hgl5] at N5
  obtain ⟨g6, hg6⟩ : ∃ g : ByteArray, (⟨f6.toArray⟩ : ByteArray) = g := ⟨_, rfl⟩
  have hgl6 : g6.data.toList = f6 := by rw [← hg6]
  have N6 := Lib.hid (fun w => number_ref g6 w (by rw [← len_data, hgl6]; exact z6))
  have nb6 := numF_bd f6
  rw [hgl6] at N6
  obtain ⟨g7, hg7⟩ : ∃ g : ByteArray, (⟨f7.toArray⟩ : ByteArray) = g := ⟨_, rfl⟩
  have hgl7 : g7.data.toList = f7 := by rw [← hg7]
  have N7 := Lib.hid (fun w => number_ref g7 w (by rw [← len_data, hgl7]; exact z7))
  have nb7 := numF_bd f7
  rw [hgl7] at N7
  unfold okNums at BAD0 GOOD0
  generalize numF f0 = p0 at *
  obtain ⟨x0, o0⟩ := p0
  generalize numF f2 = p2 at *
  obtain ⟨x2, o2⟩ := p2
  generalize numF f3 = p3 at *
  obtain ⟨x3, o3⟩ := p3
  generalize numF f4 = p4 at *
  obtain ⟨x4, o4⟩ := p4
  generalize numF f5 = p5 at *
  obtain ⟨x5, o5⟩ := p5
  generalize numF f6 = p6 at *
  obtain ⟨x6, o6⟩ := p6
  generalize numF f7 = p7 at *
  obtain ⟨x7, o7⟩ := p7
  simp only at nb0 nb2 nb3 nb4 nb5 nb6 nb7 BAD0 GOOD0
  obtain ⟨m0, M0⟩ := nb0
  obtain ⟨m2, M2⟩ := nb2
  obtain ⟨m3, M3⟩ := nb3
  obtain ⟨m4, M4⟩ := nb4
  obtain ⟨m5, M5⟩ := nb5
  obtain ⟨m6, M6⟩ := nb6
  obtain ⟨m7, M7⟩ := nb7
  have BAD := Lib.hid BAD0
  have GOOD := Lib.hid GOOD0
  clear BAD0 GOOD0 hP
  go_enter Tryd.func31, Tryd.ntmps31
  go_wp2_with fail
  refine (fields_ref s _ hs).mono ?_
  rintro e w2 ⟨v2, rfl, hos, hb2⟩
  have D := (blk8_one w 0 0 0 0 0 0 0 0 26).keep hb2 (by simp)
  have HB := Lib.hid (below_box hb2)
  have hz : w.heap.size < w2.heap.size := by have := hb2.size; simp at this; omega
  rw [hF] at hos
  obtain ⟨gb, cap, rfl, hcap, -, hgb, hcell⟩ := own_cells hos (by simp)
  have s0 : w2.cell? ⟨gb, 0, none⟩ = some (.string g0) := by rw [← hg0]; exact hcell 0 _ rfl
  have s1 : w2.cell? ⟨gb, 1, none⟩ = some (.string ⟨f1.toArray⟩) := hcell 1 _ rfl
  have s2 : w2.cell? ⟨gb, 2, none⟩ = some (.string g2) := by rw [← hg2]; exact hcell 2 _ rfl
  have s3 : w2.cell? ⟨gb, 3, none⟩ = some (.string g3) := by rw [← hg3]; exact hcell 3 _ rfl
  have s4 : w2.cell? ⟨gb, 4, none⟩ = some (.string g4) := by rw [← hg4]; exact hcell 4 _ rfl
  have s5 : w2.cell? ⟨gb, 5, none⟩ = some (.string g5) := by rw [← hg5]; exact hcell 5 _ rfl
  have s6 : w2.cell? ⟨gb, 6, none⟩ = some (.string g6) := by rw [← hg6]; exact hcell 6 _ rfl
  have s7 : w2.cell? ⟨gb, 7, none⟩ = some (.string g7) := by rw [← hg7]; exact hcell 7 _ rfl
  have HD := Lib.hid D
  clear hos hcell D hb2 hg0 hgl0 z0 hg2 hgl2 z2 hg3 hgl3 z3 hg4 hgl4 z4 hg5 hgl5 z5 hg6 hgl6 z6 hg7 hgl7 z7 hF
  go_wp2
  go_loopw [5, 21] (PrR w2 o0 o2 o3 o4 o5 o6 o7 x0 x2 x3 x4 x5 x6 x7) (fun _ i _ => 8 - (intOf i).toNat)
  case atStart => exact .inl ⟨rfl, trivial, World.ownsRow_lit w2 #[] 0 (Nat.le_refl _) (by decide) rfl, (Below.refl _ _).alloc (Nat.le_refl _) _⟩
  case round =>
    rcases hrel with ⟨rfl, hok, ha, hbw⟩ | ⟨rfl, hok, ha, hbw⟩ | ⟨rfl, hok, ha, hbw⟩ | ⟨rfl, hok, ha, hbw⟩ | ⟨rfl, hok, ha, hbw⟩ | ⟨rfl, hok, ha, hbw⟩ | ⟨rfl, hok, ha, hbw⟩ | ⟨rfl, hok, ha, hbw⟩ | ⟨rfl, hok, ha, hbw⟩
    · have HBW := Lib.hid (HB.out.trans (hbw.mono (by omega)))
      have HBg := Lib.hid hbw
      have hzr : w2.heap.size ≤ wr.heap.size := hbw.size
      have D := HD.out.keep hbw hz
      have sj := (hbw.cell (p := ⟨gb, 0, none⟩) hgb).trans s0
      have HA := Lib.hid ha
      have HOK := Lib.hid hok
      clear hbw ha hok
      cases o0 with
      | false =>
        have E := Lib.hid (BAD.out (by simp))
        obtain ⟨⟨d0, d1, d2, d3, d4, d5, d6, d7⟩, e0, e1, e2, e3, e4, e5, e6, e7⟩ := D
        go_wp2_with fail
        refine (N0.out _).mono ?_
        rintro e w5 ⟨rfl, rfl⟩
        go_wp2
        exact bodyPost_ret (v := .tuple #[.agg #[.int .i64 0, .int .u8 0, .int .i64 0, .int .i64 0, .int .i64 0, .int .i64 0, .int .i64 0, .int .i64 0], .int .i64 4]) (by simp [results, Tryd.results31, go_sem, d0, d1, d2, d3, d4, d5, d6, d7]) rfl ⟨by rw [E.out]; rfl, by repeat (first | with_reducible exact HBW.out | with_reducible refine Below.setCell ?_ (by simp) _)⟩
      | true =>
        go_wp2_with fail
        refine (N0.out _).mono ?_
        rintro e w5 ⟨rfl, rfl⟩
        go_wp2_with (at_builtin; refine Halt.mk ?_)
        unfold Halt
        refine wpList_oi rfl _ _ rfl w2.heap.size _ [] (by first | rfl | assumption) wr HA.out _ x0 _ rfl (by simp) hzr ?_
        intro v4 w4 ho4 hb4
        have HO4 := Lib.hid ho4
        have HB4 := Lib.hid (HBg.out.trans hb4)
        clear ho4 hb4
        go_wp2
        go_roundw
        case rel => exact .inr (.inl ⟨by go_num, rfl, HO4.out, HB4.out⟩)
        case measure => simp [intOf]
    · have HBW := Lib.hid (HB.out.trans (hbw.mono (by omega)))
      have HBg := Lib.hid hbw
      have hzr : w2.heap.size ≤ wr.heap.size := hbw.size
      clear hbw
      have sj := (HBg.out.cell (p := ⟨gb, 1, none⟩) hgb).trans s1
      go_wp2
      go_roundw
      case rel => exact .inr (.inr (.inl ⟨by go_num, hok, ha, HBg.out⟩))
      case measure => simp [intOf]
    · have HBW := Lib.hid (HB.out.trans (hbw.mono (by omega)))
      have HBg := Lib.hid hbw
      have hzr : w2.heap.size ≤ wr.heap.size := hbw.size
      have D := HD.out.keep hbw hz
      have sj := (hbw.cell (p := ⟨gb, 2, none⟩) hgb).trans s2
      have HA := Lib.hid ha
      have HOK := Lib.hid hok
      clear hbw ha hok
      cases o2 with
      | false =>
        have E := Lib.hid (BAD.out (by simp))
        obtain ⟨⟨d0, d1, d2, d3, d4, d5, d6, d7⟩, e0, e1, e2, e3, e4, e5, e6, e7⟩ := D
        go_wp2_with fail
        refine (N2.out _).mono ?_
        rintro e w5 ⟨rfl, rfl⟩
        go_wp2
        exact bodyPost_ret (v := .tuple #[.agg #[.int .i64 0, .int .u8 0, .int .i64 0, .int .i64 0, .int .i64 0, .int .i64 0, .int .i64 0, .int .i64 0], .int .i64 4]) (by simp [results, Tryd.results31, go_sem, d0, d1, d2, d3, d4, d5, d6, d7]) rfl ⟨by rw [E.out]; rfl, by repeat (first | with_reducible exact HBW.out | with_reducible refine Below.setCell ?_ (by simp) _)⟩
      | true =>
        go_wp2_with fail
        refine (N2.out _).mono ?_
        rintro e w5 ⟨rfl, rfl⟩
        go_wp2_with (at_builtin; refine Halt.mk ?_)
        unfold Halt
        refine wpList_oi rfl _ _ rfl w2.heap.size _ [x0] (by first | rfl | assumption) wr HA.out _ x2 _ rfl (by simp) hzr ?_
        intro v4 w4 ho4 hb4
        have HO4 := Lib.hid ho4
        have HB4 := Lib.hid (HBg.out.trans hb4)
        clear ho4 hb4
        go_wp2
        go_roundw
        case rel => exact .inr (.inr (.inr (.inl ⟨by go_num, ⟨HOK.out, rfl⟩, HO4.out, HB4.out⟩)))
        case measure => simp [intOf]
    · have HBW := Lib.hid (HB.out.trans (hbw.mono (by omega)))
      have HBg := Lib.hid hbw
      have hzr : w2.heap.size ≤ wr.heap.size := hbw.size
      have D := HD.out.keep hbw hz
      have sj := (hbw.cell (p := ⟨gb, 3, none⟩) hgb).trans s3
      have HA := Lib.hid ha
      have HOK := Lib.hid hok
      clear hbw ha hok
      cases o3 with
      | false =>
        have E := Lib.hid (BAD.out (by simp))
        obtain ⟨⟨d0, d1, d2, d3, d4, d5, d6, d7⟩, e0, e1, e2, e3, e4, e5, e6, e7⟩ := D
        go_wp2_with fail
        refine (N3.out _).mono ?_
        rintro e w5 ⟨rfl, rfl⟩
        go_wp2
        exact bodyPost_ret (v := .tuple #[.agg #[.int .i64 0, .int .u8 0, .int .i64 0, .int .i64 0, .int .i64 0, .int .i64 0, .int .i64 0, .int .i64 0], .int .i64 4]) (by simp [results, Tryd.results31, go_sem, d0, d1, d2, d3, d4, d5, d6, d7]) rfl ⟨by rw [E.out]; rfl, by repeat (first | with_reducible exact HBW.out | with_reducible refine Below.setCell ?_ (by simp) _)⟩
      | true =>
        go_wp2_with fail
        refine (N3.out _).mono ?_
        rintro e w5 ⟨rfl, rfl⟩
        go_wp2_with (at_builtin; refine Halt.mk ?_)
        unfold Halt
        refine wpList_oi rfl _ _ rfl w2.heap.size _ [x0, x2] (by first | rfl | assumption) wr HA.out _ x3 _ rfl (by simp) hzr ?_
        intro v4 w4 ho4 hb4
        have HO4 := Lib.hid ho4
        have HB4 := Lib.hid (HBg.out.trans hb4)
        clear ho4 hb4
        go_wp2
        go_roundw
        case rel => exact .inr (.inr (.inr (.inr (.inl ⟨by go_num, ⟨HOK.out.1, HOK.out.2, rfl⟩, HO4.out, HB4.out⟩))))
        case measure => simp [intOf]
    · have HBW := Lib.hid (HB.out.trans (hbw.mono (by omega)))
      have HBg := Lib.hid hbw
      have hzr : w2.heap.size ≤ wr.heap.size := hbw.size
      have D := HD.out.keep hbw hz
      have sj := (hbw.cell (p := ⟨gb, 4, none⟩) hgb).trans s4
      have HA := Lib.hid ha
      have HOK := Lib.hid hok
      clear hbw ha hok
      cases o4 with
      | false =>
        have E := Lib.hid (BAD.out (by simp))
        obtain ⟨⟨d0, d1, d2, d3, d4, d5, d6, d7⟩, e0, e1, e2, e3, e4, e5, e6, e7⟩ := D
        go_wp2_with fail
        refine (N4.out _).mono ?_
        rintro e w5 ⟨rfl, rfl⟩
        go_wp2
        exact bodyPost_ret (v := .tuple #[.agg #[.int .i64 0, .int .u8 0, .int .i64 0, .int .i64 0, .int .i64 0, .int .i64 0, .int .i64 0, .int .i64 0], .int .i64 4]) (by simp [results, Tryd.results31, go_sem, d0, d1, d2, d3, d4, d5, d6, d7]) rfl ⟨by rw [E.out]; rfl, by repeat (first | with_reducible exact HBW.out | with_reducible refine Below.setCell ?_ (by simp) _)⟩
      | true =>
        go_wp2_with fail
        refine (N4.out _).mono ?_
        rintro e w5 ⟨rfl, rfl⟩
        go_wp2_with (at_builtin; refine Halt.mk ?_)
        unfold Halt
        refine wpList_oi rfl _ _ rfl w2.heap.size _ [x0, x2, x3] (by first | rfl | assumption) wr HA.out _ x4 _ rfl (by simp) hzr ?_
        intro v4 w4 ho4 hb4
        have HO4 := Lib.hid ho4
        have HB4 := Lib.hid (HBg.out.trans hb4)
        clear ho4 hb4
        go_wp2
        go_roundw
        case rel => exact .inr (.inr (.inr (.inr (.inr (.inl ⟨by go_num, ⟨HOK.out.1, HOK.out.2.1, HOK.out.2.2, rfl⟩, HO4.out, HB4.out⟩)))))
        case measure => simp [intOf]
    · have HBW := Lib.hid (HB.out.trans (hbw.mono (by omega)))
      have HBg := Lib.hid hbw
      have hzr : w2.heap.size ≤ wr.heap.size := hbw.size
      have D := HD.out.keep hbw hz
      have sj := (hbw.cell (p := ⟨gb, 5, none⟩) hgb).trans s5
      have HA := Lib.hid ha
      have HOK := Lib.hid hok
      clear hbw ha hok
      cases o5 with
      | false =>
        have E := Lib.hid (BAD.out (by simp))
        obtain ⟨⟨d0, d1, d2, d3, d4, d5, d6, d7⟩, e0, e1, e2, e3, e4, e5, e6, e7⟩ := D
        go_wp2_with fail
        refine (N5.out _).mono ?_
        rintro e w5 ⟨rfl, rfl⟩
        go_wp2
        exact bodyPost_ret (v := .tuple #[.agg #[.int .i64 0, .int .u8 0, .int .i64 0, .int .i64 0, .int .i64 0, .int .i64 0, .int .i64 0, .int .i64 0], .int .i64 4]) (by simp [results, Tryd.results31, go_sem, d0, d1, d2, d3, d4, d5, d6, d7]) rfl ⟨by rw [E.out]; rfl, by repeat (first | with_reducible exact HBW.out | with_reducible refine Below.setCell ?_ (by simp) _)⟩
      | true =>
        go_wp2_with fail
        refine (N5.out _).mono ?_
        rintro e w5 ⟨rfl, rfl⟩
        go_wp2_with (at_builtin; refine Halt.mk ?_)
        unfold Halt
        refine wpList_oi rfl _ _ rfl w2.heap.size _ [x0, x2, x3, x4] (by first | rfl | assumption) wr HA.out _ x5 _ rfl (by simp) hzr ?_
        intro v4 w4 ho4 hb4
        have HO4 := Lib.hid ho4
        have HB4 := Lib.hid (HBg.out.trans hb4)
        clear ho4 hb4
        go_wp2
        go_roundw
        case rel => exact .inr (.inr (.inr (.inr (.inr (.inr (.inl ⟨by go_num, ⟨HOK.out.1, HOK.out.2.1, HOK.out.2.2.1, HOK.out.2.2.2, rfl⟩, HO4.out, HB4.out⟩))))))
        case measure => simp [intOf]
    · have HBW := Lib.hid (HB.out.trans (hbw.mono (by omega)))
      have HBg := Lib.hid hbw
      have hzr : w2.heap.size ≤ wr.heap.size := hbw.size
      have D := HD.out.keep hbw hz
      have sj := (hbw.cell (p := ⟨gb, 6, none⟩) hgb).trans s6
      have HA := Lib.hid ha
      have HOK := Lib.hid hok
      clear hbw ha hok
      cases o6 with
      | false =>
        have E := Lib.hid (BAD.out (by simp))
        obtain ⟨⟨d0, d1, d2, d3, d4, d5, d6, d7⟩, e0, e1, e2, e3, e4, e5, e6, e7⟩ := D
        go_wp2_with fail
        refine (N6.out _).mono ?_
        rintro e w5 ⟨rfl, rfl⟩
        go_wp2
        exact bodyPost_ret (v := .tuple #[.agg #[.int .i64 0, .int .u8 0, .int .i64 0, .int .i64 0, .int .i64 0, .int .i64 0, .int .i64 0, .int .i64 0], .int .i64 4]) (by simp [results, Tryd.results31, go_sem, d0, d1, d2, d3, d4, d5, d6, d7]) rfl ⟨by rw [E.out]; rfl, by repeat (first | with_reducible exact HBW.out | with_reducible refine Below.setCell ?_ (by simp) _)⟩
      | true =>
        go_wp2_with fail
        refine (N6.out _).mono ?_
        rintro e w5 ⟨rfl, rfl⟩
        go_wp2_with (at_builtin; refine Halt.mk ?_)
        unfold Halt
        refine wpList_oi rfl _ _ rfl w2.heap.size _ [x0, x2, x3, x4, x5] (by first | rfl | assumption) wr HA.out _ x6 _ rfl (by simp) hzr ?_
        intro v4 w4 ho4 hb4
        have HO4 := Lib.hid ho4
        have HB4 := Lib.hid (HBg.out.trans hb4)
        clear ho4 hb4
        go_wp2
        go_roundw
        case rel => exact .inr (.inr (.inr (.inr (.inr (.inr (.inr (.inl ⟨by go_num, ⟨HOK.out.1, HOK.out.2.1, HOK.out.2.2.1, HOK.out.2.2.2.1, HOK.out.2.2.2.2, rfl⟩, HO4.out, HB4.out⟩)))))))
        case measure => simp [intOf]
    · have HBW := Lib.hid (HB.out.trans (hbw.mono (by omega)))
      have HBg := Lib.hid hbw
      have hzr : w2.heap.size ≤ wr.heap.size := hbw.size
      have D := HD.out.keep hbw hz
      have sj := (hbw.cell (p := ⟨gb, 7, none⟩) hgb).trans s7
      have HA := Lib.hid ha
      have HOK := Lib.hid hok
      clear hbw ha hok
      cases o7 with
      | false =>
        have E := Lib.hid (BAD.out (by simp))
        obtain ⟨⟨d0, d1, d2, d3, d4, d5, d6, d7⟩, e0, e1, e2, e3, e4, e5, e6, e7⟩ := D
        go_wp2_with fail
        refine (N7.out _).mono ?_
        rintro e w5 ⟨rfl, rfl⟩
        go_wp2
        exact bodyPost_ret (v := .tuple #[.agg #[.int .i64 0, .int .u8 0, .int .i64 0, .int .i64 0, .int .i64 0, .int .i64 0, .int .i64 0, .int .i64 0], .int .i64 4]) (by simp [results, Tryd.results31, go_sem, d0, d1, d2, d3, d4, d5, d6, d7]) rfl ⟨by rw [E.out]; rfl, by repeat (first | with_reducible exact HBW.out | with_reducible refine Below.setCell ?_ (by simp) _)⟩
      | true =>
        go_wp2_with fail
        refine (N7.out _).mono ?_
        rintro e w5 ⟨rfl, rfl⟩
        go_wp2_with (at_builtin; refine Halt.mk ?_)
        unfold Halt
        refine wpList_oi rfl _ _ rfl w2.heap.size _ [x0, x2, x3, x4, x5, x6] (by first | rfl | assumption) wr HA.out _ x7 _ rfl (by simp) hzr ?_
        intro v4 w4 ho4 hb4
        have HO4 := Lib.hid ho4
        have HB4 := Lib.hid (HBg.out.trans hb4)
        clear ho4 hb4
        go_wp2
        go_roundw
        case rel => exact .inr (.inr (.inr (.inr (.inr (.inr (.inr (.inr (⟨by go_num, ⟨HOK.out.1, HOK.out.2.1, HOK.out.2.2.1, HOK.out.2.2.2.1, HOK.out.2.2.2.2.1, HOK.out.2.2.2.2.2, rfl⟩, HO4.out, HB4.out⟩))))))))
        case measure => simp [intOf]
    · have HBW := Lib.hid (HB.out.trans (hbw.mono (by omega)))
      have HBg := Lib.hid hbw
      have hzr : w2.heap.size ≤ wr.heap.size := hbw.size
      have D := HD.out.keep hbw hz
      have sj := (hbw.cell (p := ⟨gb, 1, none⟩) hgb).trans s1
      clear hbw
      obtain ⟨k0', k2', k3', k4', k5', k6', k7'⟩ := hok
      have GD := Lib.hid (fun c hc hk => GOOD.out c hc hk (by rw [k0', k2', k3', k4', k5', k6', k7']; rfl))
      clear k0' k2' k3' k4' k5' k6' k7'
      obtain ⟨hb, hcap2, rfl, hcp, hB2, hhb, hcl⟩ := own_cells ha (by simp)
      have y0 : wr.cell? ⟨hb, 0, none⟩ = some (.int .i64 x0) := hcl 0 _ rfl
      have y1 : wr.cell? ⟨hb, 1, none⟩ = some (.int .i64 x2) := hcl 1 _ rfl
      have y2 : wr.cell? ⟨hb, 2, none⟩ = some (.int .i64 x3) := hcl 2 _ rfl
      have y3 : wr.cell? ⟨hb, 3, none⟩ = some (.int .i64 x4) := hcl 3 _ rfl
      have y4 : wr.cell? ⟨hb, 4, none⟩ = some (.int .i64 x5) := hcl 4 _ rfl
      have y5 : wr.cell? ⟨hb, 5, none⟩ = some (.int .i64 x6) := hcl 5 _ rfl
      have y6 : wr.cell? ⟨hb, 6, none⟩ = some (.int .i64 x7) := hcl 6 _ rfl
      have hlt7 : 7 ≤ hcap2 := hcp
      clear ha hcl hcp
      go_wp2_with fail
      generalize hwr : wr = wq at *
      clear hwr
      go_region_held3 (fun w' => w'.cell? ⟨hb, 0, none⟩ = some (.int .i64 x0) ∧ w'.cell? ⟨hb, 1, none⟩ = some (.int .i64 x2) ∧ w'.cell? ⟨hb, 2, none⟩ = some (.int .i64 x3) ∧ w'.cell? ⟨hb, 3, none⟩ = some (.int .i64 x4) ∧ w'.cell? ⟨hb, 4, none⟩ = some (.int .i64 x5) ∧ w'.cell? ⟨hb, 5, none⟩ = some (.int .i64 x6) ∧ w'.cell? ⟨hb, 6, none⟩ = some (.int .i64 x7)) (go_keep) (fail)
      have CK := fun k h0 h1 w => check_ref x0 k x2 x3 x4 x5 x6 x7 w h0 h1
      have hgq : gb < wq.heap.size := World.block_lt_of_cell? _ _ sj
      have hwq : w.heap.size < wq.heap.size := by omega
      by_cases h80 : f1 = [80]
      · subst h80
        have E0 := GD.out 80 rfl (by decide)
        clear OTH GD BAD GOOD
        have CK1 := fun w => CK 1 (by decide) (by decide) w
        clear CK
        unfold checkedF at E0
        rw [show kindC 80 = 1 by decide] at E0
        by_cases hc : checkI x0 1 x2 x3 x4 x5 x6 x7 = 0
        · have E2 := Lib.hid (show parse41 s.data.toList = (⟨x0, 1, x2, x3, x4, x5, x6, x7⟩, 0) by rw [E0, if_pos hc])
          rw [hc] at CK1
          have CH := Lib.hid CK1
          clear CK1 hc E0
          go_wp2_with fail
          refine (CH.out _).mono ?_
          rintro e w5 ⟨rfl, hb5⟩
          have R : Blk8 w5 wq.heap.size x0 1 x2 x3 x4 x5 x6 x7 := Blk8.keep (by unfold Blk8; refine ⟨⟨?_, ?_, ?_, ?_, ?_, ?_, ?_, ?_⟩, ?_, ?_, ?_, ?_, ?_, ?_, ?_, ?_⟩ <;> go_simp) hb5 (by simp)
          have D5 := (D.keep ((Below.refl wq.heap.size wq).alloc (Nat.le_refl _) (.cells #[.int .i64 x0, .int .u8 1, .int .i64 x2, .int .i64 x3, .int .i64 x4, .int .i64 x5, .int .i64 x6, .int .i64 x7] 26)).drew hwq).keep hb5 (by simp; omega)
          have HB5 := Lib.hid (HBW.out.trans ((((Below.refl wq.heap.size wq).alloc (Nat.le_refl _) (.cells #[.int .i64 x0, .int .u8 1, .int .i64 x2, .int .i64 x3, .int .i64 x4, .int .i64 x5, .int .i64 x6, .int .i64 x7] 26)).drew.trans (hb5.mono (by simp))).mono HBW.out.size))
          have hz5 : wq.heap.size < w5.heap.size := by have := hb5.size; simp at this; omega
          have hr1 : w.heap.size ≠ wq.heap.size := by omega
          clear hb5 D
          obtain ⟨⟨r0, r1, r2, r3, r4, r5, r6, r7⟩, -⟩ := R
          obtain ⟨⟨d0, d1, d2, d3, d4, d5, d6, d7⟩, e0, e1, e2, e3, e4, e5, e6, e7⟩ := D5
          go_wp2
          exact bodyPost_ret (v := .tuple #[.agg #[.int .i64 x0, .int .u8 1, .int .i64 x2, .int .i64 x3, .int .i64 x4, .int .i64 x5, .int .i64 x6, .int .i64 x7], .int .i64 0]) (by simp [results, Tryd.results31, go_sem, d0, d1, d2, d3, d4, d5, d6, d7]) rfl ⟨by rw [E2.out]; rfl, by repeat (first | with_reducible exact HB5.out | with_reducible refine Below.setCell ?_ (by simp) _)⟩
        · have E2 := Lib.hid (show parse41 s.data.toList = (rp0, checkI x0 1 x2 x3 x4 x5 x6 x7) by rw [E0, if_neg hc])
          have g1 : (checkI x0 1 x2 x3 x4 x5 x6 x7 == 0) = false := by simpa using hc
          have g2 : (checkI x0 1 x2 x3 x4 x5 x6 x7 != 0) = true := by simpa using hc
          clear E0 hc
          generalize checkI x0 1 x2 x3 x4 x5 x6 x7 = en at *
          have CH := Lib.hid CK1
          clear CK1
          go_wp2_with fail
          refine (CH.out _).mono ?_
          rintro e w5 ⟨rfl, hb5⟩
          have R : Blk8 w5 wq.heap.size x0 1 x2 x3 x4 x5 x6 x7 := Blk8.keep (by unfold Blk8; refine ⟨⟨?_, ?_, ?_, ?_, ?_, ?_, ?_, ?_⟩, ?_, ?_, ?_, ?_, ?_, ?_, ?_, ?_⟩ <;> go_simp) hb5 (by simp)
          have D5 := (D.keep ((Below.refl wq.heap.size wq).alloc (Nat.le_refl _) (.cells #[.int .i64 x0, .int .u8 1, .int .i64 x2, .int .i64 x3, .int .i64 x4, .int .i64 x5, .int .i64 x6, .int .i64 x7] 26)).drew hwq).keep hb5 (by simp; omega)
          have HB5 := Lib.hid (HBW.out.trans ((((Below.refl wq.heap.size wq).alloc (Nat.le_refl _) (.cells #[.int .i64 x0, .int .u8 1, .int .i64 x2, .int .i64 x3, .int .i64 x4, .int .i64 x5, .int .i64 x6, .int .i64 x7] 26)).drew.trans (hb5.mono (by simp))).mono HBW.out.size))
          have hz5 : wq.heap.size < w5.heap.size := by have := hb5.size; simp at this; omega
          have hr1 : w.heap.size ≠ wq.heap.size := by omega
          clear hb5 D
          obtain ⟨⟨r0, r1, r2, r3, r4, r5, r6, r7⟩, -⟩ := R
          obtain ⟨⟨d0, d1, d2, d3, d4, d5, d6, d7⟩, e0, e1, e2, e3, e4, e5, e6, e7⟩ := D5
          go_wp2
          exact bodyPost_ret (v := .tuple #[.agg #[.int .i64 0, .int .u8 0, .int .i64 0, .int .i64 0, .int .i64 0, .int .i64 0, .int .i64 0, .int .i64 0], .int .i64 en]) (by simp [results, Tryd.results31, go_sem, d0, d1, d2, d3, d4, d5, d6, d7]) rfl ⟨by rw [E2.out]; rfl, by repeat (first | with_reducible exact HB5.out | with_reducible refine Below.setCell ?_ (by simp) _)⟩
      · by_cases h82 : f1 = [82]
        · subst h82
          have E0 := GD.out 82 rfl (by decide)
          clear OTH GD BAD GOOD
          have CK1 := fun w => CK 2 (by decide) (by decide) w
          clear CK
          unfold checkedF at E0
          rw [show kindC 82 = 2 by decide] at E0
          by_cases hc : checkI x0 2 x2 x3 x4 x5 x6 x7 = 0
          · have E2 := Lib.hid (show parse41 s.data.toList = (⟨x0, 2, x2, x3, x4, x5, x6, x7⟩, 0) by rw [E0, if_pos hc])
            rw [hc] at CK1
            have CH := Lib.hid CK1
            clear CK1 hc E0
            go_wp2_with fail
            refine (CH.out _).mono ?_
            rintro e w5 ⟨rfl, hb5⟩
            have R : Blk8 w5 wq.heap.size x0 2 x2 x3 x4 x5 x6 x7 := Blk8.keep (by unfold Blk8; refine ⟨⟨?_, ?_, ?_, ?_, ?_, ?_, ?_, ?_⟩, ?_, ?_, ?_, ?_, ?_, ?_, ?_, ?_⟩ <;> go_simp) hb5 (by simp)
            have D5 := (D.keep ((Below.refl wq.heap.size wq).alloc (Nat.le_refl _) (.cells #[.int .i64 x0, .int .u8 2, .int .i64 x2, .int .i64 x3, .int .i64 x4, .int .i64 x5, .int .i64 x6, .int .i64 x7] 26)).drew hwq).keep hb5 (by simp; omega)
            have HB5 := Lib.hid (HBW.out.trans ((((Below.refl wq.heap.size wq).alloc (Nat.le_refl _) (.cells #[.int .i64 x0, .int .u8 2, .int .i64 x2, .int .i64 x3, .int .i64 x4, .int .i64 x5, .int .i64 x6, .int .i64 x7] 26)).drew.trans (hb5.mono (by simp))).mono HBW.out.size))
            have hz5 : wq.heap.size < w5.heap.size := by have := hb5.size; simp at this; omega
            have hr1 : w.heap.size ≠ wq.heap.size := by omega
            clear hb5 D
            obtain ⟨⟨r0, r1, r2, r3, r4, r5, r6, r7⟩, -⟩ := R
            obtain ⟨⟨d0, d1, d2, d3, d4, d5, d6, d7⟩, e0, e1, e2, e3, e4, e5, e6, e7⟩ := D5
            go_wp2
            exact bodyPost_ret (v := .tuple #[.agg #[.int .i64 x0, .int .u8 2, .int .i64 x2, .int .i64 x3, .int .i64 x4, .int .i64 x5, .int .i64 x6, .int .i64 x7], .int .i64 0]) (by simp [results, Tryd.results31, go_sem, d0, d1, d2, d3, d4, d5, d6, d7]) rfl ⟨by rw [E2.out]; rfl, by repeat (first | with_reducible exact HB5.out | with_reducible refine Below.setCell ?_ (by simp) _)⟩
          · have E2 := Lib.hid (show parse41 s.data.toList = (rp0, checkI x0 2 x2 x3 x4 x5 x6 x7) by rw [E0, if_neg hc])
            have g1 : (checkI x0 2 x2 x3 x4 x5 x6 x7 == 0) = false := by simpa using hc
            have g2 : (checkI x0 2 x2 x3 x4 x5 x6 x7 != 0) = true := by simpa using hc
            clear E0 hc
            generalize checkI x0 2 x2 x3 x4 x5 x6 x7 = en at *
            have CH := Lib.hid CK1
            clear CK1
            go_wp2_with fail
            refine (CH.out _).mono ?_
            rintro e w5 ⟨rfl, hb5⟩
            have R : Blk8 w5 wq.heap.size x0 2 x2 x3 x4 x5 x6 x7 := Blk8.keep (by unfold Blk8; refine ⟨⟨?_, ?_, ?_, ?_, ?_, ?_, ?_, ?_⟩, ?_, ?_, ?_, ?_, ?_, ?_, ?_, ?_⟩ <;> go_simp) hb5 (by simp)
            have D5 := (D.keep ((Below.refl wq.heap.size wq).alloc (Nat.le_refl _) (.cells #[.int .i64 x0, .int .u8 2, .int .i64 x2, .int .i64 x3, .int .i64 x4, .int .i64 x5, .int .i64 x6, .int .i64 x7] 26)).drew hwq).keep hb5 (by simp; omega)
            have HB5 := Lib.hid (HBW.out.trans ((((Below.refl wq.heap.size wq).alloc (Nat.le_refl _) (.cells #[.int .i64 x0, .int .u8 2, .int .i64 x2, .int .i64 x3, .int .i64 x4, .int .i64 x5, .int .i64 x6, .int .i64 x7] 26)).drew.trans (hb5.mono (by simp))).mono HBW.out.size))
            have hz5 : wq.heap.size < w5.heap.size := by have := hb5.size; simp at this; omega
            have hr1 : w.heap.size ≠ wq.heap.size := by omega
            clear hb5 D
            obtain ⟨⟨r0, r1, r2, r3, r4, r5, r6, r7⟩, -⟩ := R
            obtain ⟨⟨d0, d1, d2, d3, d4, d5, d6, d7⟩, e0, e1, e2, e3, e4, e5, e6, e7⟩ := D5
            go_wp2
            exact bodyPost_ret (v := .tuple #[.agg #[.int .i64 0, .int .u8 0, .int .i64 0, .int .i64 0, .int .i64 0, .int .i64 0, .int .i64 0, .int .i64 0], .int .i64 en]) (by simp [results, Tryd.results31, go_sem, d0, d1, d2, d3, d4, d5, d6, d7]) rfl ⟨by rw [E2.out]; rfl, by repeat (first | with_reducible exact HB5.out | with_reducible refine Below.setCell ?_ (by simp) _)⟩
        · by_cases h66 : f1 = [66]
          · subst h66
            have E0 := GD.out 66 rfl (by decide)
            clear OTH GD BAD GOOD
            have CK1 := fun w => CK 3 (by decide) (by decide) w
            clear CK
            unfold checkedF at E0
            rw [show kindC 66 = 3 by decide] at E0
            by_cases hc : checkI x0 3 x2 x3 x4 x5 x6 x7 = 0
            · have E2 := Lib.hid (show parse41 s.data.toList = (⟨x0, 3, x2, x3, x4, x5, x6, x7⟩, 0) by rw [E0, if_pos hc])
              rw [hc] at CK1
              have CH := Lib.hid CK1
              clear CK1 hc E0
              go_wp2_with fail
              refine (CH.out _).mono ?_
              rintro e w5 ⟨rfl, hb5⟩
              have R : Blk8 w5 wq.heap.size x0 3 x2 x3 x4 x5 x6 x7 := Blk8.keep (by unfold Blk8; refine ⟨⟨?_, ?_, ?_, ?_, ?_, ?_, ?_, ?_⟩, ?_, ?_, ?_, ?_, ?_, ?_, ?_, ?_⟩ <;> go_simp) hb5 (by simp)
              have D5 := (D.keep ((Below.refl wq.heap.size wq).alloc (Nat.le_refl _) (.cells #[.int .i64 x0, .int .u8 3, .int .i64 x2, .int .i64 x3, .int .i64 x4, .int .i64 x5, .int .i64 x6, .int .i64 x7] 26)).drew hwq).keep hb5 (by simp; omega)
              have HB5 := Lib.hid (HBW.out.trans ((((Below.refl wq.heap.size wq).alloc (Nat.le_refl _) (.cells #[.int .i64 x0, .int .u8 3, .int .i64 x2, .int .i64 x3, .int .i64 x4, .int .i64 x5, .int .i64 x6, .int .i64 x7] 26)).drew.trans (hb5.mono (by simp))).mono HBW.out.size))
              have hz5 : wq.heap.size < w5.heap.size := by have := hb5.size; simp at this; omega
              have hr1 : w.heap.size ≠ wq.heap.size := by omega
              clear hb5 D
              obtain ⟨⟨r0, r1, r2, r3, r4, r5, r6, r7⟩, -⟩ := R
              obtain ⟨⟨d0, d1, d2, d3, d4, d5, d6, d7⟩, e0, e1, e2, e3, e4, e5, e6, e7⟩ := D5
              go_wp2
              exact bodyPost_ret (v := .tuple #[.agg #[.int .i64 x0, .int .u8 3, .int .i64 x2, .int .i64 x3, .int .i64 x4, .int .i64 x5, .int .i64 x6, .int .i64 x7], .int .i64 0]) (by simp [results, Tryd.results31, go_sem, d0, d1, d2, d3, d4, d5, d6, d7]) rfl ⟨by rw [E2.out]; rfl, by repeat (first | with_reducible exact HB5.out | with_reducible refine Below.setCell ?_ (by simp) _)⟩
            · have E2 := Lib.hid (show parse41 s.data.toList = (rp0, checkI x0 3 x2 x3 x4 x5 x6 x7) by rw [E0, if_neg hc])
              have g1 : (checkI x0 3 x2 x3 x4 x5 x6 x7 == 0) = false := by simpa using hc
              have g2 : (checkI x0 3 x2 x3 x4 x5 x6 x7 != 0) = true := by simpa using hc
              clear E0 hc
              generalize checkI x0 3 x2 x3 x4 x5 x6 x7 = en at *
              have CH := Lib.hid CK1
              clear CK1
              go_wp2_with fail
              refine (CH.out _).mono ?_
              rintro e w5 ⟨rfl, hb5⟩
              have R : Blk8 w5 wq.heap.size x0 3 x2 x3 x4 x5 x6 x7 := Blk8.keep (by unfold Blk8; refine ⟨⟨?_, ?_, ?_, ?_, ?_, ?_, ?_, ?_⟩, ?_, ?_, ?_, ?_, ?_, ?_, ?_, ?_⟩ <;> go_simp) hb5 (by simp)
              have D5 := (D.keep ((Below.refl wq.heap.size wq).alloc (Nat.le_refl _) (.cells #[.int .i64 x0, .int .u8 3, .int .i64 x2, .int .i64 x3, .int .i64 x4, .int .i64 x5, .int .i64 x6, .int .i64 x7] 26)).drew hwq).keep hb5 (by simp; omega)
              have HB5 := Lib.hid (HBW.out.trans ((((Below.refl wq.heap.size wq).alloc (Nat.le_refl _) (.cells #[.int .i64 x0, .int .u8 3, .int .i64 x2, .int .i64 x3, .int .i64 x4, .int .i64 x5, .int .i64 x6, .int .i64 x7] 26)).drew.trans (hb5.mono (by simp))).mono HBW.out.size))
              have hz5 : wq.heap.size < w5.heap.size := by have := hb5.size; simp at this; omega
              have hr1 : w.heap.size ≠ wq.heap.size := by omega
              clear hb5 D
              obtain ⟨⟨r0, r1, r2, r3, r4, r5, r6, r7⟩, -⟩ := R
              obtain ⟨⟨d0, d1, d2, d3, d4, d5, d6, d7⟩, e0, e1, e2, e3, e4, e5, e6, e7⟩ := D5
              go_wp2
              exact bodyPost_ret (v := .tuple #[.agg #[.int .i64 0, .int .u8 0, .int .i64 0, .int .i64 0, .int .i64 0, .int .i64 0, .int .i64 0, .int .i64 0], .int .i64 en]) (by simp [results, Tryd.results31, go_sem, d0, d1, d2, d3, d4, d5, d6, d7]) rfl ⟨by rw [E2.out]; rfl, by repeat (first | with_reducible exact HB5.out | with_reducible refine Below.setCell ?_ (by simp) _)⟩
          · have E := Lib.hid (OTH.out h80 h82 h66)
            obtain ⟨⟨d0, d1, d2, d3, d4, d5, d6, d7⟩, e0, e1, e2, e3, e4, e5, e6, e7⟩ := D
            clear OTH GD BAD GOOD CK
            obtain ⟨g1, hg1⟩ : ∃ g : ByteArray, (⟨f1.toArray⟩ : ByteArray) = g := ⟨_, rfl⟩
            rw [hg1] at sj
            have hl1 : g1.toList = f1 := by rw [Lib.toList_data, ← hg1]
            have n80 : (g1.toList == [80]) = false := by rw [hl1]; simpa using h80
            have n82 : (g1.toList == [82]) = false := by rw [hl1]; simpa using h82
            have n66 : (g1.toList == [66]) = false := by rw [hl1]; simpa using h66
            have l80 : (⟨#[80]⟩ : ByteArray).toList = [80] := by rw [Lib.toList_data]
            have l82 : (⟨#[82]⟩ : ByteArray).toList = [82] := by rw [Lib.toList_data]
            have l66 : (⟨#[66]⟩ : ByteArray).toList = [66] := by rw [Lib.toList_data]
            clear hg1 hl1 h80 h82 h66
            go_wp2
            exact bodyPost_ret (v := .tuple #[.agg #[.int .i64 0, .int .u8 0, .int .i64 0, .int .i64 0, .int .i64 0, .int .i64 0, .int .i64 0, .int .i64 0], .int .i64 4]) (by simp [results, Tryd.results31, go_sem, d0, d1, d2, d3, d4, d5, d6, d7, hwq]) rfl ⟨by rw [E.out]; rfl, by repeat (first | with_reducible exact HBW.out | with_reducible refine Below.drew ?_ | with_reducible refine Below.alloc ?_ (by simp; omega) _ | with_reducible refine Below.setCell ?_ (by simp) _)⟩
theorem parse_ref (s : ByteArray) (w : World) (hs : s.size ≤ 1000) : Calls Tryd.prog 31 #[.string s] w (RetP (parse41 s.data.toList) w) := by
  by_cases h : (fieldsL s.data.toList).length = 8
  · obtain ⟨L, hL⟩ : ∃ L, fieldsL s.data.toList = L := ⟨_, rfl⟩
    have hsz : ∀ g ∈ L, g.length ≤ 4294967280 := by
      intro g hg
      have := fld_size s.data.toList g (by rw [hL]; exact hg)
      rw [len_data] at this
      omega
    rw [hL] at h
    match L, h with
    | [g0, g1, g2, g3, g4, g5, g6, g7], _ =>
      exact parseref_eight s g0 g1 g2 g3 g4 g5 g6 g7 w hs hL ⟨hsz g0 (by simp), hsz g2 (by simp), hsz g3 (by simp), hsz g4 (by simp), hsz g5 (by simp), hsz g6 (by simp), hsz g7 (by simp)⟩
  · exact parseref_len s w hs h
end Go.Proofs.YtnnafjmfbnnnjaaDoor
