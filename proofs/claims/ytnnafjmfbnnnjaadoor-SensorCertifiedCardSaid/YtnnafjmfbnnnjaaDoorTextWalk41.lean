/-
  The walk of sensor.Text: the bytes that it makes.
-/
import Derived.Test.YtnnafjmfbnnnjaaDoorEnv41
import Derived.Test.YtnnafjmfbnnnjaaDoorSensorOne
import Derived.Laws.AppendOwn
import Derived.Laws.OwnMore
import Derived.Laws.IdiomStrings
import Derived.Lib.SmallJoins
import Derived.OwnWalk
import Derived.Lib.BufferWrite
import Derived.LoopTactic
namespace Go.Proofs.YtnnafjmfbnnnjaaDoor
set_option linter.unusedVariables false
open Go.RowKit Tr Sq

/-- a slice of the call's own that holds these bytes -/
def OB (B : Nat) (w : World) (v : Value) (l : List UInt8) : Prop := w.ownsRow B 5 1 v l.length (Lib.byteCells l)
theorem apint (B : Nat) (i : Int) (l : List UInt8) (v : Value) (w : World) (h0 : -9223372036854775808 ≤ i) (h1 : i ≤ 9223372036854775807) (h : OB B w v l) (hB : B ≤ w.heap.size) (hl : l.length ≤ 1000) (ht : Lib.TabBelow Tryd.prog B w "internal/strconv.uint64pow10" .u64 Lib.pow10Tab) :
    Calls Tryd.prog 61 #[v, .int .i64 i, .int .i64 10] w fun e w' => ∃ v', e = .returned v' ∧ OB B w' v' (l ++ Lib.itoa i) ∧ Below B w w' := by
  refine (Tryd.strconv_AppendInt_10 B l.length i h0 h1 v _ w h hB (by omega) ht).mono fun e w' ⟨v', he, ho, hb, _⟩ => ⟨v', he, ?_, hb⟩
  unfold OB
  rw [List.length_append, Lib.byteCells_append]
  exact ho
theorem infoU8 : (Tryd.prog.info? 5).map (fun i => (i.zero, i.size, i.bytes)) = some (some (.int .u8 0), 1, 1) := by kernel_rfl
theorem OB.conv {B : Nat} {w : World} {v : Value} {l : List UInt8} (h : OB B w v l) (hl : 0 < l.length) :
    ∃ g cap, v = .slice (some ⟨g, 0, none⟩) l.length cap ∧ (convert 66 9 (.slice (some ⟨g, 0, none⟩) l.length cap)).run Tryd.prog w = .ok (.string ⟨l.toArray⟩) w := by
  obtain ⟨g, cap, rfl⟩ := Go.Joins.ownsRow_form h hl
  refine ⟨g, cap, rfl, run_convert_bytes_back w _ _ 5 _ cap l Tryd.underlying66 Tryd.underlying5 Tryd.underlying9 fun j hj => ?_⟩
  refine h.cells rfl j _ ?_
  unfold Lib.byteCells
  rw [List.getElem?_map, List.getElem?_eq_getElem hj]
  rfl
/-- the walk stands still at a goal so wrapped -/
def Halt (p : Prop) : Prop := p
theorem Halt.mk {p : Prop} (h : Halt p) : p := h
/-- append of bytes that a literal's block holds -/
theorem wpList_ob {ops : Array Oper} {rest : List Oper} {o : Oper} {a : Act} {Q : Exit → Act → World → Prop} (hgd : o.guard = none) (s x : Operand)
    (ho : o.op = .call { callee := .builtin .append, args := #[s, x], argTypes := #[66, 66] })
    (B : Nat) (v : Value) (l : List UInt8) (hs : a.eval s = v) (w0 : World) (h : OB B w0 v l) (T : TypeId) (cs : Array Value) (k : List UInt8) (c : Nat) (hcs : cs.toList = Lib.byteCells k)
    (hx : a.eval x = .slice (some ⟨w0.heap.size, 0, none⟩) k.length c) (hl : l.length + k.length ≤ 100000) (hB : B ≤ w0.heap.size)
    (H : ∀ v' w', OB B w' v' (l ++ k) → Below B w0 w' → wpList Tryd.prog ops Q rest (a.put o.dst v') w') : wpList Tryd.prog ops Q (o :: rest) a (w0.alloc (.cells cs T)) := by
  obtain ⟨i0, hi, hz0, hz1, hz2⟩ := info_parts infoU8
  refine wpList_append_own _ hgd s x 66 ho B 5 i0 (.int .u8 0) 1 1 Tryd.underlying66 hi hz0 hz1 hz2 rfl (by decide) v l.length (Lib.byteCells l) hs (World.ownsRow.alloc h _) ⟨w0.heap.size, 0, none⟩ k.length c (Lib.byteCells k) hx (by rw [Lib.byteCells_length]; omega) ?_ ?_ (by unfold maxLen; omega) (by omega) (by simp; omega) ?_
  · intro j u hu
    have hadd : (⟨w0.heap.size, 0, none⟩ : Addr).add j = ⟨w0.heap.size, j, none⟩ := by unfold Addr.add; split <;> simp_all
    rw [hadd, World.cell?_alloc_at _ _ _ _ (by rfl)]
    rw [← hcs] at hu
    simpa using hu
  · intro u hu
    exact Lib.byteCells_one k u hu
  · intro v' w' ho' hg _
    refine H v' w' (by unfold OB; rw [List.length_append, Lib.byteCells_append]; exact ho') ?_
    refine (((Below.refl B w0).alloc hB (.cells cs T))).grown hg (by simp; omega) ?_
    intro q hq
    exact (World.ownsRow.lt h q hq).1
theorem ret_str {a b : List UInt8} (h : a = b) : Ending.returned (.string ⟨a.toArray⟩) = .returned (.string ⟨b.toArray⟩) := by rw [h]
def letterK (k : Int) : UInt8 := if k = 1 then 80 else if k = 2 then 82 else 66
def joinN (acc : List UInt8) (l : List Int) : List UInt8 := l.foldl (fun a n => a ++ [32] ++ Lib.itoa n) acc
def textL (s k x y v b wt t : Int) : List UInt8 := joinN (Lib.itoa s ++ [32, letterK k]) [x, y, v, b, wt, t]
theorem joinN_snoc (acc : List UInt8) (l : List Int) (n : Int) : joinN acc (l ++ [n]) = joinN acc l ++ [32] ++ Lib.itoa n := by
  unfold joinN; rw [List.foldl_append]; rfl
theorem joinN_len (acc : List UInt8) (l : List Int) (h : ∀ n ∈ l, -9223372036854775808 ≤ n ∧ n ≤ 9223372036854775807) : (joinN acc l).length ≤ acc.length + 22 * l.length := by
  induction l generalizing acc with
  | nil => simp [joinN]
  | cons a r ih =>
    have h1 := Lib.itoa_length_le a (h a (by simp)).1 (h a (by simp)).2
    have h2 := ih (acc ++ [32] ++ Lib.itoa a) (fun n hn => h n (by simp [hn]))
    show (joinN (acc ++ [32] ++ Lib.itoa a) r).length ≤ _
    simp only [List.length_append, List.length_cons, List.length_nil] at h2 ⊢
    omega
/-- what holds at the head of a round -/
def TxR (w1 : World) (base : List UInt8) (nums : List Int) (s3 s34 : Value) (w' : World) : Prop := ∃ j : Nat, j ≤ 6 ∧ s34 = .int .i64 j ∧ OB w1.heap.size w' s3 (joinN base (nums.take j)) ∧ Below w1.heap.size w1 w'
def RetB (l : List UInt8) (w : World) (e : Ending) (w' : World) : Prop := e = .returned (.string ⟨l.toArray⟩) ∧ Below w.heap.size w w'
def Rep8 (w : World) (h : Nat) (s k x y v b wt t : Int) : Prop := w.cell? ⟨h, 0, none⟩ = some (.int .i64 s) ∧ w.cell? ⟨h, 1, none⟩ = some (.int .u8 k) ∧ w.cell? ⟨h, 2, none⟩ = some (.int .i64 x) ∧ w.cell? ⟨h, 3, none⟩ = some (.int .i64 y) ∧ w.cell? ⟨h, 4, none⟩ = some (.int .i64 v) ∧ w.cell? ⟨h, 5, none⟩ = some (.int .i64 b) ∧ w.cell? ⟨h, 6, none⟩ = some (.int .i64 wt) ∧ w.cell? ⟨h, 7, none⟩ = some (.int .i64 t)
theorem Rep8.keep {w w' : World} {h B : Nat} {s k x y v b wt t : Int} (hr : Rep8 w h s k x y v b wt t) (hb : Below B w w') (hl : h < B) : Rep8 w' h s k x y v b wt t := by
  obtain ⟨a0, a1, a2, a3, a4, a5, a6, a7⟩ := hr
  exact ⟨(hb.cell (p := ⟨h, 0, none⟩) hl).trans a0, (hb.cell (p := ⟨h, 1, none⟩) hl).trans a1, (hb.cell (p := ⟨h, 2, none⟩) hl).trans a2, (hb.cell (p := ⟨h, 3, none⟩) hl).trans a3, (hb.cell (p := ⟨h, 4, none⟩) hl).trans a4, (hb.cell (p := ⟨h, 5, none⟩) hl).trans a5, (hb.cell (p := ⟨h, 6, none⟩) hl).trans a6, (hb.cell (p := ⟨h, 7, none⟩) hl).trans a7⟩
theorem rep8_new (w : World) (s k x y v b wt t : Int) (T : TypeId) : Rep8 (w.alloc (.cells #[.int .i64 s, .int .u8 k, .int .i64 x, .int .i64 y, .int .i64 v, .int .i64 b, .int .i64 wt, .int .i64 t] T)) w.heap.size s k x y v b wt t := by
  unfold Rep8; refine ⟨?_, ?_, ?_, ?_, ?_, ?_, ?_, ?_⟩ <;> go_simp
theorem text_bad (s k x y v b wt t : Int) (w : World) (k0 : 0 ≤ k) (k1 : k ≤ 255) (h : checkI s k x y v b wt t ≠ 0) :
    Calls Tryd.prog 28 #[.agg #[.int .i64 s, .int .u8 k, .int .i64 x, .int .i64 y, .int .i64 v, .int .i64 b, .int .i64 wt, .int .i64 t]] w (RetB [] w) := by
  have C0 := fun w => check_any s k x y v b wt t w k0 k1
  have g1 : (checkI s k x y v b wt t == 0) = false := by simpa using h
  have g1' : (checkI s k x y v b wt t != 0) = true := by simpa using h
  clear h
  generalize checkI s k x y v b wt t = en at *
  have C := Lib.hid C0
  clear C0
  go_enter Tryd.func28, Tryd.ntmps28
  go_wp2_with fail
  refine (C.out _).mono ?_
  rintro e w1 ⟨rfl, hb⟩
  have HB := Lib.hid (below_box hb)
  clear hb
  go_wp2
  go_ret
  exact ⟨rfl, HB.out⟩
set_option maxHeartbeats 2000000 in
set_option maxRecDepth 100000 in
theorem text_good1 (s x y v b wt t : Int) (w : World) (hE : Env w) (h : checkI s 1 x y v b wt t = 0) :
    Calls Tryd.prog 28 #[.agg #[.int .i64 s, .int .u8 1, .int .i64 x, .int .i64 y, .int .i64 v, .int .i64 b, .int .i64 wt, .int .i64 t]] w (RetB (textL s 1 x y v b wt t) w) := by
  obtain ⟨⟨s0, s1⟩, hk, ⟨x0, x1, y0, y1⟩, ⟨v0, v1⟩, ⟨b0, b1⟩, ⟨t0, t1⟩, u0, u1⟩ := check_bd h
  have C0 := fun w => check_any s 1 x y v b wt t w (by omega) (by omega)
  rw [h] at C0
  have C := Lib.hid C0
  have HE := Lib.hid hE
  clear C0 h hE hk
  have ls := Lib.itoa_length_le s (by omega) (by omega)
  have NB := Lib.hid (show ∀ n ∈ [x, y, v, b, wt, t], -9223372036854775808 ≤ n ∧ n ≤ 9223372036854775807 by intro n hn; simp only [List.mem_cons, List.not_mem_nil, or_false] at hn; omega)
  go_enter Tryd.func28, Tryd.ntmps28
  go_wp2_with fail
  refine (C.out _).mono ?_
  rintro e w1 ⟨rfl, hb⟩
  have R1 := (rep8_new w s _ x y v b wt t _).keep hb (by simp)
  have HB1 := Lib.hid (below_box hb)
  have hz1' : w.heap.size < w1.heap.size := by have := hb.size; simp at this; omega
  have HT := Lib.hid (Lib.tabBelow_of_tabIs (HE.out.below HB1.out).tab)
  clear hb
  have HR1 := Lib.hid R1
  obtain ⟨c0, c1, c2, c3, c4, c5, c6, c7⟩ := R1
  go_wp2_with fail
  refine (apint w1.heap.size s [] _ w1 (by omega) (by omega) (World.ownsRow_nil _ _ _ _) (Nat.le_refl _) (by decide) HT.out).mono ?_
  rintro e w2 ⟨v2, rfl, ho2, hb2⟩
  have R2 := HR1.out.keep hb2 hz1'
  have HT2 := Lib.hid (HT.out.on hb2)
  have hz2' : w1.heap.size ≤ w2.heap.size := hb2.size
  have HB2 := Lib.hid hb2
  have HO2 := Lib.hid ho2
  clear hb2 ho2 c0 c1 c2 c3 c4 c5 c6 c7 HR1
  have HR2 := Lib.hid R2
  obtain ⟨c0, c1, c2, c3, c4, c5, c6, c7⟩ := R2
  go_wp2_with (at_builtin; refine Halt.mk ?_)
  unfold Halt
  refine wpList_ob rfl _ _ rfl w1.heap.size v2 ([] ++ Lib.itoa s) rfl w2 HO2.out _ _ [32, 80] 2 rfl rfl (by simp; omega) hz2' ?_
  intro v3 w3 ho3 hb3
  have R3 := HR2.out.keep hb3 hz1'
  have HB3 := Lib.hid (HB2.out.trans hb3)
  have HO3 := Lib.hid ho3
  clear hb3 ho3 c0 c1 c2 c3 c4 c5 c6 c7 HR2 HB2 HO2 HT2 hz2'
  obtain ⟨c0, c1, c2, c3, c4, c5, c6, c7⟩ := R3
  go_wp2
  clear c0 c1 c2 c3 c4 c5 c6 c7
  go_loopw [3, 34] (TxR w1 ([] ++ Lib.itoa s ++ [32, 80]) [x, y, v, b, wt, t]) (fun _ i _ => 6 - (intOf i).toNat)
  case atStart => exact ⟨0, by omega, rfl, HO3.out, HB3.out⟩
  case round =>
    obtain ⟨j, hj, rfl, hown, hbw⟩ := hrel
    have hz : w1.heap.size ≤ wr.heap.size := hbw.size
    have hlen0 := joinN_len ([] ++ Lib.itoa s ++ [32, 80]) ([x, y, v, b, wt, t].take j) (fun n hn => NB.out n (List.mem_of_mem_take hn))
    have hlen : (joinN ([] ++ Lib.itoa s ++ [32, 80]) ([x, y, v, b, wt, t].take j)).length ≤ 200 := by
      have : ([x, y, v, b, wt, t].take j).length ≤ 6 := by rw [List.length_take]; exact Nat.min_le_right _ _
      simp only [List.length_append, List.length_cons, List.length_nil] at hlen0 ⊢
      omega
    clear hlen0
    have HO := Lib.hid hown
    have HBW := Lib.hid hbw
    have HTW := Lib.hid (HT.out.on hbw)
    clear hown hbw
    by_cases hlt : j < 6
    · obtain ⟨n, hn, hn0, hn1, hx⟩ : ∃ n : Int, (∀ w, (Instr.index 68 (.agg #[.int .i64 x, .int .i64 y, .int .i64 v, .int .i64 b, .int .i64 wt, .int .i64 t]) (.int .i64 (j : Int))).run Tryd.prog w = .ok (.int .i64 n) w) ∧ -9223372036854775808 ≤ n ∧ n ≤ 9223372036854775807 ∧ [x, y, v, b, wt, t].take (j + 1) = [x, y, v, b, wt, t].take j ++ [n] := by
        rcases (show j = 0 ∨ j = 1 ∨ j = 2 ∨ j = 3 ∨ j = 4 ∨ j = 5 by omega) with rfl | rfl | rfl | rfl | rfl | rfl
        · exact ⟨x, fun _ => by kernel_rfl, by omega, by omega, rfl⟩
        · exact ⟨y, fun _ => by kernel_rfl, by omega, by omega, rfl⟩
        · exact ⟨v, fun _ => by kernel_rfl, by omega, by omega, rfl⟩
        · exact ⟨b, fun _ => by kernel_rfl, by omega, by omega, rfl⟩
        · exact ⟨wt, fun _ => by kernel_rfl, by omega, by omega, rfl⟩
        · exact ⟨t, fun _ => by kernel_rfl, by omega, by omega, rfl⟩
      have HX := Lib.hid (show joinN ([] ++ Lib.itoa s ++ [32, 80]) ([x, y, v, b, wt, t].take (j + 1)) = joinN ([] ++ Lib.itoa s ++ [32, 80]) ([x, y, v, b, wt, t].take j) ++ [32] ++ Lib.itoa n by rw [hx, joinN_snoc])
      clear hx
      generalize joinN ([] ++ Lib.itoa s ++ [32, 80]) ([x, y, v, b, wt, t].take j) = acc at *
      go_wp2_with (at_builtin; refine Halt.mk ?_)
      unfold Halt
      refine wpList_ob rfl _ _ rfl w1.heap.size _ acc (by first | rfl | assumption) wr HO.out _ _ [32] 1 rfl rfl (by simp; omega) hz ?_
      intro v4 w4 ho4 hb4
      have hz4 : w1.heap.size ≤ w4.heap.size := by have := hb4.size; omega
      have HO4 := Lib.hid ho4
      have HT4 := Lib.hid (HTW.out.on hb4)
      have HB4 := Lib.hid (HBW.out.trans hb4)
      clear ho4 hb4 hn
      go_wp2_with fail
      refine (apint w1.heap.size n (acc ++ [32]) v4 w4 hn0 hn1 HO4.out hz4 (by simp; omega) HT4.out).mono ?_
      rintro e w5 ⟨v5, rfl, ho5, hb5⟩
      have HO5 := Lib.hid ho5
      have HB5 := Lib.hid (HB4.out.trans hb5)
      clear ho5 hb5
      go_wp2
      go_roundw
      case rel => exact ⟨j + 1, by omega, by go_num, by rw [HX.out]; exact HO5.out, HB5.out⟩
      case measure => simp [intOf]; omega
    · obtain rfl : j = 6 := by omega
      obtain ⟨g, cap, hg, hconv⟩ := HO.out.conv (by
        have e : joinN ([] ++ Lib.itoa s ++ [32, 80]) ([x, y, v, b, wt, t].take 6) = joinN ([] ++ Lib.itoa s ++ [32, 80]) [x, y, v, b, wt] ++ [32] ++ Lib.itoa t := joinN_snoc ([] ++ Lib.itoa s ++ [32, 80]) [x, y, v, b, wt] t
        rw [e]; simp only [List.length_append, List.length_cons, List.length_nil]; omega)
      subst hg
      have e : joinN ([] ++ Lib.itoa s ++ [32, 80]) ([x, y, v, b, wt, t].take 6) = textL s 1 x y v b wt t := by unfold textL; rw [show letterK 1 = 80 by decide]; rfl
      have E := Lib.hid e
      clear e hlt
      generalize joinN ([] ++ Lib.itoa s ++ [32, 80]) ([x, y, v, b, wt, t].take 6) = acc at *
      go_wp2
      go_ret
      exact ⟨ret_str E.out, HB1.out.trans (HBW.out.mono HB1.out.size)⟩
set_option maxHeartbeats 2000000 in
set_option maxRecDepth 100000 in
theorem text_good2 (s x y v b wt t : Int) (w : World) (hE : Env w) (h : checkI s 2 x y v b wt t = 0) :
    Calls Tryd.prog 28 #[.agg #[.int .i64 s, .int .u8 2, .int .i64 x, .int .i64 y, .int .i64 v, .int .i64 b, .int .i64 wt, .int .i64 t]] w (RetB (textL s 2 x y v b wt t) w) := by
  obtain ⟨⟨s0, s1⟩, hk, ⟨x0, x1, y0, y1⟩, ⟨v0, v1⟩, ⟨b0, b1⟩, ⟨t0, t1⟩, u0, u1⟩ := check_bd h
  have C0 := fun w => check_any s 2 x y v b wt t w (by omega) (by omega)
  rw [h] at C0
  have C := Lib.hid C0
  have HE := Lib.hid hE
  clear C0 h hE hk
  have ls := Lib.itoa_length_le s (by omega) (by omega)
  have NB := Lib.hid (show ∀ n ∈ [x, y, v, b, wt, t], -9223372036854775808 ≤ n ∧ n ≤ 9223372036854775807 by intro n hn; simp only [List.mem_cons, List.not_mem_nil, or_false] at hn; omega)
  go_enter Tryd.func28, Tryd.ntmps28
  go_wp2_with fail
  refine (C.out _).mono ?_
  rintro e w1 ⟨rfl, hb⟩
  have R1 := (rep8_new w s _ x y v b wt t _).keep hb (by simp)
  have HB1 := Lib.hid (below_box hb)
  have hz1' : w.heap.size < w1.heap.size := by have := hb.size; simp at this; omega
  have HT := Lib.hid (Lib.tabBelow_of_tabIs (HE.out.below HB1.out).tab)
  clear hb
  have HR1 := Lib.hid R1
  obtain ⟨c0, c1, c2, c3, c4, c5, c6, c7⟩ := R1
  go_wp2_with fail
  refine (apint w1.heap.size s [] _ w1 (by omega) (by omega) (World.ownsRow_nil _ _ _ _) (Nat.le_refl _) (by decide) HT.out).mono ?_
  rintro e w2 ⟨v2, rfl, ho2, hb2⟩
  have R2 := HR1.out.keep hb2 hz1'
  have HT2 := Lib.hid (HT.out.on hb2)
  have hz2' : w1.heap.size ≤ w2.heap.size := hb2.size
  have HB2 := Lib.hid hb2
  have HO2 := Lib.hid ho2
  clear hb2 ho2 c0 c1 c2 c3 c4 c5 c6 c7 HR1
  have HR2 := Lib.hid R2
  obtain ⟨c0, c1, c2, c3, c4, c5, c6, c7⟩ := R2
  go_wp2_with (at_builtin; refine Halt.mk ?_)
  unfold Halt
  refine wpList_ob rfl _ _ rfl w1.heap.size v2 ([] ++ Lib.itoa s) rfl w2 HO2.out _ _ [32, 82] 2 rfl rfl (by simp; omega) hz2' ?_
  intro v3 w3 ho3 hb3
  have R3 := HR2.out.keep hb3 hz1'
  have HB3 := Lib.hid (HB2.out.trans hb3)
  have HO3 := Lib.hid ho3
  clear hb3 ho3 c0 c1 c2 c3 c4 c5 c6 c7 HR2 HB2 HO2 HT2 hz2'
  obtain ⟨c0, c1, c2, c3, c4, c5, c6, c7⟩ := R3
  go_wp2
  clear c0 c1 c2 c3 c4 c5 c6 c7
  go_loopw [3, 34] (TxR w1 ([] ++ Lib.itoa s ++ [32, 82]) [x, y, v, b, wt, t]) (fun _ i _ => 6 - (intOf i).toNat)
  case atStart => exact ⟨0, by omega, rfl, HO3.out, HB3.out⟩
  case round =>
    obtain ⟨j, hj, rfl, hown, hbw⟩ := hrel
    have hz : w1.heap.size ≤ wr.heap.size := hbw.size
    have hlen0 := joinN_len ([] ++ Lib.itoa s ++ [32, 82]) ([x, y, v, b, wt, t].take j) (fun n hn => NB.out n (List.mem_of_mem_take hn))
    have hlen : (joinN ([] ++ Lib.itoa s ++ [32, 82]) ([x, y, v, b, wt, t].take j)).length ≤ 200 := by
      have : ([x, y, v, b, wt, t].take j).length ≤ 6 := by rw [List.length_take]; exact Nat.min_le_right _ _
      simp only [List.length_append, List.length_cons, List.length_nil] at hlen0 ⊢
      omega
    clear hlen0
    have HO := Lib.hid hown
    have HBW := Lib.hid hbw
    have HTW := Lib.hid (HT.out.on hbw)
    clear hown hbw
    by_cases hlt : j < 6
    · obtain ⟨n, hn, hn0, hn1, hx⟩ : ∃ n : Int, (∀ w, (Instr.index 68 (.agg #[.int .i64 x, .int .i64 y, .int .i64 v, .int .i64 b, .int .i64 wt, .int .i64 t]) (.int .i64 (j : Int))).run Tryd.prog w = .ok (.int .i64 n) w) ∧ -9223372036854775808 ≤ n ∧ n ≤ 9223372036854775807 ∧ [x, y, v, b, wt, t].take (j + 1) = [x, y, v, b, wt, t].take j ++ [n] := by
        rcases (show j = 0 ∨ j = 1 ∨ j = 2 ∨ j = 3 ∨ j = 4 ∨ j = 5 by omega) with rfl | rfl | rfl | rfl | rfl | rfl
        · exact ⟨x, fun _ => by kernel_rfl, by omega, by omega, rfl⟩
        · exact ⟨y, fun _ => by kernel_rfl, by omega, by omega, rfl⟩
        · exact ⟨v, fun _ => by kernel_rfl, by omega, by omega, rfl⟩
        · exact ⟨b, fun _ => by kernel_rfl, by omega, by omega, rfl⟩
        · exact ⟨wt, fun _ => by kernel_rfl, by omega, by omega, rfl⟩
        · exact ⟨t, fun _ => by kernel_rfl, by omega, by omega, rfl⟩
      have HX := Lib.hid (show joinN ([] ++ Lib.itoa s ++ [32, 82]) ([x, y, v, b, wt, t].take (j + 1)) = joinN ([] ++ Lib.itoa s ++ [32, 82]) ([x, y, v, b, wt, t].take j) ++ [32] ++ Lib.itoa n by rw [hx, joinN_snoc])
      clear hx
      generalize joinN ([] ++ Lib.itoa s ++ [32, 82]) ([x, y, v, b, wt, t].take j) = acc at *
      go_wp2_with (at_builtin; refine Halt.mk ?_)
      unfold Halt
      refine wpList_ob rfl _ _ rfl w1.heap.size _ acc (by first | rfl | assumption) wr HO.out _ _ [32] 1 rfl rfl (by simp; omega) hz ?_
      intro v4 w4 ho4 hb4
      have hz4 : w1.heap.size ≤ w4.heap.size := by have := hb4.size; omega
      have HO4 := Lib.hid ho4
      have HT4 := Lib.hid (HTW.out.on hb4)
      have HB4 := Lib.hid (HBW.out.trans hb4)
      clear ho4 hb4 hn
      go_wp2_with fail
      refine (apint w1.heap.size n (acc ++ [32]) v4 w4 hn0 hn1 HO4.out hz4 (by simp; omega) HT4.out).mono ?_
      rintro e w5 ⟨v5, rfl, ho5, hb5⟩
      have HO5 := Lib.hid ho5
      have HB5 := Lib.hid (HB4.out.trans hb5)
      clear ho5 hb5
      go_wp2
      go_roundw
      case rel => exact ⟨j + 1, by omega, by go_num, by rw [HX.out]; exact HO5.out, HB5.out⟩
      case measure => simp [intOf]; omega
    · obtain rfl : j = 6 := by omega
      obtain ⟨g, cap, hg, hconv⟩ := HO.out.conv (by
        have e : joinN ([] ++ Lib.itoa s ++ [32, 82]) ([x, y, v, b, wt, t].take 6) = joinN ([] ++ Lib.itoa s ++ [32, 82]) [x, y, v, b, wt] ++ [32] ++ Lib.itoa t := joinN_snoc ([] ++ Lib.itoa s ++ [32, 82]) [x, y, v, b, wt] t
        rw [e]; simp only [List.length_append, List.length_cons, List.length_nil]; omega)
      subst hg
      have e : joinN ([] ++ Lib.itoa s ++ [32, 82]) ([x, y, v, b, wt, t].take 6) = textL s 2 x y v b wt t := by unfold textL; rw [show letterK 2 = 82 by decide]; rfl
      have E := Lib.hid e
      clear e hlt
      generalize joinN ([] ++ Lib.itoa s ++ [32, 82]) ([x, y, v, b, wt, t].take 6) = acc at *
      go_wp2
      go_ret
      exact ⟨ret_str E.out, HB1.out.trans (HBW.out.mono HB1.out.size)⟩
set_option maxHeartbeats 2000000 in
set_option maxRecDepth 100000 in
theorem text_good3 (s x y v b wt t : Int) (w : World) (hE : Env w) (h : checkI s 3 x y v b wt t = 0) :
    Calls Tryd.prog 28 #[.agg #[.int .i64 s, .int .u8 3, .int .i64 x, .int .i64 y, .int .i64 v, .int .i64 b, .int .i64 wt, .int .i64 t]] w (RetB (textL s 3 x y v b wt t) w) := by
  obtain ⟨⟨s0, s1⟩, hk, ⟨x0, x1, y0, y1⟩, ⟨v0, v1⟩, ⟨b0, b1⟩, ⟨t0, t1⟩, u0, u1⟩ := check_bd h
  have C0 := fun w => check_any s 3 x y v b wt t w (by omega) (by omega)
  rw [h] at C0
  have C := Lib.hid C0
  have HE := Lib.hid hE
  clear C0 h hE hk
  have ls := Lib.itoa_length_le s (by omega) (by omega)
  have NB := Lib.hid (show ∀ n ∈ [x, y, v, b, wt, t], -9223372036854775808 ≤ n ∧ n ≤ 9223372036854775807 by intro n hn; simp only [List.mem_cons, List.not_mem_nil, or_false] at hn; omega)
  go_enter Tryd.func28, Tryd.ntmps28
  go_wp2_with fail
  refine (C.out _).mono ?_
  rintro e w1 ⟨rfl, hb⟩
  have R1 := (rep8_new w s _ x y v b wt t _).keep hb (by simp)
  have HB1 := Lib.hid (below_box hb)
  have hz1' : w.heap.size < w1.heap.size := by have := hb.size; simp at this; omega
  have HT := Lib.hid (Lib.tabBelow_of_tabIs (HE.out.below HB1.out).tab)
  clear hb
  have HR1 := Lib.hid R1
  obtain ⟨c0, c1, c2, c3, c4, c5, c6, c7⟩ := R1
  go_wp2_with fail
  refine (apint w1.heap.size s [] _ w1 (by omega) (by omega) (World.ownsRow_nil _ _ _ _) (Nat.le_refl _) (by decide) HT.out).mono ?_
  rintro e w2 ⟨v2, rfl, ho2, hb2⟩
  have R2 := HR1.out.keep hb2 hz1'
  have HT2 := Lib.hid (HT.out.on hb2)
  have hz2' : w1.heap.size ≤ w2.heap.size := hb2.size
  have HB2 := Lib.hid hb2
  have HO2 := Lib.hid ho2
  clear hb2 ho2 c0 c1 c2 c3 c4 c5 c6 c7 HR1
  have HR2 := Lib.hid R2
  obtain ⟨c0, c1, c2, c3, c4, c5, c6, c7⟩ := R2
  go_wp2_with (at_builtin; refine Halt.mk ?_)
  unfold Halt
  refine wpList_ob rfl _ _ rfl w1.heap.size v2 ([] ++ Lib.itoa s) rfl w2 HO2.out _ _ [32, 66] 2 rfl rfl (by simp; omega) hz2' ?_
  intro v3 w3 ho3 hb3
  have R3 := HR2.out.keep hb3 hz1'
  have HB3 := Lib.hid (HB2.out.trans hb3)
  have HO3 := Lib.hid ho3
  clear hb3 ho3 c0 c1 c2 c3 c4 c5 c6 c7 HR2 HB2 HO2 HT2 hz2'
  obtain ⟨c0, c1, c2, c3, c4, c5, c6, c7⟩ := R3
  go_wp2
  clear c0 c1 c2 c3 c4 c5 c6 c7
  go_loopw [3, 34] (TxR w1 ([] ++ Lib.itoa s ++ [32, 66]) [x, y, v, b, wt, t]) (fun _ i _ => 6 - (intOf i).toNat)
  case atStart => exact ⟨0, by omega, rfl, HO3.out, HB3.out⟩
  case round =>
    obtain ⟨j, hj, rfl, hown, hbw⟩ := hrel
    have hz : w1.heap.size ≤ wr.heap.size := hbw.size
    have hlen0 := joinN_len ([] ++ Lib.itoa s ++ [32, 66]) ([x, y, v, b, wt, t].take j) (fun n hn => NB.out n (List.mem_of_mem_take hn))
    have hlen : (joinN ([] ++ Lib.itoa s ++ [32, 66]) ([x, y, v, b, wt, t].take j)).length ≤ 200 := by
      have : ([x, y, v, b, wt, t].take j).length ≤ 6 := by rw [List.length_take]; exact Nat.min_le_right _ _
      simp only [List.length_append, List.length_cons, List.length_nil] at hlen0 ⊢
      omega
    clear hlen0
    have HO := Lib.hid hown
    have HBW := Lib.hid hbw
    have HTW := Lib.hid (HT.out.on hbw)
    clear hown hbw
    by_cases hlt : j < 6
    · obtain ⟨n, hn, hn0, hn1, hx⟩ : ∃ n : Int, (∀ w, (Instr.index 68 (.agg #[.int .i64 x, .int .i64 y, .int .i64 v, .int .i64 b, .int .i64 wt, .int .i64 t]) (.int .i64 (j : Int))).run Tryd.prog w = .ok (.int .i64 n) w) ∧ -9223372036854775808 ≤ n ∧ n ≤ 9223372036854775807 ∧ [x, y, v, b, wt, t].take (j + 1) = [x, y, v, b, wt, t].take j ++ [n] := by
        rcases (show j = 0 ∨ j = 1 ∨ j = 2 ∨ j = 3 ∨ j = 4 ∨ j = 5 by omega) with rfl | rfl | rfl | rfl | rfl | rfl
        · exact ⟨x, fun _ => by kernel_rfl, by omega, by omega, rfl⟩
        · exact ⟨y, fun _ => by kernel_rfl, by omega, by omega, rfl⟩
        · exact ⟨v, fun _ => by kernel_rfl, by omega, by omega, rfl⟩
        · exact ⟨b, fun _ => by kernel_rfl, by omega, by omega, rfl⟩
        · exact ⟨wt, fun _ => by kernel_rfl, by omega, by omega, rfl⟩
        · exact ⟨t, fun _ => by kernel_rfl, by omega, by omega, rfl⟩
      have HX := Lib.hid (show joinN ([] ++ Lib.itoa s ++ [32, 66]) ([x, y, v, b, wt, t].take (j + 1)) = joinN ([] ++ Lib.itoa s ++ [32, 66]) ([x, y, v, b, wt, t].take j) ++ [32] ++ Lib.itoa n by rw [hx, joinN_snoc])
      clear hx
      generalize joinN ([] ++ Lib.itoa s ++ [32, 66]) ([x, y, v, b, wt, t].take j) = acc at *
      go_wp2_with (at_builtin; refine Halt.mk ?_)
      unfold Halt
      refine wpList_ob rfl _ _ rfl w1.heap.size _ acc (by first | rfl | assumption) wr HO.out _ _ [32] 1 rfl rfl (by simp; omega) hz ?_
      intro v4 w4 ho4 hb4
      have hz4 : w1.heap.size ≤ w4.heap.size := by have := hb4.size; omega
      have HO4 := Lib.hid ho4
      have HT4 := Lib.hid (HTW.out.on hb4)
      have HB4 := Lib.hid (HBW.out.trans hb4)
      clear ho4 hb4 hn
      go_wp2_with fail
      refine (apint w1.heap.size n (acc ++ [32]) v4 w4 hn0 hn1 HO4.out hz4 (by simp; omega) HT4.out).mono ?_
      rintro e w5 ⟨v5, rfl, ho5, hb5⟩
      have HO5 := Lib.hid ho5
      have HB5 := Lib.hid (HB4.out.trans hb5)
      clear ho5 hb5
      go_wp2
      go_roundw
      case rel => exact ⟨j + 1, by omega, by go_num, by rw [HX.out]; exact HO5.out, HB5.out⟩
      case measure => simp [intOf]; omega
    · obtain rfl : j = 6 := by omega
      obtain ⟨g, cap, hg, hconv⟩ := HO.out.conv (by
        have e : joinN ([] ++ Lib.itoa s ++ [32, 66]) ([x, y, v, b, wt, t].take 6) = joinN ([] ++ Lib.itoa s ++ [32, 66]) [x, y, v, b, wt] ++ [32] ++ Lib.itoa t := joinN_snoc ([] ++ Lib.itoa s ++ [32, 66]) [x, y, v, b, wt] t
        rw [e]; simp only [List.length_append, List.length_cons, List.length_nil]; omega)
      subst hg
      have e : joinN ([] ++ Lib.itoa s ++ [32, 66]) ([x, y, v, b, wt, t].take 6) = textL s 3 x y v b wt t := by unfold textL; rw [show letterK 3 = 66 by decide]; rfl
      have E := Lib.hid e
      clear e hlt
      generalize joinN ([] ++ Lib.itoa s ++ [32, 66]) ([x, y, v, b, wt, t].take 6) = acc at *
      go_wp2
      go_ret
      exact ⟨ret_str E.out, HB1.out.trans (HBW.out.mono HB1.out.size)⟩
/-- the text of a report, at every input -/
def textF (s k x y v b wt t : Int) : List UInt8 := if checkI s k x y v b wt t = 0 then textL s k x y v b wt t else []
theorem text_any (s k x y v b wt t : Int) (w : World) (hE : Env w) (k0 : 0 ≤ k) (k1 : k ≤ 255) :
    Calls Tryd.prog 28 #[.agg #[.int .i64 s, .int .u8 k, .int .i64 x, .int .i64 y, .int .i64 v, .int .i64 b, .int .i64 wt, .int .i64 t]] w (RetB (textF s k x y v b wt t) w) := by
  unfold textF
  by_cases h : checkI s k x y v b wt t = 0
  · rw [if_pos h]
    obtain ⟨-, hk, -⟩ := check_bd h
    rcases hk with rfl | rfl | rfl
    · exact text_good1 s x y v b wt t w hE h
    · exact text_good2 s x y v b wt t w hE h
    · exact text_good3 s x y v b wt t w hE h
  · rw [if_neg h]
    exact text_bad s k x y v b wt t w k0 k1 h
end Go.Proofs.YtnnafjmfbnnnjaaDoor
