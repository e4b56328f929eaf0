/-
  The walk of the reference's Text: the bytes that it makes.
-/
import Derived.Test.YtnnafjmfbnnnjaaDoorTextWalk41
import Derived.Test.YtnnafjmfbnnnjaaDoorDecimal41
namespace Go.Proofs.YtnnafjmfbnnnjaaDoor
set_option linter.unusedVariables false
open Go.RowKit Tr Sq

def TxR2 (w0 : World) (base : List UInt8) (nums : List Int) (s4 s38 : Value) (w' : World) : Prop := ∃ (j : Nat) (a : ByteArray), j ≤ 6 ∧ s38 = .int .i64 j ∧ s4 = .string a ∧ Hid (a.data.toList = joinN base (nums.take j)) ∧ a.size ≤ 200 ∧ Below w0.heap.size w0 w'
theorem cat3 (a d : ByteArray) : (a ++ (⟨#[32]⟩ ++ d)).data.toList = a.data.toList ++ [32] ++ d.data.toList := by
  rw [ByteArray.data_append, ByteArray.data_append]
  simp
theorem cat2 (d : ByteArray) (c : UInt8) : (d ++ ⟨#[32]⟩ ++ ⟨#[c]⟩).data.toList = d.data.toList ++ [32, c] := by
  rw [ByteArray.data_append, ByteArray.data_append]
  simp
theorem ret_str2 {a : ByteArray} {b : List UInt8} (h : a.data.toList = b) : Ending.returned (.string a) = .returned (.string ⟨b.toArray⟩) := by rw [← h]
theorem tsize {a : ByteArray} {l : List UInt8} (h : a.data.toList = l) : a.size = l.length := by rw [← h, Array.length_toList]; rfl
set_option maxHeartbeats 2000000 in
set_option maxRecDepth 100000 in
theorem text_ref_good1 (s x y v b wt t : Int) (w : World) (h : checkI s 1 x y v b wt t = 0) :
    Calls Tryd.prog 30 #[.agg #[.int .i64 s, .int .u8 1, .int .i64 x, .int .i64 y, .int .i64 v, .int .i64 b, .int .i64 wt, .int .i64 t]] w (RetB (textL s 1 x y v b wt t) w) := by
  obtain ⟨⟨s0, s1⟩, hk, ⟨x0, x1, y0, y1⟩, ⟨v0, v1⟩, ⟨b0, b1⟩, ⟨t0, t1⟩, u0, u1⟩ := check_bd h
  have C0 := fun w => check_ref s 1 x y v b wt t w (by omega) (by omega)
  rw [h] at C0
  have C := Lib.hid C0
  clear C0 h hk
  obtain ⟨d0, hd0⟩ : ∃ d : ByteArray, (⟨(Lib.itoa s).toArray⟩ : ByteArray) = d := ⟨_, rfl⟩
  have D0 := fun w => decimal_any s w (by omega) (by omega)
  rw [hd0] at D0
  have DD := Lib.hid D0
  have ls := Lib.itoa_length_le s (by omega) (by omega)
  have hl0 : d0.data.toList = Lib.itoa s := by rw [← hd0]
  have lz : d0.size ≤ 21 := by rw [tsize hl0]; exact ls
  have n1 : ¬ 9223372036854775807 < d0.size + 1 := by omega
  have n2 : ¬ 9223372036854775807 < d0.size + 1 + 1 := by omega
  have hb0 := Lib.hid (show (d0 ++ ⟨#[32]⟩ ++ ⟨#[80]⟩).data.toList = (Lib.itoa s ++ [32, letterK 1]) by rw [cat2, hl0]; rfl)
  have NB := Lib.hid (show ∀ n ∈ [x, y, v, b, wt, t], -9223372036854775807 ≤ n ∧ n ≤ 9223372036854775807 by intro n hn; simp only [List.mem_cons, List.not_mem_nil, or_false] at hn; omega)
  clear D0 hd0 hl0
  go_enter Tryd.func30, Tryd.ntmps30
  go_wp2_with fail
  refine (C.out _).mono ?_
  rintro e w1 ⟨rfl, hb⟩
  have R1 := (rep8_new w s _ x y v b wt t _).keep hb (by simp)
  have HB1 := Lib.hid (below_box hb)
  have hz1' : w.heap.size < w1.heap.size := by have := hb.size; simp at this; omega
  clear hb
  have HR1 := Lib.hid R1
  obtain ⟨c0, c1, c2, c3, c4, c5, c6, c7⟩ := R1
  go_wp2_with fail
  refine (DD.out _).mono ?_
  rintro e w2 ⟨rfl, hb2⟩
  have R2 := HR1.out.keep hb2 hz1'
  have HB2 := Lib.hid (HB1.out.trans (hb2.mono HB1.out.size))
  clear hb2 c0 c1 c2 c3 c4 c5 c6 c7 HR1
  obtain ⟨c0, c1, c2, c3, c4, c5, c6, c7⟩ := R2
  go_wp2
  have q0 : (w2.alloc (.cells #[.int .i64 x, .int .i64 y, .int .i64 v, .int .i64 b, .int .i64 wt, .int .i64 t] 2)).cell? ⟨w2.heap.size, 0, none⟩ = some (.int .i64 x) := by go_simp
  have q1 : (w2.alloc (.cells #[.int .i64 x, .int .i64 y, .int .i64 v, .int .i64 b, .int .i64 wt, .int .i64 t] 2)).cell? ⟨w2.heap.size, 1, none⟩ = some (.int .i64 y) := by go_simp
  have q2 : (w2.alloc (.cells #[.int .i64 x, .int .i64 y, .int .i64 v, .int .i64 b, .int .i64 wt, .int .i64 t] 2)).cell? ⟨w2.heap.size, 2, none⟩ = some (.int .i64 v) := by go_simp
  have q3 : (w2.alloc (.cells #[.int .i64 x, .int .i64 y, .int .i64 v, .int .i64 b, .int .i64 wt, .int .i64 t] 2)).cell? ⟨w2.heap.size, 3, none⟩ = some (.int .i64 b) := by go_simp
  have q4 : (w2.alloc (.cells #[.int .i64 x, .int .i64 y, .int .i64 v, .int .i64 b, .int .i64 wt, .int .i64 t] 2)).cell? ⟨w2.heap.size, 4, none⟩ = some (.int .i64 wt) := by go_simp
  have q5 : (w2.alloc (.cells #[.int .i64 x, .int .i64 y, .int .i64 v, .int .i64 b, .int .i64 wt, .int .i64 t] 2)).cell? ⟨w2.heap.size, 5, none⟩ = some (.int .i64 t) := by go_simp
  have hz2 : w2.heap.size < (w2.alloc (.cells #[.int .i64 x, .int .i64 y, .int .i64 v, .int .i64 b, .int .i64 wt, .int .i64 t] 2)).heap.size := by simp
  have HB3 := Lib.hid (HB2.out.alloc HB2.out.size (.cells #[.int .i64 x, .int .i64 y, .int .i64 v, .int .i64 b, .int .i64 wt, .int .i64 t] 2))
  generalize hW : w2.alloc (.cells #[.int .i64 x, .int .i64 y, .int .i64 v, .int .i64 b, .int .i64 wt, .int .i64 t] 2) = w3 at *
  clear hW c0 c1 c2 c3 c4 c5 c6 c7
  go_loopw [4, 38] (TxR2 w3 (Lib.itoa s ++ [32, letterK 1]) [x, y, v, b, wt, t]) (fun _ i _ => 6 - (intOf i).toNat)
  case atStart => exact ⟨0, _, by omega, rfl, rfl, hb0.out, by rw [tsize hb0.out]; simp; omega, Below.refl _ _⟩
  case round =>
    obtain ⟨j, a, hj, rfl, rfl, hl, hs, hbw⟩ := hrel
    have HBW := Lib.hid hbw
    by_cases hlt : j < 6
    · obtain ⟨n, hc, hn0, hn1, hx⟩ : ∃ n : Int, wr.cell? ⟨w2.heap.size, j, none⟩ = some (.int .i64 n) ∧ -9223372036854775807 ≤ n ∧ n ≤ 9223372036854775807 ∧ [x, y, v, b, wt, t].take (j + 1) = [x, y, v, b, wt, t].take j ++ [n] := by
        have K := fun i => hbw.cell (p := ⟨w2.heap.size, i, none⟩) hz2
        rcases (show j = 0 ∨ j = 1 ∨ j = 2 ∨ j = 3 ∨ j = 4 ∨ j = 5 by omega) with rfl | rfl | rfl | rfl | rfl | rfl
        · exact ⟨x, (K 0).trans q0, by omega, by omega, rfl⟩
        · exact ⟨y, (K 1).trans q1, by omega, by omega, rfl⟩
        · exact ⟨v, (K 2).trans q2, by omega, by omega, rfl⟩
        · exact ⟨b, (K 3).trans q3, by omega, by omega, rfl⟩
        · exact ⟨wt, (K 4).trans q4, by omega, by omega, rfl⟩
        · exact ⟨t, (K 5).trans q5, by omega, by omega, rfl⟩
      obtain ⟨d, hd⟩ : ∃ d : ByteArray, (⟨(Lib.itoa n).toArray⟩ : ByteArray) = d := ⟨_, rfl⟩
      have D1 := fun w => decimal_any n w hn0 hn1
      rw [hd] at D1
      have D2 := Lib.hid D1
      have hld : d.data.toList = Lib.itoa n := by rw [← hd]
      have ld : d.size ≤ 21 := by rw [tsize hld]; exact Lib.itoa_length_le n (by omega) hn1
      have HX := Lib.hid (show (a ++ (⟨#[32]⟩ ++ d)).data.toList = joinN (Lib.itoa s ++ [32, letterK 1]) ([x, y, v, b, wt, t].take (j + 1)) by rw [cat3, hl.out, hld, hx, joinN_snoc])
      have hlen : (a ++ (⟨#[32]⟩ ++ d)).size ≤ 200 := by
        rw [tsize HX.out]
        have hl0 := joinN_len (Lib.itoa s ++ [32, letterK 1]) ([x, y, v, b, wt, t].take (j + 1)) (fun n hn => by have := NB.out n (List.mem_of_mem_take hn); omega)
        have : ([x, y, v, b, wt, t].take (j + 1)).length ≤ 6 := by rw [List.length_take]; exact Nat.min_le_right _ _
        simp only [List.length_append, List.length_cons, List.length_nil] at hl0 ⊢
        omega
      have m1 : ¬ 9223372036854775807 < 1 + d.size := by omega
      have m2 : ¬ 9223372036854775807 < a.size + (1 + d.size) := by omega
      clear D1 hd hld hx hbw q0 q1 q2 q3 q4 q5 n1 n2
      go_wp2_with fail
      refine (D2.out _).mono ?_
      rintro e w5 ⟨rfl, hb5⟩
      have HB5 := Lib.hid (HBW.out.trans (hb5.mono HBW.out.size))
      clear hb5 hc
      go_wp2
      go_roundw
      case rel => exact ⟨j + 1, _, by omega, by go_num, rfl, HX.out, hlen, HB5.out⟩
      case measure => simp [intOf]; omega
    · obtain rfl : j = 6 := by omega
      have E := Lib.hid (show a.data.toList = textL s 1 x y v b wt t by rw [hl.out]; rfl)
      clear hbw q0 q1 q2 q3 q4 q5 n1 n2
      go_wp2
      go_ret
      exact ⟨ret_str2 E.out, HB3.out.trans (HBW.out.mono HB3.out.size)⟩
set_option maxHeartbeats 2000000 in
set_option maxRecDepth 100000 in
theorem text_ref_good2 (s x y v b wt t : Int) (w : World) (h : checkI s 2 x y v b wt t = 0) :
    Calls Tryd.prog 30 #[.agg #[.int .i64 s, .int .u8 2, .int .i64 x, .int .i64 y, .int .i64 v, .int .i64 b, .int .i64 wt, .int .i64 t]] w (RetB (textL s 2 x y v b wt t) w) := by
  obtain ⟨⟨s0, s1⟩, hk, ⟨x0, x1, y0, y1⟩, ⟨v0, v1⟩, ⟨b0, b1⟩, ⟨t0, t1⟩, u0, u1⟩ := check_bd h
  have C0 := fun w => check_ref s 2 x y v b wt t w (by omega) (by omega)
  rw [h] at C0
  have C := Lib.hid C0
  clear C0 h hk
  obtain ⟨d0, hd0⟩ : ∃ d : ByteArray, (⟨(Lib.itoa s).toArray⟩ : ByteArray) = d := ⟨_, rfl⟩
  have D0 := fun w => decimal_any s w (by omega) (by omega)
  rw [hd0] at D0
  have DD := Lib.hid D0
  have ls := Lib.itoa_length_le s (by omega) (by omega)
  have hl0 : d0.data.toList = Lib.itoa s := by rw [← hd0]
  have lz : d0.size ≤ 21 := by rw [tsize hl0]; exact ls
  have n1 : ¬ 9223372036854775807 < d0.size + 1 := by omega
  have n2 : ¬ 9223372036854775807 < d0.size + 1 + 1 := by omega
  have hb0 := Lib.hid (show (d0 ++ ⟨#[32]⟩ ++ ⟨#[82]⟩).data.toList = (Lib.itoa s ++ [32, letterK 2]) by rw [cat2, hl0]; rfl)
  have NB := Lib.hid (show ∀ n ∈ [x, y, v, b, wt, t], -9223372036854775807 ≤ n ∧ n ≤ 9223372036854775807 by intro n hn; simp only [List.mem_cons, List.not_mem_nil, or_false] at hn; omega)
  clear D0 hd0 hl0
  go_enter Tryd.func30, Tryd.ntmps30
  go_wp2_with fail
  refine (C.out _).mono ?_
  rintro e w1 ⟨rfl, hb⟩
  have R1 := (rep8_new w s _ x y v b wt t _).keep hb (by simp)
  have HB1 := Lib.hid (below_box hb)
  have hz1' : w.heap.size < w1.heap.size := by have := hb.size; simp at this; omega
  clear hb
  have HR1 := Lib.hid R1
  obtain ⟨c0, c1, c2, c3, c4, c5, c6, c7⟩ := R1
  go_wp2_with fail
  refine (DD.out _).mono ?_
  rintro e w2 ⟨rfl, hb2⟩
  have R2 := HR1.out.keep hb2 hz1'
  have HB2 := Lib.hid (HB1.out.trans (hb2.mono HB1.out.size))
  clear hb2 c0 c1 c2 c3 c4 c5 c6 c7 HR1
  obtain ⟨c0, c1, c2, c3, c4, c5, c6, c7⟩ := R2
  go_wp2
  have q0 : (w2.alloc (.cells #[.int .i64 x, .int .i64 y, .int .i64 v, .int .i64 b, .int .i64 wt, .int .i64 t] 2)).cell? ⟨w2.heap.size, 0, none⟩ = some (.int .i64 x) := by go_simp
  have q1 : (w2.alloc (.cells #[.int .i64 x, .int .i64 y, .int .i64 v, .int .i64 b, .int .i64 wt, .int .i64 t] 2)).cell? ⟨w2.heap.size, 1, none⟩ = some (.int .i64 y) := by go_simp
  have q2 : (w2.alloc (.cells #[.int .i64 x, .int .i64 y, .int .i64 v, .int .i64 b, .int .i64 wt, .int .i64 t] 2)).cell? ⟨w2.heap.size, 2, none⟩ = some (.int .i64 v) := by go_simp
  have q3 : (w2.alloc (.cells #[.int .i64 x, .int .i64 y, .int .i64 v, .int .i64 b, .int .i64 wt, .int .i64 t] 2)).cell? ⟨w2.heap.size, 3, none⟩ = some (.int .i64 b) := by go_simp
  have q4 : (w2.alloc (.cells #[.int .i64 x, .int .i64 y, .int .i64 v, .int .i64 b, .int .i64 wt, .int .i64 t] 2)).cell? ⟨w2.heap.size, 4, none⟩ = some (.int .i64 wt) := by go_simp
  have q5 : (w2.alloc (.cells #[.int .i64 x, .int .i64 y, .int .i64 v, .int .i64 b, .int .i64 wt, .int .i64 t] 2)).cell? ⟨w2.heap.size, 5, none⟩ = some (.int .i64 t) := by go_simp
  have hz2 : w2.heap.size < (w2.alloc (.cells #[.int .i64 x, .int .i64 y, .int .i64 v, .int .i64 b, .int .i64 wt, .int .i64 t] 2)).heap.size := by simp
  have HB3 := Lib.hid (HB2.out.alloc HB2.out.size (.cells #[.int .i64 x, .int .i64 y, .int .i64 v, .int .i64 b, .int .i64 wt, .int .i64 t] 2))
  generalize hW : w2.alloc (.cells #[.int .i64 x, .int .i64 y, .int .i64 v, .int .i64 b, .int .i64 wt, .int .i64 t] 2) = w3 at *
  clear hW c0 c1 c2 c3 c4 c5 c6 c7
  go_loopw [4, 38] (TxR2 w3 (Lib.itoa s ++ [32, letterK 2]) [x, y, v, b, wt, t]) (fun _ i _ => 6 - (intOf i).toNat)
  case atStart => exact ⟨0, _, by omega, rfl, rfl, hb0.out, by rw [tsize hb0.out]; simp; omega, Below.refl _ _⟩
  case round =>
    obtain ⟨j, a, hj, rfl, rfl, hl, hs, hbw⟩ := hrel
    have HBW := Lib.hid hbw
    by_cases hlt : j < 6
    · obtain ⟨n, hc, hn0, hn1, hx⟩ : ∃ n : Int, wr.cell? ⟨w2.heap.size, j, none⟩ = some (.int .i64 n) ∧ -9223372036854775807 ≤ n ∧ n ≤ 9223372036854775807 ∧ [x, y, v, b, wt, t].take (j + 1) = [x, y, v, b, wt, t].take j ++ [n] := by
        have K := fun i => hbw.cell (p := ⟨w2.heap.size, i, none⟩) hz2
        rcases (show j = 0 ∨ j = 1 ∨ j = 2 ∨ j = 3 ∨ j = 4 ∨ j = 5 by omega) with rfl | rfl | rfl | rfl | rfl | rfl
        · exact ⟨x, (K 0).trans q0, by omega, by omega, rfl⟩
        · exact ⟨y, (K 1).trans q1, by omega, by omega, rfl⟩
        · exact ⟨v, (K 2).trans q2, by omega, by omega, rfl⟩
        · exact ⟨b, (K 3).trans q3, by omega, by omega, rfl⟩
        · exact ⟨wt, (K 4).trans q4, by omega, by omega, rfl⟩
        · exact ⟨t, (K 5).trans q5, by omega, by omega, rfl⟩
      obtain ⟨d, hd⟩ : ∃ d : ByteArray, (⟨(Lib.itoa n).toArray⟩ : ByteArray) = d := ⟨_, rfl⟩
      have D1 := fun w => decimal_any n w hn0 hn1
      rw [hd] at D1
      have D2 := Lib.hid D1
      have hld : d.data.toList = Lib.itoa n := by rw [← hd]
      have ld : d.size ≤ 21 := by rw [tsize hld]; exact Lib.itoa_length_le n (by omega) hn1
      have HX := Lib.hid (show (a ++ (⟨#[32]⟩ ++ d)).data.toList = joinN (Lib.itoa s ++ [32, letterK 2]) ([x, y, v, b, wt, t].take (j + 1)) by rw [cat3, hl.out, hld, hx, joinN_snoc])
      have hlen : (a ++ (⟨#[32]⟩ ++ d)).size ≤ 200 := by
        rw [tsize HX.out]
        have hl0 := joinN_len (Lib.itoa s ++ [32, letterK 2]) ([x, y, v, b, wt, t].take (j + 1)) (fun n hn => by have := NB.out n (List.mem_of_mem_take hn); omega)
        have : ([x, y, v, b, wt, t].take (j + 1)).length ≤ 6 := by rw [List.length_take]; exact Nat.min_le_right _ _
        simp only [List.length_append, List.length_cons, List.length_nil] at hl0 ⊢
        omega
      have m1 : ¬ 9223372036854775807 < 1 + d.size := by omega
      have m2 : ¬ 9223372036854775807 < a.size + (1 + d.size) := by omega
      clear D1 hd hld hx hbw q0 q1 q2 q3 q4 q5 n1 n2
      go_wp2_with fail
      refine (D2.out _).mono ?_
      rintro e w5 ⟨rfl, hb5⟩
      have HB5 := Lib.hid (HBW.out.trans (hb5.mono HBW.out.size))
      clear hb5 hc
      go_wp2
      go_roundw
      case rel => exact ⟨j + 1, _, by omega, by go_num, rfl, HX.out, hlen, HB5.out⟩
      case measure => simp [intOf]; omega
    · obtain rfl : j = 6 := by omega
      have E := Lib.hid (show a.data.toList = textL s 2 x y v b wt t by rw [hl.out]; rfl)
      clear hbw q0 q1 q2 q3 q4 q5 n1 n2
      go_wp2
      go_ret
      exact ⟨ret_str2 E.out, HB3.out.trans (HBW.out.mono HB3.out.size)⟩
set_option maxHeartbeats 2000000 in
set_option maxRecDepth 100000 in
theorem text_ref_good3 (s x y v b wt t : Int) (w : World) (h : checkI s 3 x y v b wt t = 0) :
    Calls Tryd.prog 30 #[.agg #[.int .i64 s, .int .u8 3, .int .i64 x, .int .i64 y, .int .i64 v, .int .i64 b, .int .i64 wt, .int .i64 t]] w (RetB (textL s 3 x y v b wt t) w) := by
  obtain ⟨⟨s0, s1⟩, hk, ⟨x0, x1, y0, y1⟩, ⟨v0, v1⟩, ⟨b0, b1⟩, ⟨t0, t1⟩, u0, u1⟩ := check_bd h
  have C0 := fun w => check_ref s 3 x y v b wt t w (by omega) (by omega)
  rw [h] at C0
  have C := Lib.hid C0
  clear C0 h hk
  obtain ⟨d0, hd0⟩ : ∃ d : ByteArray, (⟨(Lib.itoa s).toArray⟩ : ByteArray) = d := ⟨_, rfl⟩
  have D0 := fun w => decimal_any s w (by omega) (by omega)
  rw [hd0] at D0
  have DD := Lib.hid D0
  have ls := Lib.itoa_length_le s (by omega) (by omega)
  have hl0 : d0.data.toList = Lib.itoa s := by rw [← hd0]
  have lz : d0.size ≤ 21 := by rw [tsize hl0]; exact ls
  have n1 : ¬ 9223372036854775807 < d0.size + 1 := by omega
  have n2 : ¬ 9223372036854775807 < d0.size + 1 + 1 := by omega
  have hb0 := Lib.hid (show (d0 ++ ⟨#[32]⟩ ++ ⟨#[66]⟩).data.toList = (Lib.itoa s ++ [32, letterK 3]) by rw [cat2, hl0]; rfl)
  have NB := Lib.hid (show ∀ n ∈ [x, y, v, b, wt, t], -9223372036854775807 ≤ n ∧ n ≤ 9223372036854775807 by intro n hn; simp only [List.mem_cons, List.not_mem_nil, or_false] at hn; omega)
  clear D0 hd0 hl0
  go_enter Tryd.func30, Tryd.ntmps30
  go_wp2_with fail
  refine (C.out _).mono ?_
  rintro e w1 ⟨rfl, hb⟩
  have R1 := (rep8_new w s _ x y v b wt t _).keep hb (by simp)
  have HB1 := Lib.hid (below_box hb)
  have hz1' : w.heap.size < w1.heap.size := by have := hb.size; simp at this; omega
  clear hb
  have HR1 := Lib.hid R1
  obtain ⟨c0, c1, c2, c3, c4, c5, c6, c7⟩ := R1
  go_wp2_with fail
  refine (DD.out _).mono ?_
  rintro e w2 ⟨rfl, hb2⟩
  have R2 := HR1.out.keep hb2 hz1'
  have HB2 := Lib.hid (HB1.out.trans (hb2.mono HB1.out.size))
  clear hb2 c0 c1 c2 c3 c4 c5 c6 c7 HR1
  obtain ⟨c0, c1, c2, c3, c4, c5, c6, c7⟩ := R2
  go_wp2
  have q0 : (w2.alloc (.cells #[.int .i64 x, .int .i64 y, .int .i64 v, .int .i64 b, .int .i64 wt, .int .i64 t] 2)).cell? ⟨w2.heap.size, 0, none⟩ = some (.int .i64 x) := by go_simp
  have q1 : (w2.alloc (.cells #[.int .i64 x, .int .i64 y, .int .i64 v, .int .i64 b, .int .i64 wt, .int .i64 t] 2)).cell? ⟨w2.heap.size, 1, none⟩ = some (.int .i64 y) := by go_simp
  have q2 : (w2.alloc (.cells #[.int .i64 x, .int .i64 y, .int .i64 v, .int .i64 b, .int .i64 wt, .int .i64 t] 2)).cell? ⟨w2.heap.size, 2, none⟩ = some (.int .i64 v) := by go_simp
  have q3 : (w2.alloc (.cells #[.int .i64 x, .int .i64 y, .int .i64 v, .int .i64 b, .int .i64 wt, .int .i64 t] 2)).cell? ⟨w2.heap.size, 3, none⟩ = some (.int .i64 b) := by go_simp
  have q4 : (w2.alloc (.cells #[.int .i64 x, .int .i64 y, .int .i64 v, .int .i64 b, .int .i64 wt, .int .i64 t] 2)).cell? ⟨w2.heap.size, 4, none⟩ = some (.int .i64 wt) := by go_simp
  have q5 : (w2.alloc (.cells #[.int .i64 x, .int .i64 y, .int .i64 v, .int .i64 b, .int .i64 wt, .int .i64 t] 2)).cell? ⟨w2.heap.size, 5, none⟩ = some (.int .i64 t) := by go_simp
  have hz2 : w2.heap.size < (w2.alloc (.cells #[.int .i64 x, .int .i64 y, .int .i64 v, .int .i64 b, .int .i64 wt, .int .i64 t] 2)).heap.size := by simp
  have HB3 := Lib.hid (HB2.out.alloc HB2.out.size (.cells #[.int .i64 x, .int .i64 y, .int .i64 v, .int .i64 b, .int .i64 wt, .int .i64 t] 2))
  generalize hW : w2.alloc (.cells #[.int .i64 x, .int .i64 y, .int .i64 v, .int .i64 b, .int .i64 wt, .int .i64 t] 2) = w3 at *
  clear hW c0 c1 c2 c3 c4 c5 c6 c7
  go_loopw [4, 38] (TxR2 w3 (Lib.itoa s ++ [32, letterK 3]) [x, y, v, b, wt, t]) (fun _ i _ => 6 - (intOf i).toNat)
  case atStart => exact ⟨0, _, by omega, rfl, rfl, hb0.out, by rw [tsize hb0.out]; simp; omega, Below.refl _ _⟩
  case round =>
    obtain ⟨j, a, hj, rfl, rfl, hl, hs, hbw⟩ := hrel
    have HBW := Lib.hid hbw
    by_cases hlt : j < 6
    · obtain ⟨n, hc, hn0, hn1, hx⟩ : ∃ n : Int, wr.cell? ⟨w2.heap.size, j, none⟩ = some (.int .i64 n) ∧ -9223372036854775807 ≤ n ∧ n ≤ 9223372036854775807 ∧ [x, y, v, b, wt, t].take (j + 1) = [x, y, v, b, wt, t].take j ++ [n] := by
        have K := fun i => hbw.cell (p := ⟨w2.heap.size, i, none⟩) hz2
        rcases (show j = 0 ∨ j = 1 ∨ j = 2 ∨ j = 3 ∨ j = 4 ∨ j = 5 by omega) with rfl | rfl | rfl | rfl | rfl | rfl
        · exact ⟨x, (K 0).trans q0, by omega, by omega, rfl⟩
        · exact ⟨y, (K 1).trans q1, by omega, by omega, rfl⟩
        · exact ⟨v, (K 2).trans q2, by omega, by omega, rfl⟩
        · exact ⟨b, (K 3).trans q3, by omega, by omega, rfl⟩
        · exact ⟨wt, (K 4).trans q4, by omega, by omega, rfl⟩
        · exact ⟨t, (K 5).trans q5, by omega, by omega, rfl⟩
      obtain ⟨d, hd⟩ : ∃ d : ByteArray, (⟨(Lib.itoa n).toArray⟩ : ByteArray) = d := ⟨_, rfl⟩
      have D1 := fun w => decimal_any n w hn0 hn1
      rw [hd] at D1
      have D2 := Lib.hid D1
      have hld : d.data.toList = Lib.itoa n := by rw [← hd]
      have ld : d.size ≤ 21 := by rw [tsize hld]; exact Lib.itoa_length_le n (by omega) hn1
      have HX := Lib.hid (show (a ++ (⟨#[32]⟩ ++ d)).data.toList = joinN (Lib.itoa s ++ [32, letterK 3]) ([x, y, v, b, wt, t].take (j + 1)) by rw [cat3, hl.out, hld, hx, joinN_snoc])
      have hlen : (a ++ (⟨#[32]⟩ ++ d)).size ≤ 200 := by
        rw [tsize HX.out]
        have hl0 := joinN_len (Lib.itoa s ++ [32, letterK 3]) ([x, y, v, b, wt, t].take (j + 1)) (fun n hn => by have := NB.out n (List.mem_of_mem_take hn); omega)
        have : ([x, y, v, b, wt, t].take (j + 1)).length ≤ 6 := by rw [List.length_take]; exact Nat.min_le_right _ _
        simp only [List.length_append, List.length_cons, List.length_nil] at hl0 ⊢
        omega
      have m1 : ¬ 9223372036854775807 < 1 + d.size := by omega
      have m2 : ¬ 9223372036854775807 < a.size + (1 + d.size) := by omega
      clear D1 hd hld hx hbw q0 q1 q2 q3 q4 q5 n1 n2
      go_wp2_with fail
      refine (D2.out _).mono ?_
      rintro e w5 ⟨rfl, hb5⟩
      have HB5 := Lib.hid (HBW.out.trans (hb5.mono HBW.out.size))
      clear hb5 hc
      go_wp2
      go_roundw
      case rel => exact ⟨j + 1, _, by omega, by go_num, rfl, HX.out, hlen, HB5.out⟩
      case measure => simp [intOf]; omega
    · obtain rfl : j = 6 := by omega
      have E := Lib.hid (show a.data.toList = textL s 3 x y v b wt t by rw [hl.out]; rfl)
      clear hbw q0 q1 q2 q3 q4 q5 n1 n2
      go_wp2
      go_ret
      exact ⟨ret_str2 E.out, HB3.out.trans (HBW.out.mono HB3.out.size)⟩
theorem text_ref_bad (s k x y v b wt t : Int) (w : World) (k0 : 0 ≤ k) (k1 : k ≤ 255) (h : checkI s k x y v b wt t ≠ 0) :
    Calls Tryd.prog 30 #[.agg #[.int .i64 s, .int .u8 k, .int .i64 x, .int .i64 y, .int .i64 v, .int .i64 b, .int .i64 wt, .int .i64 t]] w (RetB [] w) := by
  have C0 := fun w => check_ref s k x y v b wt t w k0 k1
  have g1 : (checkI s k x y v b wt t == 0) = false := by simpa using h
  have g1' : (checkI s k x y v b wt t != 0) = true := by simpa using h
  clear h
  generalize checkI s k x y v b wt t = en at *
  have C := Lib.hid C0
  clear C0
  go_enter Tryd.func30, Tryd.ntmps30
  go_wp2_with fail
  refine (C.out _).mono ?_
  rintro e w1 ⟨rfl, hb⟩
  have HB := Lib.hid (below_box hb)
  clear hb
  go_wp2
  go_ret
  exact ⟨rfl, HB.out⟩
theorem text_ref (s k x y v b wt t : Int) (w : World) (k0 : 0 ≤ k) (k1 : k ≤ 255) :
    Calls Tryd.prog 30 #[.agg #[.int .i64 s, .int .u8 k, .int .i64 x, .int .i64 y, .int .i64 v, .int .i64 b, .int .i64 wt, .int .i64 t]] w (RetB (textF s k x y v b wt t) w) := by
  unfold textF
  by_cases h : checkI s k x y v b wt t = 0
  · rw [if_pos h]
    obtain ⟨-, hk, -⟩ := check_bd h
    rcases hk with rfl | rfl | rfl
    · exact text_ref_good1 s x y v b wt t w h
    · exact text_ref_good2 s x y v b wt t w h
    · exact text_ref_good3 s x y v b wt t w h
  · rw [if_neg h]
    exact text_ref_bad s k x y v b wt t w k0 k1 h
end Go.Proofs.YtnnafjmfbnnnjaaDoor
