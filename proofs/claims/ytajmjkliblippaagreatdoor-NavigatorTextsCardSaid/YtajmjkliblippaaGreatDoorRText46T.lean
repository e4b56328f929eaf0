/-
  The walk of the reference's Text.
-/
import Derived.Test.YtajmjkliblippaaGreatDoorM83
import Derived.Test.YtajmjkliblippaaGreatDoorM64
import Derived.Test.YtajmjkliblippaaGreatDoorTy1
import Derived.Test.YtajmjkliblippaaGreatDoorRef46AT
import Derived.Test.YtajmjkliblippaaGreatDoorText46T
namespace Go.Proofs.YtajmjkliblippaaGreatDoor
set_option linter.unusedVariables false
open Go.RowKit Tx Ty

def RtR (w0 : World) (nums : List Int) (s3 s29 : Value) (w' : World) : Prop := ∃ (j : Nat) (a : ByteArray), j ≤ 6 ∧ s29 = .int .i64 j ∧ s3 = .string a ∧ a.data.toList = txN (nums.take j) ∧ a.size ≤ 200 ∧ Below w0.heap.size w0 w'
set_option maxHeartbeats 40000000 in
set_option maxRecDepth 100000 in
theorem rtextS_any (b : Bx4) (t m : Int) (w : World) : Calls Tryz.prog 27 #[.agg #[.int .i64 b.cx, .int .i64 b.cy, .int .i64 b.x, .int .i64 b.y, .int .i64 t, .int .i64 m]] w fun e w' => e = .returned (.string ⟨(textS b t m).toArray⟩) ∧ Below w.heap.size w w' := by
  have C0 := fun w => rcheck_any b t m w
  unfold textS
  by_cases h : chkS b t m = 0
  · rw [if_pos h]
    obtain ⟨hv, ⟨t0, t1⟩, m0, m1⟩ := chkS_ok h
    have v := bxV_iff.1 hv
    have NB := Lib.hid (show ∀ n ∈ [b.cx, b.cy, b.x, b.y, t, m], -9223372036854775807 ≤ n ∧ n ≤ 9223372036854775807 by intro n hn; simp only [List.mem_cons, List.not_mem_nil, or_false] at hn; omega)
    rw [h] at C0
    have CK := Lib.hid C0
    clear C0 h hv v t0 t1 m0 m1
    obtain ⟨cx, cy, x, y⟩ := b
    simp only at CK NB ⊢
    obtain ⟨KS, HB⟩ := ent1 w #[.int .i64 cx, .int .i64 cy, .int .i64 x, .int .i64 y, .int .i64 t, .int .i64 m] 27
    go_enter Tryz.func27, Tryz.ntmps27
    obtain ⟨yS_0, yS_1, yS_2, yS_3, yS_4, yS_5, yS_z⟩ := blk6 KS
    go_wp2_with fail
    clear yS_0 yS_1 yS_2 yS_3 yS_4 yS_5 yS_z
    generalize w.alloc (.cells #[.int .i64 cx, .int .i64 cy, .int .i64 x, .int .i64 y, .int .i64 t, .int .i64 m] 27) = w0 at *
    refine (CK.out _).mono ?_
    rintro e1 w1 ⟨rfl, hb1⟩
    replace HB := hT HB hb1
    replace KS := hK KS hb1
    clear hb1
    obtain ⟨yS_0, yS_1, yS_2, yS_3, yS_4, yS_5, yS_z⟩ := blk6 KS
    go_wp2
    clear yS_0 yS_1 yS_2 yS_3 yS_4 yS_5 yS_z
    obtain ⟨KV, hb2⟩ := alB w1 #[.int .i64 cx, .int .i64 cy, .int .i64 x, .int .i64 y, .int .i64 t, .int .i64 m] 2
    have hnV := HB.out.size
    have nzV_S := KS.out.lt
    replace HB := hT HB hb2
    replace KS := hK KS hb2
    clear hb2
    generalize w1.alloc (.cells #[.int .i64 cx, .int .i64 cy, .int .i64 x, .int .i64 y, .int .i64 t, .int .i64 m] 2) = w2 at *
    generalize w1.heap.size = bV at *
    have neV_S : bV ≠ w.heap.size := by omega
    clear nzV_S
    clear KS
    have HB1 := HB
    have hV1 := KV.out.lt
    have KV1 := KV
    have h11 := HB.out.size
    go_loopw [3, 29] (RtR w2 [cx, cy, x, y, t, m]) (fun _ i _ => 6 - (intOf i).toNat)
    case atStart => exact ⟨0, ⟨#[]⟩, by omega, rfl, rfl, rfl, by decide, Below.refl _ _⟩
    case round =>
      obtain ⟨j, a, hj, rfl, rfl, hl, hs, hbw⟩ := hrel
      have HBW := Lib.hid hbw
      have KW := Lib.hid (KV1.out.below hbw)
      clear hbw KV HB
      by_cases hlt : j < 6
      · have q6 : decide ((j : Int) < 6) = true := by simp; omega
        have q6' : decide (j < 6) = true := by simpa using hlt
        obtain ⟨n, hc, hn0, hn1, hx⟩ : ∃ n : Int, wr.cell? ⟨bV, j, none⟩ = some (.int .i64 n) ∧ -9223372036854775807 ≤ n ∧ n ≤ 9223372036854775807 ∧ [cx, cy, x, y, t, m].take (j + 1) = [cx, cy, x, y, t, m].take j ++ [n] := by
          have nb := NB.out
          rcases (show j = 0 ∨ j = 1 ∨ j = 2 ∨ j = 3 ∨ j = 4 ∨ j = 5 by omega) with rfl | rfl | rfl | rfl | rfl | rfl
          · exact ⟨cx, KW.out.c 0 _ rfl, (nb cx (by simp)).1, (nb cx (by simp)).2, rfl⟩
          · exact ⟨cy, KW.out.c 1 _ rfl, (nb cy (by simp)).1, (nb cy (by simp)).2, rfl⟩
          · exact ⟨x, KW.out.c 2 _ rfl, (nb x (by simp)).1, (nb x (by simp)).2, rfl⟩
          · exact ⟨y, KW.out.c 3 _ rfl, (nb y (by simp)).1, (nb y (by simp)).2, rfl⟩
          · exact ⟨t, KW.out.c 4 _ rfl, (nb t (by simp)).1, (nb t (by simp)).2, rfl⟩
          · exact ⟨m, KW.out.c 5 _ rfl, (nb m (by simp)).1, (nb m (by simp)).2, rfl⟩
        obtain ⟨d, hd⟩ : ∃ d : ByteArray, (⟨(Lib.itoa n).toArray⟩ : ByteArray) = d := ⟨_, rfl⟩
        have D1 := fun w => decimal_any n w hn0 hn1
        rw [hd] at D1
        have D2 := Lib.hid D1
        have hld : d.data.toList = Lib.itoa n := by rw [← hd]
        have ld : d.size ≤ 21 := by rw [tsize hld]; exact Lib.itoa_length_le n (by omega) hn1
        clear D1 hd
        have TL := txN_len ([cx, cy, x, y, t, m].take (j + 1)) (fun n hn => by have := NB.out n (List.mem_of_mem_take hn); omega) (by rw [List.length_take]; omega)
        have hz1 : bV < wr.heap.size := KW.out.lt
        have n1 : ¬ 9223372036854775807 < a.size + 1 := by omega
        have n2 : ¬ 9223372036854775807 < a.size + 1 + d.size := by omega
        have n3 : ¬ 9223372036854775807 < a.size + (1 + d.size) := by omega
        have n4 : ¬ 9223372036854775807 < a.size + d.size := by omega
        by_cases h0 : j = 0
        · have g0 : decide (0 < j) = false := by simp; omega
          have g0' : decide ((0 : Int) < (j : Int)) = false := by simp; omega
          have HX := Lib.hid (show (a ++ d).data.toList = txN ([cx, cy, x, y, t, m].take (j + 1)) by rw [hx]; subst h0; rw [ByteArray.data_append, Array.toList_append, hl, hld]; rfl)
          have hlen : (a ++ d).size ≤ 200 := by rw [tsize HX.out]; exact TL
          clear hx hl hld h0 TL
          go_wp2_with fail
          refine (D2.out _).mono ?_
          rintro e w5 ⟨rfl, hb5⟩
          have HB5 := Lib.hid (HBW.out.trans (hb5.mono HBW.out.size))
          clear hb5 hc
          go_wp2
          go_roundw
          case rel => exact ⟨j + 1, _, by omega, by go_num, rfl, HX.out, hlen, HB5.out⟩
          case measure => simp [intOf]; omega
        · have g0 : decide (0 < j) = true := by simp; omega
          have g0' : decide ((0 : Int) < (j : Int)) = true := by simp; omega
          have HX := Lib.hid (show (a ++ (⟨#[32]⟩ ++ d)).data.toList = txN ([cx, cy, x, y, t, m].take (j + 1)) by rw [cat3, hl, hld, hx]; exact (txN_snoc (by intro e; have := congrArg List.length e; rw [List.length_take] at this; simp at this; omega) n).symm)
          have HX2 := Lib.hid (show (a ++ ⟨#[32]⟩ ++ d).data.toList = _ from (congrArg (fun z : ByteArray => z.data.toList) (show a ++ ⟨#[32]⟩ ++ d = a ++ (⟨#[32]⟩ ++ d) from ByteArray.append_assoc)).trans HX.out)
          have hlen : (a ++ (⟨#[32]⟩ ++ d)).size ≤ 200 := by rw [tsize HX.out]; exact TL
          have hlen2 : (a ++ ⟨#[32]⟩ ++ d).size ≤ 200 := by rw [tsize HX2.out]; exact TL
          clear hx hl hld h0 TL
          go_wp2_with fail
          refine (D2.out _).mono ?_
          rintro e w5 ⟨rfl, hb5⟩
          have HB5 := Lib.hid (HBW.out.trans (hb5.mono HBW.out.size))
          clear hb5 hc
          go_wp2
          go_roundw
          case rel => first | exact ⟨j + 1, _, by omega, by go_num, rfl, HX.out, hlen, HB5.out⟩ | exact ⟨j + 1, _, by omega, by go_num, rfl, HX2.out, hlen2, HB5.out⟩
          case measure => simp [intOf]; omega
      · obtain rfl : j = 6 := by omega
        have q6 : decide ((6 : Int) < 6) = false := by decide
        have E := Lib.hid (show a.data.toList = txN [cx, cy, x, y, t, m] by rw [hl]; rfl)
        clear hl
        go_wp2
        go_ret
        exact ⟨ret_str2 E.out, HB1.out.trans (HBW.out.mono h11)⟩
  · rw [if_neg h]
    have ge : (chkS b t m != 0) = true := by simpa using h
    have CK := Lib.hid C0
    clear C0 h
    generalize chkS b t m = e at *
    obtain ⟨cx, cy, x, y⟩ := b
    simp only at CK
    obtain ⟨KS, HB⟩ := ent1 w #[.int .i64 cx, .int .i64 cy, .int .i64 x, .int .i64 y, .int .i64 t, .int .i64 m] 27
    go_enter Tryz.func27, Tryz.ntmps27
    obtain ⟨yS_0, yS_1, yS_2, yS_3, yS_4, yS_5, yS_z⟩ := blk6 KS
    go_wp2_with fail
    clear yS_0 yS_1 yS_2 yS_3 yS_4 yS_5 yS_z
    generalize w.alloc (.cells #[.int .i64 cx, .int .i64 cy, .int .i64 x, .int .i64 y, .int .i64 t, .int .i64 m] 27) = w0 at *
    refine (CK.out _).mono ?_
    rintro e1 w1 ⟨rfl, hb1⟩
    replace HB := hT HB hb1
    replace KS := hK KS hb1
    clear hb1
    go_wp2
    go_ret
    exact ⟨rfl, HB.out⟩
end Go.Proofs.YtajmjkliblippaaGreatDoor
