/-
  The walk of the reference's Fields: the strings between single blanks.
-/
import Derived.Test.YtnnafjmfbnnnjaaDoorFldPlain
import Derived.Test.YtnnafjmfbnnnjaaDoorNumber
import Derived.Test.YtnnafjmfbnnnjaaDoorTextWalk41
namespace Go.Proofs.YtnnafjmfbnnnjaaDoor
set_option linter.unusedVariables false
open Go.RowKit

def strV (l : List UInt8) : Value := .string ⟨l.toArray⟩
/-- a slice of the call's own that holds these strings -/
def OS (B : Nat) (w : World) (v : Value) (F : List (List UInt8)) : Prop := w.ownsRow B 9 1 v F.length (F.map strV)
theorem infoStr : (Tryd.prog.info? 9).map (fun i => (i.zero, i.size, i.bytes)) = some (some (.string ByteArray.empty), 1, 16) := by kernel_rfl
theorem wpList_os {ops : Array Oper} {rest : List Oper} {o : Oper} {a : Act} {Q : Exit → Act → World → Prop} (hgd : o.guard = none) (s x : Operand)
    (ho : o.op = .call { callee := .builtin .append, args := #[s, x], argTypes := #[69, 69] })
    (B : Nat) (v : Value) (F : List (List UInt8)) (hs : a.eval s = v) (w0 : World) (h : OS B w0 v F) (T : TypeId) (t : ByteArray) (c : Nat)
    (hx : a.eval x = .slice (some ⟨w0.heap.size, 0, none⟩) 1 c) (hl : F.length ≤ 100000) (hB : B ≤ w0.heap.size)
    (H : ∀ v' w', OS B w' v' (F ++ [t.data.toList]) → Below B w0 w' → wpList Tryd.prog ops Q rest (a.put o.dst v') w') : wpList Tryd.prog ops Q (o :: rest) a (w0.alloc (.cells #[.string t] T)) := by
  obtain ⟨i0, hi, hz0, hz1, hz2⟩ := info_parts infoStr
  refine wpList_append_own _ hgd s x 69 ho B 9 i0 (.string ByteArray.empty) 1 16 Tryd.underlying69 hi hz0 hz1 hz2 rfl (by decide) v F.length (F.map strV) hs (World.ownsRow.alloc h _) ⟨w0.heap.size, 0, none⟩ 1 c [.string t] hx rfl ?_ ?_ (by unfold maxLen; omega) (by omega) (by simp; omega) ?_
  · intro j u hu
    have hj : j = 0 := by
      cases j with
      | zero => rfl
      | succ j => simp at hu
    subst hj
    have hadd : (⟨w0.heap.size, 0, none⟩ : Addr).add 0 = ⟨w0.heap.size, 0, none⟩ := by unfold Addr.add; split <;> simp_all
    rw [hadd, World.cell?_alloc_at _ _ _ _ (by rfl)]
    simpa using hu
  · intro u hu
    simp only [List.mem_cons, List.not_mem_nil, or_false] at hu
    subst hu; rfl
  · intro v' w' ho' hg _
    refine H v' w' ?_ ?_
    · unfold OS
      rw [List.length_append, List.map_append]
      have e : [t.data.toList].map strV = [Value.string t] := by simp [strV]
      rw [e]
      exact ho'
    · refine (((Below.refl B w0).alloc hB (.cells #[.string t] T))).grown hg (by simp; omega) ?_
      intro q hq
      exact (World.ownsRow.lt h q hq).1
theorem ext_mid (s : ByteArray) (f k : Nat) (h1 : f ≤ k) (h2 : k < s.size) : (s.extract f (k + 1)).data.toList = (s.extract f k).data.toList ++ [s[k]] := by
  rw [ByteArray.data_extract, ByteArray.data_extract, Array.toList_extract, Array.toList_extract]
  simp only [List.extract]
  have h3 : k - f < (s.data.toList.drop f).length := by rw [List.length_drop, len_data]; omega
  rw [show k + 1 - f = (k - f) + 1 by omega, List.take_succ_eq_append_getElem h3, List.getElem_drop]
  congr 2
  simp [show f + (k - f) = k by omega]
  rfl
theorem ext_nil (s : ByteArray) (f : Nat) : (s.extract f f).data.toList = [] := by
  rw [ByteArray.data_extract, Array.toList_extract]
  simp [List.extract]
/-- what holds at the head of a round -/
def FlR (s : ByteArray) (w1 : World) (s3 s4 s5 : Value) (w' : World) : Prop :=
  (∃ k f : Nat, k ≤ s.size ∧ f ≤ k ∧ s5 = .int .i64 k ∧ s4 = .int .i64 f ∧ OS w1.heap.size w' s3 (fpart (s.data.toList.take k)).1 ∧ Hid ((s.extract f k).data.toList = (fpart (s.data.toList.take k)).2) ∧ (fpart (s.data.toList.take k)).1.length ≤ k ∧ Below w1.heap.size w1 w') ∨
  (s5 = .int .i64 ((s.size : Int) + 1) ∧ OS w1.heap.size w' s3 (fieldsL s.data.toList) ∧ Below w1.heap.size w1 w')
def RetOS (F : List (List UInt8)) (w : World) (e : Ending) (w' : World) : Prop := ∃ v, e = .returned v ∧ OS w.heap.size w' v F ∧ Below w.heap.size w w'
theorem fpart_blank (s : ByteArray) (k : Nat) (h : k < s.size) (hc : (s[k].toNat : Int) = 32) : fpart (s.data.toList.take (k + 1)) = ((fpart (s.data.toList.take k)).1 ++ [(fpart (s.data.toList.take k)).2], []) := by
  rw [take_snoc s k h, fpart_snoc]
  unfold fstep
  rw [if_pos (UInt8.toNat_inj.1 (by show s[k].toNat = 32; omega))]
theorem fpart_other (s : ByteArray) (k : Nat) (h : k < s.size) (hc : ¬ (s[k].toNat : Int) = 32) : fpart (s.data.toList.take (k + 1)) = ((fpart (s.data.toList.take k)).1, (fpart (s.data.toList.take k)).2 ++ [s[k]]) := by
  rw [take_snoc s k h, fpart_snoc]
  unfold fstep
  rw [if_neg (fun e => hc (by rw [e]; rfl))]
set_option maxHeartbeats 2000000 in
set_option maxRecDepth 100000 in
theorem fields_ref (s : ByteArray) (w : World) (hs : s.size ≤ 1000) :
    Calls Tryd.prog 66 #[.string s] w (RetOS (fieldsL s.data.toList) w) := by
  have BL := Lib.hid (fpart_blank s)
  have OT := Lib.hid (fpart_other s)
  have XM := Lib.hid (ext_mid s)
  go_enter Tryd.func66, Tryd.ntmps66
  go_wp2
  go_loopw [3, 4, 5] (FlR s w) (fun _ _ i _ => s.size + 2 - (intOf i).toNat)
  case atStart => exact .inl ⟨0, 0, Nat.zero_le _, Nat.le_refl _, rfl, rfl, World.ownsRow_lit w #[] 0 (Nat.le_refl _) (by decide) rfl, ext_nil s 0, Nat.le_refl _, (Below.refl _ _).alloc (Nat.le_refl _) _⟩
  case round =>
    rcases hrel with ⟨k, f, hk, hf, rfl, rfl, hos, hx, hlen, hbw⟩ | ⟨rfl, hos, hbw⟩
    · have HB := Lib.hid hbw
      have HO := Lib.hid hos
      have hz : w.heap.size ≤ wr.heap.size := hbw.size
      clear hbw hos
      by_cases hlt : k < s.size
      · have f0 : ((k : Int) == (s.size : Int)) = false := by simp; omega
        by_cases hc : (s[k].toNat : Int) = 32
        · have f1 : ((s[k].toNat : Int) == 32) = true := by simpa using hc
          have HP := Lib.hid (BL.out k hlt hc)
          clear hc
          go_wp2_with (at_builtin; refine Halt.mk ?_)
          unfold Halt
          refine wpList_os rfl _ _ rfl w.heap.size _ (fpart (s.data.toList.take k)).1 (by first | rfl | assumption) wr HO.out _ (s.extract f k) _ rfl (by omega) hz ?_
          intro v4 w4 ho4 hb4
          have HO4 := Lib.hid ho4
          have HB4 := Lib.hid (HB.out.trans hb4)
          clear ho4 hb4
          go_wp2
          go_roundw
          case rel =>
            refine .inl ⟨k + 1, k + 1, by omega, Nat.le_refl _, by go_num, by go_num, ?_, ?_, ?_, HB4.out⟩
            · rw [HP.out, ← hx.out]; exact HO4.out
            · show (s.extract (k + 1) (k + 1)).data.toList = _
              rw [HP.out]; exact ext_nil s (k + 1)
            · rw [HP.out]; simp; omega
          case measure => simp [intOf]; omega
        · have f1 : ((s[k].toNat : Int) == 32) = false := by simpa using hc
          have HP := Lib.hid (OT.out k hlt hc)
          clear hc
          go_wp2
          go_roundw
          case rel =>
            refine .inl ⟨k + 1, f, by omega, by omega, by go_num, rfl, ?_, ?_, ?_, HB.out⟩
            · rw [HP.out]; exact HO.out
            · show (s.extract f (k + 1)).data.toList = _
              rw [HP.out, XM.out f k hf hlt, hx.out]
            · rw [HP.out]; simp; omega
          case measure => simp [intOf]; omega
      · obtain rfl : k = s.size := by omega
        have f0 : ((s.size : Int) == (s.size : Int)) = true := by simp
        have e0 : s.data.toList.take s.size = s.data.toList := List.take_of_length_le (by rw [len_data]; exact Nat.le_refl _)
        rw [e0] at HO hx hlen
        clear e0
        go_wp2_with (at_builtin; refine Halt.mk ?_)
        unfold Halt
        refine wpList_os rfl _ _ rfl w.heap.size _ (fpart s.data.toList).1 (by first | rfl | assumption) wr HO.out _ (s.extract f s.size) _ rfl (by omega) hz ?_
        intro v4 w4 ho4 hb4
        have HO4 := Lib.hid ho4
        have HB4 := Lib.hid (HB.out.trans hb4)
        clear ho4 hb4
        go_wp2
        go_roundw
        case rel => exact .inr ⟨by go_num, by unfold fieldsL; rw [← hx.out]; exact HO4.out, HB4.out⟩
        case measure => simp [intOf]
    · have HB := Lib.hid hbw
      have HO := Lib.hid hos
      clear hbw hos
      go_wp2
      go_ret
      exact ⟨_, rfl, HO.out, HB.out⟩
end Go.Proofs.YtnnafjmfbnnnjaaDoor
