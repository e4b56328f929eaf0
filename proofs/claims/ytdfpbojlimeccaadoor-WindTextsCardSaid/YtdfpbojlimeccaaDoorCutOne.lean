/-
  strings.Cut at a text of one letter: no bound on the other text but the model's own.
-/
import Derived.Test.YtdfpbojlimeccaaDoorShelf
import Derived.WalkKit
import Derived.Lib.CutLaws
import Derived.Deep.QuietTactic
namespace Go.Proofs.YtdfpbojlimeccaaDoor
set_option linter.unusedVariables false
open Go.RowKit

def CutIs (s : ByteArray) (c : UInt8) (w : World) (e : Ending) (w' : World) : Prop :=
  e = .returned (.tuple #[.string ⟨(Lib.cut s.data.toList [c]).1.toArray⟩, .string ⟨(Lib.cut s.data.toList [c]).2.1.toArray⟩, .bool (Lib.cut s.data.toList [c]).2.2]) ∧ ∃ n, w' = w.drewN n
theorem cutIs_mk {s a b : ByteArray} {c : UInt8} {f : Bool} {w w' : World} {n : Nat} (ha : (⟨(Lib.cut s.data.toList [c]).1.toArray⟩ : ByteArray) = a) (hb : (⟨(Lib.cut s.data.toList [c]).2.1.toArray⟩ : ByteArray) = b) (hf : (Lib.cut s.data.toList [c]).2.2 = f) (hw : w' = w.drewN n) :
    CutIs s c w (.returned (.tuple #[.string a, .string b, .bool f])) w' := ⟨by rw [ha, hb, hf], n, hw⟩
set_option maxHeartbeats 1000000 in
set_option maxRecDepth 100000 in
theorem cut_lite (s : ByteArray) (c : UInt8) (w : World) (hs : s.size ≤ 9223372036854775807) :
    Calls Tryd.prog 77 #[.string s, .string ⟨#[c]⟩] w (CutIs s c w) := by
  rcases Lib.indexB_cases s ⟨#[c]⟩ with hi | ⟨i, hi, hr⟩
  · have g : Lib.indexByte s.data.toList c = -1 := (Lib.index_one _ _).symm.trans hi
    have M := Lib.hid (Lib.cutB_miss s ⟨#[c]⟩ hi)
    go_enter Tryd.func77, Tryd.ntmps77
    go_wp2_with (go_at_call 90; refine (Tryd.stringslite_Index_one s c _).mono ?_; rintro e w1 ⟨rfl, rfl⟩; rw [g])
    go_ret3
    exact cutIs_mk (n := 0) M.out.1 M.out.2.1 M.out.2.2 rfl
  · have g : Lib.indexByte s.data.toList c = (i : Int) := (Lib.index_one _ _).symm.trans hi
    have M := Lib.hid (Lib.cutB_hit s ⟨#[c]⟩ i hi)
    have hz : (⟨#[c]⟩ : ByteArray).size = 1 := rfl
    rw [hz] at hr
    have c1 : (0 : Int) ≤ ↑i := by omega
    have c2 : (↑i : Int) ≤ ↑s.size := by omega
    have c3 : (0 : Int) ≤ ↑i + 1 := by omega
    have c4 : (↑i + 1 : Int) ≤ ↑s.size := by omega
    go_enter Tryd.func77, Tryd.ntmps77
    go_wp2_with (go_at_call 90; refine (Tryd.stringslite_Index_one s c _).mono ?_; rintro e w1 ⟨rfl, rfl⟩; rw [g])
    go_region
    go_wp2
    go_ret3
    exact cutIs_mk (n := 1) M.out.1 M.out.2.1 M.out.2.2 rfl
set_option maxHeartbeats 1000000 in
theorem cut_one (s : ByteArray) (c : UInt8) (w : World) (hs : s.size ≤ 9223372036854775807) :
    Calls Tryd.prog 58 #[.string s, .string ⟨#[c]⟩] w (CutIs s c w) := by
  go_enter Tryd.func58, Tryd.ntmps58
  go_wp2_with (go_at_call 77; refine (cut_lite s c _ hs).mono ?_; rintro e w1 ⟨rfl, n, rfl⟩)
  go_ret3
  exact ⟨rfl, n, rfl⟩
end Go.Proofs.YtdfpbojlimeccaaDoor
