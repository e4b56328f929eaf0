/-
  Walks and laws of the layers below, gathered from several texts.
-/
import Derived.WalkKit
import Derived.Test.YtajmjkliblippaaGreatDoorQ4
import Derived.Test.YtajmjkliblippaaGreatDoorQ5
set_option linter.unusedVariables false
namespace Go.Proofs.YtajmjkliblippaaGreatDoor.S41
open Go.RowKit Tr Sq
theorem ret_bool {a b:Bool} (h:a = b):Ending.returned (.bool a) = .returned (.bool b):=by rw [h]
theorem bcell {W w1:World} (hb:Below W.heap.size W w1):(∀ b o,b < W.heap.size→w1.cell? ⟨b,o,none⟩ = W.cell? ⟨b,o,none⟩)∧(∀ b o,b < W.heap.size→w1.frozen? ⟨b,o,none⟩ = W.frozen? ⟨b,o,none⟩):=
 ⟨fun b o h=>hb.cell (p:=⟨b,o,none⟩) h,fun b o h=>hb.frozen (p:=⟨b,o,none⟩) h⟩
theorem below_box {w w1:World} {o:Obj} (hb:Below (w.alloc o).heap.size (w.alloc o) w1):Below w.heap.size w w1:=((Below.refl _ _).alloc (Nat.le_refl _) _).trans (hb.mono (by simp))
theorem from_any (x lo hi:Int) (w:World):Calls Tryz.prog 51 #[.int .i64 x,.int .i64 lo,.int .i64 hi] w fun e w'=>e = .returned (.bool (fromB x lo hi))∧w = w':=by
 cases g1:decide (lo≤x) with
 | false =>
  go_enter Tryz.func51,Tryz.ntmps51
  go_wp2
  go_ret
  exact ⟨ret_bool (by unfold fromB; rw [g1]; rfl),rfl⟩
 | true =>
  go_enter Tryz.func51,Tryz.ntmps51
  go_wp2
  go_ret
  exact ⟨ret_bool (by unfold fromB; rw [g1]; rfl),rfl⟩
theorem pvalid_any (x y:Int) (w:World):Calls Tryz.prog 49 #[.agg #[.int .i64 x,.int .i64 y]] w fun e w'=>e = .returned (.bool (pvB x y))∧Below w.heap.size w w':=by
 cases g1:decide (-2000000≤x) with
 | false =>
  go_enter Tryz.func49,Tryz.ntmps49
  go_wp2
  go_ret
  exact ⟨ret_bool (by unfold pvB; rw [g1]; rfl),(Below.refl _ _).alloc (Nat.le_refl _) _⟩
 | true =>
  cases g2:decide (x≤2000000) with
  | false =>
   go_enter Tryz.func49,Tryz.ntmps49
   go_wp2
   go_ret
   exact ⟨ret_bool (by unfold pvB; rw [g1,g2]; rfl),(Below.refl _ _).alloc (Nat.le_refl _) _⟩
  | true =>
   cases g3:decide (-2000000≤y) with
   | false =>
    go_enter Tryz.func49,Tryz.ntmps49
    go_wp2
    go_ret
    exact ⟨ret_bool (by unfold pvB; rw [g1,g2,g3]; rfl),(Below.refl _ _).alloc (Nat.le_refl _) _⟩
   | true =>
    cases g4:decide (y≤2000000) with
    | false =>
     go_enter Tryz.func49,Tryz.ntmps49
     go_wp2
     go_ret
     exact ⟨ret_bool (by unfold pvB; rw [g1,g2,g3,g4]; rfl),(Below.refl _ _).alloc (Nat.le_refl _) _⟩
    | true =>
     go_enter Tryz.func49,Tryz.ntmps49
     go_wp2
     go_ret
     exact ⟨ret_bool (by unfold pvB; rw [g1,g2,g3,g4]; rfl),(Below.refl _ _).alloc (Nat.le_refl _) _⟩
set_option maxHeartbeats 4000000
set_option maxRecDepth 100000
theorem check_any (s k x y v b wt t:Int) (w:World) (k0:0≤k) (k1:k≤255):Calls Tryz.prog 40 #[.agg #[.int .i64 s,.int .u8 k,.int .i64 x,.int .i64 y,.int .i64 v,.int .i64 b,.int .i64 wt,.int .i64 t]] w fun e w'=>e = .returned (.int .i64 (checkI s k x y v b wt t))∧Below w.heap.size w w':=by
 cases g1:fromB s 1 8 with
 | false =>
  go_enter Tryz.func40,Tryz.ntmps40
  go_wp2_with (first
   | (go_at_call 51; refine (from_any _ _ _ _).mono ?_; rintro e w' ⟨rfl,rfl⟩)
   | (go_at_call 49; refine (pvalid_any _ _ _).mono ?_; rintro e w1 ⟨rfl,hb⟩; obtain ⟨hc,hf⟩:=bcell hb))
  go_ret
  exact ⟨ret_int (by unfold checkI okA; simp [g1]),(Below.refl _ _).alloc (Nat.le_refl _) _⟩
 | true =>
  cases g2:decide (1≤k) with
  | false =>
   have ng2:decide (k < 1) = true:=by simp at g2 ⊢; omega
   go_enter Tryz.func40,Tryz.ntmps40
   go_wp2_with (first
    | (go_at_call 51; refine (from_any _ _ _ _).mono ?_; rintro e w' ⟨rfl,rfl⟩)
    | (go_at_call 49; refine (pvalid_any _ _ _).mono ?_; rintro e w1 ⟨rfl,hb⟩; obtain ⟨hc,hf⟩:=bcell hb))
   go_ret
   exact ⟨ret_int (by unfold checkI okA; simp [g1,g2]),(Below.refl _ _).alloc (Nat.le_refl _) _⟩
  | true =>
   cases g3:decide (k≤3) with
   | false =>
    have ng2:decide (k < 1) = false:=by simp at g2 ⊢; omega
    have ng3:decide (3 < k) = true:=by simp at g3 ⊢; omega
    go_enter Tryz.func40,Tryz.ntmps40
    go_wp2_with (first
     | (go_at_call 51; refine (from_any _ _ _ _).mono ?_; rintro e w' ⟨rfl,rfl⟩)
     | (go_at_call 49; refine (pvalid_any _ _ _).mono ?_; rintro e w1 ⟨rfl,hb⟩; obtain ⟨hc,hf⟩:=bcell hb))
    go_ret
    exact ⟨ret_int (by unfold checkI okA; simp [g1,g2,g3]),(Below.refl _ _).alloc (Nat.le_refl _) _⟩
   | true =>
    cases g4:pvB x y with
    | false =>
     have ng2:decide (k < 1) = false:=by simp at g2 ⊢; omega
     have ng3:decide (3 < k) = false:=by simp at g3 ⊢; omega
     go_enter Tryz.func40,Tryz.ntmps40
     go_wp2_with (first
      | (go_at_call 51; refine (from_any _ _ _ _).mono ?_; rintro e w' ⟨rfl,rfl⟩)
      | (go_at_call 49; refine (pvalid_any _ _ _).mono ?_; rintro e w1 ⟨rfl,hb⟩; obtain ⟨hc,hf⟩:=bcell hb))
     go_ret
     exact ⟨ret_int (by unfold checkI okA; simp [g1,g2,g3,g4]),below_box hb⟩
    | true =>
     cases g5:fromB wt 1 16 with
     | false =>
      have ng2:decide (k < 1) = false:=by simp at g2 ⊢; omega
      have ng3:decide (3 < k) = false:=by simp at g3 ⊢; omega
      go_enter Tryz.func40,Tryz.ntmps40
      go_wp2_with (first
       | (go_at_call 51; refine (from_any _ _ _ _).mono ?_; rintro e w' ⟨rfl,rfl⟩)
       | (go_at_call 49; refine (pvalid_any _ _ _).mono ?_; rintro e w1 ⟨rfl,hb⟩; obtain ⟨hc,hf⟩:=bcell hb))
      go_ret
      exact ⟨ret_int (by unfold checkI okA; simp [g1,g2,g3,g4,g5]),below_box hb⟩
     | true =>
      have ng2:decide (k < 1) = false:=by simp at g2 ⊢; omega
      have ng3:decide (3 < k) = false:=by simp at g3 ⊢; omega
      have hk:k = 1∨k = 2∨k = 3:=by simp at g2 g3; omega
      have hA:okA s k x y wt = true:=by unfold okA; rw [g1,g2,g3,g4,g5]; rfl
      have HA:=Lib.hid hA
      clear hA
      rcases hk with rfl | rfl | rfl
      ·cases g6:fromB t 0 1099511627776 with
       | false =>
        go_enter Tryz.func40,Tryz.ntmps40
        go_wp2_with (first
         | (go_at_call 51; refine (from_any _ _ _ _).mono ?_; rintro e w' ⟨rfl,rfl⟩)
         | (go_at_call 49; refine (pvalid_any _ _ _).mono ?_; rintro e w1 ⟨rfl,hb⟩; obtain ⟨hc,hf⟩:=bcell hb))
        go_ret
        exact ⟨ret_int (by unfold checkI okR; rw [HA.out]; simp [maxBd,maxV,g6]),below_box hb⟩
       | true =>
        cases g7:fromB b 0 600000 with
        | false =>
         go_enter Tryz.func40,Tryz.ntmps40
         go_wp2_with (first
          | (go_at_call 51; refine (from_any _ _ _ _).mono ?_; rintro e w' ⟨rfl,rfl⟩)
          | (go_at_call 49; refine (pvalid_any _ _ _).mono ?_; rintro e w1 ⟨rfl,hb⟩; obtain ⟨hc,hf⟩:=bcell hb))
         go_ret
         exact ⟨ret_int (by unfold checkI okR; rw [HA.out]; simp [maxBd,maxV,g6,g7]),below_box hb⟩
        | true =>
         cases g8:fromB v 0 0 with
         | false =>
          go_enter Tryz.func40,Tryz.ntmps40
          go_wp2_with (first
           | (go_at_call 51; refine (from_any _ _ _ _).mono ?_; rintro e w' ⟨rfl,rfl⟩)
           | (go_at_call 49; refine (pvalid_any _ _ _).mono ?_; rintro e w1 ⟨rfl,hb⟩; obtain ⟨hc,hf⟩:=bcell hb))
          go_ret
          exact ⟨ret_int (by unfold checkI okR; rw [HA.out]; simp [maxBd,maxV,g6,g7,g8]),below_box hb⟩
         | true =>
          go_enter Tryz.func40,Tryz.ntmps40
          go_wp2_with (first
           | (go_at_call 51; refine (from_any _ _ _ _).mono ?_; rintro e w' ⟨rfl,rfl⟩)
           | (go_at_call 49; refine (pvalid_any _ _ _).mono ?_; rintro e w1 ⟨rfl,hb⟩; obtain ⟨hc,hf⟩:=bcell hb))
          go_ret
          exact ⟨ret_int (by unfold checkI okR; rw [HA.out]; simp [maxBd,maxV,g6,g7,g8]),below_box hb⟩
      ·cases g6:fromB t 0 1099511627776 with
       | false =>
        go_enter Tryz.func40,Tryz.ntmps40
        go_wp2_with (first
         | (go_at_call 51; refine (from_any _ _ _ _).mono ?_; rintro e w' ⟨rfl,rfl⟩)
         | (go_at_call 49; refine (pvalid_any _ _ _).mono ?_; rintro e w1 ⟨rfl,hb⟩; obtain ⟨hc,hf⟩:=bcell hb))
        go_ret
        exact ⟨ret_int (by unfold checkI okR; rw [HA.out]; simp [maxBd,maxV,g6]),below_box hb⟩
       | true =>
        cases g7:fromB b 0 600000 with
        | false =>
         go_enter Tryz.func40,Tryz.ntmps40
         go_wp2_with (first
          | (go_at_call 51; refine (from_any _ _ _ _).mono ?_; rintro e w' ⟨rfl,rfl⟩)
          | (go_at_call 49; refine (pvalid_any _ _ _).mono ?_; rintro e w1 ⟨rfl,hb⟩; obtain ⟨hc,hf⟩:=bcell hb))
         go_ret
         exact ⟨ret_int (by unfold checkI okR; rw [HA.out]; simp [maxBd,maxV,g6,g7]),below_box hb⟩
        | true =>
         cases g8:fromB v 0 8000000 with
         | false =>
          go_enter Tryz.func40,Tryz.ntmps40
          go_wp2_with (first
           | (go_at_call 51; refine (from_any _ _ _ _).mono ?_; rintro e w' ⟨rfl,rfl⟩)
           | (go_at_call 49; refine (pvalid_any _ _ _).mono ?_; rintro e w1 ⟨rfl,hb⟩; obtain ⟨hc,hf⟩:=bcell hb))
          go_ret
          exact ⟨ret_int (by unfold checkI okR; rw [HA.out]; simp [maxBd,maxV,g6,g7,g8]),below_box hb⟩
         | true =>
          go_enter Tryz.func40,Tryz.ntmps40
          go_wp2_with (first
           | (go_at_call 51; refine (from_any _ _ _ _).mono ?_; rintro e w' ⟨rfl,rfl⟩)
           | (go_at_call 49; refine (pvalid_any _ _ _).mono ?_; rintro e w1 ⟨rfl,hb⟩; obtain ⟨hc,hf⟩:=bcell hb))
          go_ret
          exact ⟨ret_int (by unfold checkI okR; rw [HA.out]; simp [maxBd,maxV,g6,g7,g8]),below_box hb⟩
      ·cases g6:fromB t 0 1099511627776 with
       | false =>
        go_enter Tryz.func40,Tryz.ntmps40
        go_wp2_with (first
         | (go_at_call 51; refine (from_any _ _ _ _).mono ?_; rintro e w' ⟨rfl,rfl⟩)
         | (go_at_call 49; refine (pvalid_any _ _ _).mono ?_; rintro e w1 ⟨rfl,hb⟩; obtain ⟨hc,hf⟩:=bcell hb))
        go_ret
        exact ⟨ret_int (by unfold checkI okR; rw [HA.out]; simp [maxBd,maxV,g6]),below_box hb⟩
       | true =>
        cases g7:fromB b 0 3600000 with
        | false =>
         go_enter Tryz.func40,Tryz.ntmps40
         go_wp2_with (first
          | (go_at_call 51; refine (from_any _ _ _ _).mono ?_; rintro e w' ⟨rfl,rfl⟩)
          | (go_at_call 49; refine (pvalid_any _ _ _).mono ?_; rintro e w1 ⟨rfl,hb⟩; obtain ⟨hc,hf⟩:=bcell hb))
         go_ret
         exact ⟨ret_int (by unfold checkI okR; rw [HA.out]; simp [maxBd,maxV,g6,g7]),below_box hb⟩
        | true =>
         cases g8:fromB v 0 129599999 with
         | false =>
          go_enter Tryz.func40,Tryz.ntmps40
          go_wp2_with (first
           | (go_at_call 51; refine (from_any _ _ _ _).mono ?_; rintro e w' ⟨rfl,rfl⟩)
           | (go_at_call 49; refine (pvalid_any _ _ _).mono ?_; rintro e w1 ⟨rfl,hb⟩; obtain ⟨hc,hf⟩:=bcell hb))
          go_ret
          exact ⟨ret_int (by unfold checkI okR; rw [HA.out]; simp [maxBd,maxV,g6,g7,g8]),below_box hb⟩
         | true =>
          go_enter Tryz.func40,Tryz.ntmps40
          go_wp2_with (first
           | (go_at_call 51; refine (from_any _ _ _ _).mono ?_; rintro e w' ⟨rfl,rfl⟩)
           | (go_at_call 49; refine (pvalid_any _ _ _).mono ?_; rintro e w1 ⟨rfl,hb⟩; obtain ⟨hc,hf⟩:=bcell hb))
          go_ret
          exact ⟨ret_int (by unfold checkI okR; rw [HA.out]; simp [maxBd,maxV,g6,g7,g8]),below_box hb⟩
set_option maxHeartbeats 200000
set_option maxRecDepth 512
def LvRel (w:World) (n:Nat) (i:Value) (w':World):Prop:=(i = .int .i64 0∧Below w.heap.size w w')∨(1≤n∧i = .int .i64 1∧Below w.heap.size w w')∨(2≤n∧i = .int .i64 2∧Below w.heap.size w w')
set_option maxHeartbeats 2000000
set_option maxRecDepth 100000
theorem line_valid (x y p q:Int) (b:Nat) (w:World) (hb:b < w.heap.size) (c0:w.cell? ⟨b,0,none⟩ = some (.int .i64 x)) (c1:w.cell? ⟨b,1,none⟩ = some (.int .i64 y)) (c2:w.cell? ⟨b,2,none⟩ = some (.int .i64 p)) (c3:w.cell? ⟨b,3,none⟩ = some (.int .i64 q)) :
 Calls Tryz.prog 78 #[.slice (some ⟨b,0,none⟩) 2 2] w fun e w'=>e = .returned (.bool (pvB x y && pvB p q))∧Below w.heap.size w w':=by
 cases g1:pvB x y with
 | false =>
  go_enter Tryz.func78,Tryz.ntmps78
  go_wp2
  go_loopw [7] (LvRel w 0) (fun i _=>2 - (intOf i).toNat)
  case atStart=>exact .inl ⟨rfl,Below.refl _ _⟩
  case round =>
   rcases hrel with ⟨rfl,hw⟩ | ⟨hn,_⟩ | ⟨hn,_⟩
   ·have d0:=(hw.cell (p:=⟨b,0,none⟩) hb).trans c0
    have d1:=(hw.cell (p:=⟨b,1,none⟩) hb).trans c1
    have HW:=Lib.hid hw
    clear hw
    go_wp2_with (go_at_call 49; refine (pvalid_any _ _ _).mono ?_; rintro e w1 ⟨rfl,hb1⟩)
    go_ret
    exact ⟨rfl,HW.out.trans (((Below.refl _ _).alloc (Nat.le_refl _) _).trans (hb1.mono (by simp)) |>.mono HW.out.size)⟩
   ·omega
   ·omega
 | true =>
  cases g2:pvB p q with
  | false =>
   go_enter Tryz.func78,Tryz.ntmps78
   go_wp2
   go_loopw [7] (LvRel w 1) (fun i _=>2 - (intOf i).toNat)
   case atStart=>exact .inl ⟨rfl,Below.refl _ _⟩
   case round =>
    rcases hrel with ⟨rfl,hw⟩ | ⟨hn,rfl,hw⟩ | ⟨hn,_⟩
    ·have d0:=(hw.cell (p:=⟨b,0,none⟩) hb).trans c0
     have d1:=(hw.cell (p:=⟨b,1,none⟩) hb).trans c1
     have HW:=Lib.hid hw
     clear hw
     go_wp2_with (go_at_call 49; refine (pvalid_any _ _ _).mono ?_; rintro e w1 ⟨rfl,hb1⟩)
     go_roundw
     case rel=>exact .inr (.inl ⟨Nat.le_refl _,rfl,HW.out.trans (((Below.refl _ _).alloc (Nat.le_refl _) _).trans (hb1.mono (by simp)) |>.mono HW.out.size)⟩)
     case measure=>simp [intOf]
    ·have d0:=(hw.cell (p:=⟨b,2,none⟩) hb).trans c2
     have d1:=(hw.cell (p:=⟨b,3,none⟩) hb).trans c3
     have HW:=Lib.hid hw
     clear hw
     go_wp2_with (go_at_call 49; refine (pvalid_any _ _ _).mono ?_; rintro e w1 ⟨rfl,hb1⟩)
     go_ret
     exact ⟨rfl,HW.out.trans (((Below.refl _ _).alloc (Nat.le_refl _) _).trans (hb1.mono (by simp)) |>.mono HW.out.size)⟩
    ·omega
  | true =>
   go_enter Tryz.func78,Tryz.ntmps78
   go_wp2
   go_loopw [7] (LvRel w 2) (fun i _=>2 - (intOf i).toNat)
   case atStart=>exact .inl ⟨rfl,Below.refl _ _⟩
   case round =>
    rcases hrel with ⟨rfl,hw⟩ | ⟨hn,rfl,hw⟩ | ⟨hn,rfl,hw⟩
    ·have d0:=(hw.cell (p:=⟨b,0,none⟩) hb).trans c0
     have d1:=(hw.cell (p:=⟨b,1,none⟩) hb).trans c1
     have HW:=Lib.hid hw
     clear hw
     go_wp2_with (go_at_call 49; refine (pvalid_any _ _ _).mono ?_; rintro e w1 ⟨rfl,hb1⟩)
     go_roundw
     case rel=>exact .inr (.inl ⟨by decide,rfl,HW.out.trans (((Below.refl _ _).alloc (Nat.le_refl _) _).trans (hb1.mono (by simp)) |>.mono HW.out.size)⟩)
     case measure=>simp [intOf]
    ·have d0:=(hw.cell (p:=⟨b,2,none⟩) hb).trans c2
     have d1:=(hw.cell (p:=⟨b,3,none⟩) hb).trans c3
     have HW:=Lib.hid hw
     clear hw
     go_wp2_with (go_at_call 49; refine (pvalid_any _ _ _).mono ?_; rintro e w1 ⟨rfl,hb1⟩)
     go_roundw
     case rel=>exact .inr (.inr ⟨by decide,rfl,HW.out.trans (((Below.refl _ _).alloc (Nat.le_refl _) _).trans (hb1.mono (by simp)) |>.mono HW.out.size)⟩)
     case measure=>simp [intOf]
    ·have HW:=Lib.hid hw
     clear hw
     go_wp2
     go_ret
     exact ⟨rfl,HW.out⟩
end Go.Proofs.YtajmjkliblippaaGreatDoor.S41
namespace Go.Proofs.YtajmjkliblippaaGreatDoor.S41
open Go.RowKit Tr Sq
def Blk8 (w:World) (h:Nat) (s k x y v b wt t:Int):Prop:=(w.cell? ⟨h,0,none⟩ = some (.int .i64 s)∧w.cell? ⟨h,1,none⟩ = some (.int .u8 k)∧w.cell? ⟨h,2,none⟩ = some (.int .i64 x)∧w.cell? ⟨h,3,none⟩ = some (.int .i64 y)∧w.cell? ⟨h,4,none⟩ = some (.int .i64 v)∧w.cell? ⟨h,5,none⟩ = some (.int .i64 b)∧w.cell? ⟨h,6,none⟩ = some (.int .i64 wt)∧w.cell? ⟨h,7,none⟩ = some (.int .i64 t))∧w.frozen? ⟨h,0,none⟩ = false∧w.frozen? ⟨h,1,none⟩ = false∧w.frozen? ⟨h,2,none⟩ = false∧w.frozen? ⟨h,3,none⟩ = false∧w.frozen? ⟨h,4,none⟩ = false∧w.frozen? ⟨h,5,none⟩ = false∧w.frozen? ⟨h,6,none⟩ = false∧w.frozen? ⟨h,7,none⟩ = false
theorem Blk8.keep {w w':World} {h B:Nat} {s k x y v b wt t:Int} (hr:Blk8 w h s k x y v b wt t) (hb:Below B w w') (hl:h < B):Blk8 w' h s k x y v b wt t:=by
 obtain ⟨⟨c0,c1,c2,c3,c4,c5,c6,c7⟩,f0,f1,f2,f3,f4,f5,f6,f7⟩:=hr
 exact ⟨⟨(hb.cell (p:=⟨h,0,none⟩) hl).trans c0,(hb.cell (p:=⟨h,1,none⟩) hl).trans c1,(hb.cell (p:=⟨h,2,none⟩) hl).trans c2,(hb.cell (p:=⟨h,3,none⟩) hl).trans c3,(hb.cell (p:=⟨h,4,none⟩) hl).trans c4,(hb.cell (p:=⟨h,5,none⟩) hl).trans c5,(hb.cell (p:=⟨h,6,none⟩) hl).trans c6,(hb.cell (p:=⟨h,7,none⟩) hl).trans c7⟩,(hb.frozen (p:=⟨h,0,none⟩) hl).trans f0,(hb.frozen (p:=⟨h,1,none⟩) hl).trans f1,(hb.frozen (p:=⟨h,2,none⟩) hl).trans f2,(hb.frozen (p:=⟨h,3,none⟩) hl).trans f3,(hb.frozen (p:=⟨h,4,none⟩) hl).trans f4,(hb.frozen (p:=⟨h,5,none⟩) hl).trans f5,(hb.frozen (p:=⟨h,6,none⟩) hl).trans f6,(hb.frozen (p:=⟨h,7,none⟩) hl).trans f7⟩
end Go.Proofs.YtajmjkliblippaaGreatDoor.S41
