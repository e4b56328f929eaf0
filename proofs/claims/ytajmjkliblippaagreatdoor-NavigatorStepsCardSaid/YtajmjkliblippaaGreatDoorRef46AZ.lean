/-
  The reference's Valid, Check and Start.
-/
import Derived.Test.YtajmjkliblippaaGreatDoorQ17
import Derived.Test.YtajmjkliblippaaGreatDoorQ20
import Derived.Test.YtajmjkliblippaaGreatDoorStart46Z
set_option linter.unusedVariables false
namespace Go.Proofs.YtajmjkliblippaaGreatDoor
open Go.RowKit
theorem r45_within (x lo hi:Int) (w:World):Calls Tryz.prog 59 #[.int .i64 x,.int .i64 lo,.int .i64 hi] w fun e w'=>e = .returned (.bool (frm x lo hi))∧Below w.heap.size w w':=by
 have E:frm x lo hi = (decide (lo≤x) && decide (x≤hi)):=rfl
 generalize frm x lo hi = r at *
 cases h:decide (lo≤x) <;> cases h2:decide (x≤hi) <;> rw [h,h2] at E <;> simp at E <;> subst E
 all_goals
  go_enter Tryz.func59,Tryz.ntmps59
  go_wp2
  go_ret
  exact ⟨rfl,Below.refl _ _⟩
theorem r46_within (x lo hi:Int) (w:World):Calls Tryz.prog 32 #[.int .i64 x,.int .i64 lo,.int .i64 hi] w fun e w'=>e = .returned (.bool (frm x lo hi))∧Below w.heap.size w w':=by
 have E:frm x lo hi = (decide (lo≤x) && decide (x≤hi)):=rfl
 generalize frm x lo hi = r at *
 cases h:decide (lo≤x) <;> cases h2:decide (x≤hi) <;> rw [h,h2] at E <;> simp at E <;> subst E
 all_goals
  go_enter Tryz.func32,Tryz.ntmps32
  go_wp2
  go_ret
  exact ⟨rfl,Below.refl _ _⟩
set_option maxHeartbeats 4000000
theorem r10_valid (x y:Int) (w:World):Calls Tryz.prog 58 #[.agg #[.int .i64 x,.int .i64 y]] w fun e w'=>e = .returned (.bool (vldP x y))∧Below w.heap.size w w':=by
 have key:(decide (-2000000≤x) = false∧vldP x y = false)∨(decide (-2000000≤x) = true∧decide (x≤2000000) = false∧vldP x y = false)∨(decide (-2000000≤x) = true∧decide (x≤2000000) = true∧decide (-2000000≤y) = false∧vldP x y = false)∨(decide (-2000000≤x) = true∧decide (x≤2000000) = true∧decide (-2000000≤y) = true∧decide (y≤2000000) = false∧vldP x y = false)∨(decide (-2000000≤x) = true∧decide (x≤2000000) = true∧decide (-2000000≤y) = true∧decide (y≤2000000) = true∧vldP x y = true):=by
  unfold vldP
  simp only [decide_eq_true_eq,decide_eq_false_iff_not]
  omega
 rcases key with ⟨g0,E⟩ | ⟨g0,g1,E⟩ | ⟨g0,g1,g2,E⟩ | ⟨g0,g1,g2,g3,E⟩ | ⟨g0,g1,g2,g3,E⟩
 all_goals
  rw [E]
  clear E
  go_enter Tryz.func58,Tryz.ntmps58
  go_wp2
  go_ret
  exact ⟨rfl,(Below.refl _ _).alloc (Nat.le_refl _) _⟩
set_option maxHeartbeats 40000000
set_option maxRecDepth 100000
theorem r45_valid (b:Bx4) (w:World):Calls Tryz.prog 31 #[.agg #[.int .i64 b.cx,.int .i64 b.cy,.int .i64 b.x,.int .i64 b.y]] w fun e w'=>e = .returned (.bool (bxV b))∧Below w.heap.size w w':=by
 obtain ⟨cx,cy,x,y⟩:=b
 simp only
 have E:bxV ⟨cx,cy,x,y⟩ = (vldP cx cy && frm x 0 2000000 && frm y 0 2000000):=by
  rw [Bool.eq_iff_iff,bxV_iff]
  unfold vldP frm
  simp only [Bool.and_eq_true,decide_eq_true_eq]
  omega
 have VP:=Lib.hid fun w=>r10_valid cx cy w
 have VX:=Lib.hid fun w=>r45_within x 0 2000000 w
 have VY:=Lib.hid fun w=>r45_within y 0 2000000 w
 generalize bxV ⟨cx,cy,x,y⟩ = q at *
 generalize vldP cx cy = a at *
 generalize frm x 0 2000000 = c at *
 generalize frm y 0 2000000 = d at *
 subst E
 cases a with
 | false =>
  clear VX VY
  obtain ⟨KB,HB⟩:=ent1 w #[.int .i64 cx,.int .i64 cy,.int .i64 x,.int .i64 y] 25
  go_enter Tryz.func31,Tryz.ntmps31
  obtain ⟨yB0,yB1,yB2,yB3,yBz⟩:=blk4 KB
  go_wp2_with fail
  clear yB0 yB1 yB2 yB3 yBz
  generalize w.alloc _ = w0 at *
  refine (VP.out _).mono ?_
  rintro e1 w1 ⟨rfl,hb1⟩
  replace HB:=hT HB hb1
  replace KB:=hK KB hb1
  clear hb1
  go_wp2
  go_ret
  exact ⟨rfl,HB.out⟩
 | true =>
  cases c with
  | false =>
   clear VY
   obtain ⟨KB,HB⟩:=ent1 w #[.int .i64 cx,.int .i64 cy,.int .i64 x,.int .i64 y] 25
   go_enter Tryz.func31,Tryz.ntmps31
   obtain ⟨yB0,yB1,yB2,yB3,yBz⟩:=blk4 KB
   go_wp2_with fail
   clear yB0 yB1 yB2 yB3 yBz
   generalize w.alloc _ = w0 at *
   refine (VP.out _).mono ?_
   rintro e1 w1 ⟨rfl,hb1⟩
   replace HB:=hT HB hb1
   replace KB:=hK KB hb1
   clear hb1
   obtain ⟨yB0,yB1,yB2,yB3,yBz⟩:=blk4 KB
   go_wp2_with fail
   refine (VX.out _).mono ?_
   rintro e2 w2 ⟨rfl,hb2⟩
   replace HB:=hT HB hb2
   replace KB:=hK KB hb2
   clear yB0 yB1 yB2 yB3 yBz
   clear hb2
   go_wp2
   go_ret
   exact ⟨rfl,HB.out⟩
  | true =>
   simp only [Bool.true_and]
   obtain ⟨KB,HB⟩:=ent1 w #[.int .i64 cx,.int .i64 cy,.int .i64 x,.int .i64 y] 25
   go_enter Tryz.func31,Tryz.ntmps31
   obtain ⟨yB0,yB1,yB2,yB3,yBz⟩:=blk4 KB
   go_wp2_with fail
   clear yB0 yB1 yB2 yB3 yBz
   generalize w.alloc _ = w0 at *
   refine (VP.out _).mono ?_
   rintro e1 w1 ⟨rfl,hb1⟩
   replace HB:=hT HB hb1
   replace KB:=hK KB hb1
   clear hb1
   obtain ⟨yB0,yB1,yB2,yB3,yBz⟩:=blk4 KB
   go_wp2_with fail
   refine (VX.out _).mono ?_
   rintro e2 w2 ⟨rfl,hb2⟩
   replace HB:=hT HB hb2
   replace KB:=hK KB hb2
   clear yB0 yB1 yB2 yB3 yBz
   clear hb2
   obtain ⟨yB0,yB1,yB2,yB3,yBz⟩:=blk4 KB
   go_wp2_with fail
   refine (VY.out _).mono ?_
   rintro e3 w3 ⟨rfl,hb3⟩
   replace HB:=hT HB hb3
   replace KB:=hK KB hb3
   clear yB0 yB1 yB2 yB3 yBz
   clear hb3
   go_wp2
   go_ret
   exact ⟨rfl,HB.out⟩
theorem rcheck_any (b:Bx4) (t m:Int) (w:World):Calls Tryz.prog 15 #[.agg #[.int .i64 b.cx,.int .i64 b.cy,.int .i64 b.x,.int .i64 b.y,.int .i64 t,.int .i64 m]] w fun e w'=>e = .returned (.int .i64 (chkS b t m))∧Below w.heap.size w w':=by
 have VB:=Lib.hid fun w=>r45_valid b w
 have WT:=Lib.hid fun w=>r46_within t 0 1099511627776 w
 have E0:chkS b t m = if bxV b = true then (if 0≤t∧t≤1099511627776∧0≤m∧m≤1000 then 0 else 2) else 1:=rfl
 have EW:frm t 0 1099511627776 = (decide (0≤t) && decide (t≤1099511627776)):=rfl
 generalize chkS b t m = q at *
 obtain ⟨cx,cy,x,y⟩:=b
 simp only at VB
 generalize bxV ⟨cx,cy,x,y⟩ = a at *
 cases a with
 | false =>
  rw [if_neg (by decide)] at E0
  subst E0
  clear WT EW
  obtain ⟨KS,HB⟩:=ent1 w #[.int .i64 cx,.int .i64 cy,.int .i64 x,.int .i64 y,.int .i64 t,.int .i64 m] 27
  go_enter Tryz.func15,Tryz.ntmps15
  obtain ⟨yS0,yS1,yS2,yS3,yS4,yS5,ySz⟩:=blk6 KS
  go_wp2_with fail
  clear yS0 yS1 yS2 yS3 yS4 yS5 ySz
  generalize w.alloc _ = w0 at *
  refine (VB.out _).mono ?_
  rintro e1 w1 ⟨rfl,hb1⟩
  replace HB:=hT HB hb1
  replace KS:=hK KS hb1
  clear hb1
  go_wp2
  go_ret
  exact ⟨rfl,HB.out⟩
 | true =>
  rw [if_pos rfl] at E0
  by_cases ht:0≤t∧t≤1099511627776
  ·have ew:frm t 0 1099511627776 = true:=by rw [EW]; simp [ht.1,ht.2]
   rw [ew] at WT
   by_cases h1:m < 0
   ·have g1:decide (m < 0) = true:=by simpa using h1
    rw [if_neg (by omega)] at E0
    subst E0
    clear h1 ht ew EW
    obtain ⟨KS,HB⟩:=ent1 w #[.int .i64 cx,.int .i64 cy,.int .i64 x,.int .i64 y,.int .i64 t,.int .i64 m] 27
    go_enter Tryz.func15,Tryz.ntmps15
    obtain ⟨yS0,yS1,yS2,yS3,yS4,yS5,ySz⟩:=blk6 KS
    go_wp2_with fail
    clear yS0 yS1 yS2 yS3 yS4 yS5 ySz
    generalize w.alloc _ = w0 at *
    refine (VB.out _).mono ?_
    rintro e1 w1 ⟨rfl,hb1⟩
    replace HB:=hT HB hb1
    replace KS:=hK KS hb1
    clear hb1
    obtain ⟨yS0,yS1,yS2,yS3,yS4,yS5,ySz⟩:=blk6 KS
    go_wp2_with fail
    refine (WT.out _).mono ?_
    rintro e2 w2 ⟨rfl,hb2⟩
    replace HB:=hT HB hb2
    replace KS:=hK KS hb2
    clear yS0 yS1 yS2 yS3 yS4 yS5 ySz
    clear hb2
    obtain ⟨yS0,yS1,yS2,yS3,yS4,yS5,ySz⟩:=blk6 KS
    go_wp2
    go_ret
    exact ⟨rfl,HB.out⟩
   ·have g1:decide (m < 0) = false:=by simpa using h1
    by_cases h2:1000 < m
    ·have g2:decide (1000 < m) = true:=by simpa using h2
     rw [if_neg (by omega)] at E0
     subst E0
     clear h1 h2 ht ew EW
     obtain ⟨KS,HB⟩:=ent1 w #[.int .i64 cx,.int .i64 cy,.int .i64 x,.int .i64 y,.int .i64 t,.int .i64 m] 27
     go_enter Tryz.func15,Tryz.ntmps15
     obtain ⟨yS0,yS1,yS2,yS3,yS4,yS5,ySz⟩:=blk6 KS
     go_wp2_with fail
     clear yS0 yS1 yS2 yS3 yS4 yS5 ySz
     generalize w.alloc _ = w0 at *
     refine (VB.out _).mono ?_
     rintro e1 w1 ⟨rfl,hb1⟩
     replace HB:=hT HB hb1
     replace KS:=hK KS hb1
     clear hb1
     obtain ⟨yS0,yS1,yS2,yS3,yS4,yS5,ySz⟩:=blk6 KS
     go_wp2_with fail
     refine (WT.out _).mono ?_
     rintro e2 w2 ⟨rfl,hb2⟩
     replace HB:=hT HB hb2
     replace KS:=hK KS hb2
     clear yS0 yS1 yS2 yS3 yS4 yS5 ySz
     clear hb2
     obtain ⟨yS0,yS1,yS2,yS3,yS4,yS5,ySz⟩:=blk6 KS
     go_wp2
     go_ret
     exact ⟨rfl,HB.out⟩
    ·have g2:decide (1000 < m) = false:=by simpa using h2
     rw [if_pos (by omega)] at E0
     subst E0
     clear h1 h2 ht ew EW
     obtain ⟨KS,HB⟩:=ent1 w #[.int .i64 cx,.int .i64 cy,.int .i64 x,.int .i64 y,.int .i64 t,.int .i64 m] 27
     go_enter Tryz.func15,Tryz.ntmps15
     obtain ⟨yS0,yS1,yS2,yS3,yS4,yS5,ySz⟩:=blk6 KS
     go_wp2_with fail
     clear yS0 yS1 yS2 yS3 yS4 yS5 ySz
     generalize w.alloc _ = w0 at *
     refine (VB.out _).mono ?_
     rintro e1 w1 ⟨rfl,hb1⟩
     replace HB:=hT HB hb1
     replace KS:=hK KS hb1
     clear hb1
     obtain ⟨yS0,yS1,yS2,yS3,yS4,yS5,ySz⟩:=blk6 KS
     go_wp2_with fail
     refine (WT.out _).mono ?_
     rintro e2 w2 ⟨rfl,hb2⟩
     replace HB:=hT HB hb2
     replace KS:=hK KS hb2
     clear yS0 yS1 yS2 yS3 yS4 yS5 ySz
     clear hb2
     obtain ⟨yS0,yS1,yS2,yS3,yS4,yS5,ySz⟩:=blk6 KS
     go_wp2
     go_ret
     exact ⟨rfl,HB.out⟩
  ·have ew:frm t 0 1099511627776 = false:=by rw [EW]; simp; omega
   rw [ew] at WT
   rw [if_neg (by omega)] at E0
   subst E0
   clear ht ew EW
   obtain ⟨KS,HB⟩:=ent1 w #[.int .i64 cx,.int .i64 cy,.int .i64 x,.int .i64 y,.int .i64 t,.int .i64 m] 27
   go_enter Tryz.func15,Tryz.ntmps15
   obtain ⟨yS0,yS1,yS2,yS3,yS4,yS5,ySz⟩:=blk6 KS
   go_wp2_with fail
   clear yS0 yS1 yS2 yS3 yS4 yS5 ySz
   generalize w.alloc _ = w0 at *
   refine (VB.out _).mono ?_
   rintro e1 w1 ⟨rfl,hb1⟩
   replace HB:=hT HB hb1
   replace KS:=hK KS hb1
   clear hb1
   obtain ⟨yS0,yS1,yS2,yS3,yS4,yS5,ySz⟩:=blk6 KS
   go_wp2_with fail
   refine (WT.out _).mono ?_
   rintro e2 w2 ⟨rfl,hb2⟩
   replace HB:=hT HB hb2
   replace KS:=hK KS hb2
   clear yS0 yS1 yS2 yS3 yS4 yS5 ySz
   clear hb2
   obtain ⟨yS0,yS1,yS2,yS3,yS4,yS5,ySz⟩:=blk6 KS
   go_wp2
   go_ret
   exact ⟨rfl,HB.out⟩
end Go.Proofs.YtajmjkliblippaaGreatDoor
