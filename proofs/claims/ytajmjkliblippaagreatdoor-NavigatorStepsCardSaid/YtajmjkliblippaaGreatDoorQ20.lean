/-
  Walks and laws of the layers below, gathered from several texts.
-/
import Derived.IntWalk
import Derived.Test.YtajmjkliblippaaGreatDoorQ7
import Derived.Test.YtajmjkliblippaaGreatDoorQ10
import Derived.Test.YtajmjkliblippaaGreatDoorQ11
import Derived.Test.YtajmjkliblippaaGreatDoorQ14
set_option linter.unusedVariables false
namespace Go.Proofs.YtajmjkliblippaaGreatDoor
open Go.RowKit
def frm (x lo hi:Int):Bool:=decide (lo≤x) && decide (x≤hi)
theorem from_any (x lo hi:Int) (w:World):Calls Tryz.prog 39 #[.int .i64 x,.int .i64 lo,.int .i64 hi] w fun e w'=>e = .returned (.bool (frm x lo hi))∧Below w.heap.size w w':=by
 have E:frm x lo hi = (decide (lo≤x) && decide (x≤hi)):=rfl
 generalize frm x lo hi = r at *
 cases h:decide (lo≤x) <;> cases h2:decide (x≤hi) <;> rw [h,h2] at E <;> simp at E <;> subst E
 all_goals
  go_enter Tryz.func39,Tryz.ntmps39
  go_wp2
  go_ret
  exact ⟨rfl,Below.refl _ _⟩
set_option maxHeartbeats 8000000
set_option maxRecDepth 100000
theorem ival_any (b:Bx4) (w:World):Calls Tryz.prog 30 #[.agg #[.int .i64 b.cx,.int .i64 b.cy,.int .i64 b.x,.int .i64 b.y]] w fun e w'=>e = .returned (.bool (bxV b))∧Below w.heap.size w w':=by
 have VI0:=fun w=>S41.inside_any b.cx b.cy b.x b.y b.cx b.cy w
 have E:S41.insB b.cx b.cy b.x b.y b.cx b.cy = bxV b:=by
  rw [Bool.eq_iff_iff,S41.insB_iff,bxV_iff,S41.boxV_iff]
  omega
 rw [E] at VI0
 have VI:=Lib.hid VI0
 clear E VI0
 generalize bxV b = v at *
 obtain ⟨cx,cy,x,y⟩:=b
 simp only at VI
 obtain ⟨KB,HB⟩:=ent1 w #[.int .i64 cx,.int .i64 cy,.int .i64 x,.int .i64 y] 25
 go_enter Tryz.func30,Tryz.ntmps30
 go_wp2_with fail
 generalize w.alloc _ = w0 at *
 refine (VI.out _).mono ?_
 rintro e1 w1 ⟨rfl,hb1⟩
 replace HB:=hT HB hb1
 replace KB:=hK KB hb1
 clear hb1
 go_wp2
 go_ret
 exact ⟨rfl,HB.out⟩
set_option maxHeartbeats 200000
set_option maxRecDepth 512
theorem rngC_is (ve vn dr tk:Int):rngC ve vn dr tk = (frm ve (-2000) 2000 && frm vn (-2000) 2000 && frm dr 0 1000 && frm tk 0 144000):=by
 rw [Bool.eq_iff_iff,rngC_iff]
 unfold frm
 simp only [Bool.and_eq_true,decide_eq_true_iff]
 omega
set_option maxHeartbeats 40000000
set_option maxRecDepth 100000
theorem coast_any (b:Bx4) (ve vn dr tk:Int) (w:World):Calls Tryz.prog 19 #[.agg #[.int .i64 b.cx,.int .i64 b.cy,.int .i64 b.x,.int .i64 b.y],.agg #[.int .i64 ve,.int .i64 vn],.int .i64 dr,.int .i64 tk] w fun e w'=>e = .returned (.tuple #[.agg #[.int .i64 (cstF b ve vn dr tk).1.cx,.int .i64 (cstF b ve vn dr tk).1.cy,.int .i64 (cstF b ve vn dr tk).1.x,.int .i64 (cstF b ve vn dr tk).1.y],.int .i64 (cstF b ve vn dr tk).2])∧Below w.heap.size w w':=by
 have VA0:=fun w=>ival_any b w
 have F0:=Lib.hid fun w=>from_any ve (-2000) 2000 w
 have F1:=Lib.hid fun w=>from_any vn (-2000) 2000 w
 have F2:=Lib.hid fun w=>from_any dr 0 1000 w
 have F3:=Lib.hid fun w=>from_any tk 0 144000 w
 have RI:=rngC_is ve vn dr tk
 have EV0:cstF b ve vn dr tk = if bxV b = true then (if rngC ve vn dr tk = true then (if bxV (movB b ve vn dr tk) = true then (movB b ve vn dr tk,0) else (bx0,2)) else (bx0,2)) else (bx0,1):=rfl
 cases hv:bxV b with
 | false =>
  rw [hv] at VA0
  have VA:=Lib.hid VA0
  have EV:=Lib.hid (EV0.trans (if_neg (by rw [hv]; decide)))
  clear EV0 VA0 hv RI F0 F1 F2 F3
  generalize cstF b ve vn dr tk = q at *
  obtain ⟨cx,cy,x,y⟩:=b
  simp only at VA
  obtain ⟨KB,KV,KZ,HB⟩:=ent3 w #[.int .i64 cx,.int .i64 cy,.int .i64 x,.int .i64 y] 25 #[.int .i64 ve,.int .i64 vn] 36 #[.int .i64 0,.int .i64 0,.int .i64 0,.int .i64 0] 25
  go_enter Tryz.func19,Tryz.ntmps19
  go_wp2_with fail
  generalize ((w.alloc _).alloc _).alloc _ = w0 at *
  refine (VA.out _).mono ?_
  rintro e1 w1 ⟨rfl,hb1⟩
  refine up3 hb1 HB KB KV KZ ?_
  clear hb1 HB KB KV KZ
  intro HB KB KV KZ
  obtain ⟨yZ0,yZ1,yZ2,yZ3,yZz,yZf0,yZf1,yZf2,yZf3⟩:=blf4 KZ
  go_wp2
  replace KZ:=kst (kst (kst (kst KZ 0 (.int .i64 0)) 1 (.int .i64 0)) 2 (.int .i64 0)) 3 (.int .i64 0)
  refine ot2 (st4 w1 (w.heap.size + 1 + 1) 0 (.int .i64 0) 1 (.int .i64 0) 2 (.int .i64 0) 3 (.int .i64 0)) HB KB KV (by omega) (by omega) (by omega) ?_
  clear HB KB KV
  intro HB KB KV
  clear yZ0 yZ1 yZ2 yZ3 yZz yZf0 yZf1 yZf2 yZf3
  generalize (((w1.setCell _ _).setCell _ _).setCell _ _).setCell _ _ = w2 at *
  simp only [List.set] at KZ
  obtain ⟨yZ0,yZ1,yZ2,yZ3,yZz⟩:=blk4 KZ
  refine bodyPost_ret (v:=.tuple #[.agg #[.int .i64 0,.int .i64 0,.int .i64 0,.int .i64 0],.int .i64 1]) (by simp [results,Tryz.results19,go_sem,yZ0,yZ1,yZ2,yZ3]) rfl ⟨by rw [EV.out]; rfl,HB.out⟩
 | true =>
  rw [hv,if_pos rfl] at EV0
  rw [hv] at VA0
  have VA:=Lib.hid VA0
  clear VA0
  have VB0:=fun w=>ival_any (movB b ve vn dr tk) w
  by_cases hr:rngC ve vn dr tk = true
  ·rw [if_pos hr] at EV0
   have R:=rngC_iff.1 hr
   have BV:=bxV_iff.1 hv
   rw [hr] at RI
   have k0:frm ve (-2000) 2000 = true:=by unfold frm; simp only [Bool.and_eq_true,decide_eq_true_iff]; omega
   have k1:frm vn (-2000) 2000 = true:=by unfold frm; simp only [Bool.and_eq_true,decide_eq_true_iff]; omega
   have k2:frm dr 0 1000 = true:=by unfold frm; simp only [Bool.and_eq_true,decide_eq_true_iff]; omega
   have k3:frm tk 0 144000 = true:=by unfold frm; simp only [Bool.and_eq_true,decide_eq_true_iff]; omega
   rw [k0] at F0
   rw [k1] at F1
   rw [k2] at F2
   rw [k3] at F3
   have p0:=mulb (X:=2000) (Y:=144000) (x:=ve) (y:=tk) (by omega) (by omega) (by omega) (by omega) (by omega)
   have p1:=mulb (X:=2000) (Y:=144000) (x:=vn) (y:=tk) (by omega) (by omega) (by omega) (by omega) (by omega)
   have p2:=mulb (X:=1000) (Y:=144000) (x:=dr) (y:=tk) (by omega) (by omega) (by omega) (by omega) (by omega)
   unfold movB at VB0 EV0
   obtain ⟨cx,cy,x,y⟩:=b
   simp only at VA VB0 EV0 BV
   have s0:IntKind.i64.wrap (ve * tk) = ve * tk:=IntWalk.i64_in _ (by omega)
   have s1:IntKind.i64.wrap (vn * tk) = vn * tk:=IntWalk.i64_in _ (by omega)
   have s2:IntKind.i64.wrap (dr * tk) = dr * tk:=IntWalk.i64_in _ (by omega)
   have t0:IntKind.i64.wrap (cx + ve * tk) = cx + ve * tk:=IntWalk.i64_in _ (by omega)
   have t1:IntKind.i64.wrap (cy + vn * tk) = cy + vn * tk:=IntWalk.i64_in _ (by omega)
   have t2:IntKind.i64.wrap (x + dr * tk) = x + dr * tk:=IntWalk.i64_in _ (by omega)
   have t3:IntKind.i64.wrap (y + dr * tk) = y + dr * tk:=IntWalk.i64_in _ (by omega)
   clear p0 p1 p2 R BV k0 k1 k2 k3 RI hr hv
   generalize cstF ⟨cx,cy,x,y⟩ ve vn dr tk = q at *
   obtain ⟨cx',e0⟩:∃ z,cx + ve * tk = z:=⟨_,rfl⟩
   obtain ⟨cy',e1⟩:∃ z,cy + vn * tk = z:=⟨_,rfl⟩
   obtain ⟨x',e2⟩:∃ z,x + dr * tk = z:=⟨_,rfl⟩
   obtain ⟨y',e3⟩:∃ z,y + dr * tk = z:=⟨_,rfl⟩
   rw [e0,e1,e2,e3] at EV0 VB0
   replace t0:=t0.trans e0
   replace t1:=t1.trans e1
   replace t2:=t2.trans e2
   replace t3:=t3.trans e3
   clear e0 e1 e2 e3
   cases hb:bxV ⟨cx',cy',x',y'⟩ with
   | false =>
    rw [hb] at VB0
    have EV:=Lib.hid (EV0.trans (if_neg (by rw [hb]; decide)))
    have VB:=Lib.hid VB0
    clear EV0 VB0 hb
    obtain ⟨KB,KV,KZ,HB⟩:=ent3 w #[.int .i64 cx,.int .i64 cy,.int .i64 x,.int .i64 y] 25 #[.int .i64 ve,.int .i64 vn] 36 #[.int .i64 0,.int .i64 0,.int .i64 0,.int .i64 0] 25
    go_enter Tryz.func19,Tryz.ntmps19
    go_wp2_with fail
    generalize ((w.alloc _).alloc _).alloc _ = w0 at *
    refine (VA.out _).mono ?_
    rintro e1 w1 ⟨rfl,hb1⟩
    refine up3 hb1 HB KB KV KZ ?_
    clear hb1 HB KB KV KZ
    intro HB KB KV KZ
    obtain ⟨yV0,yV1,yVz⟩:=blk2 KV
    go_wp2_with fail
    refine (F0.out _).mono ?_
    rintro e2 w2 ⟨rfl,hb2⟩
    refine up3 hb2 HB KB KV KZ ?_
    clear hb2 yV0 yV1 yVz HB KB KV KZ
    intro HB KB KV KZ
    obtain ⟨yV0,yV1,yVz⟩:=blk2 KV
    go_wp2_with fail
    refine (F1.out _).mono ?_
    rintro e3 w3 ⟨rfl,hb3⟩
    refine up3 hb3 HB KB KV KZ ?_
    clear hb3 yV0 yV1 yVz HB KB KV KZ
    intro HB KB KV KZ
    obtain ⟨yV0,yV1,yVz⟩:=blk2 KV
    go_wp2_with fail
    refine (F2.out _).mono ?_
    rintro e4 w4 ⟨rfl,hb4⟩
    refine up3 hb4 HB KB KV KZ ?_
    clear hb4 yV0 yV1 yVz HB KB KV KZ
    intro HB KB KV KZ
    obtain ⟨yV0,yV1,yVz⟩:=blk2 KV
    go_wp2_with fail
    refine (F3.out _).mono ?_
    rintro e5 w5 ⟨rfl,hb5⟩
    refine up3 hb5 HB KB KV KZ ?_
    clear hb5 yV0 yV1 yVz HB KB KV KZ
    intro HB KB KV KZ
    obtain ⟨yB0,yB1,yB2,yB3,yBz,yBf0,yBf1,yBf2,yBf3⟩:=blf4 KB
    obtain ⟨yV0,yV1,yVz⟩:=blk2 KV
    go_wp2_with fail
    replace KB:=kst (kst (kst (kst KB 0 (.int .i64 (cx'))) 1 (.int .i64 (cy'))) 2 (.int .i64 (x'))) 3 (.int .i64 (y'))
    refine ot2 (st4 w5 w.heap.size 0 (.int .i64 (cx')) 1 (.int .i64 (cy')) 2 (.int .i64 (x')) 3 (.int .i64 (y'))) HB KV KZ (by omega) (by omega) (by omega) ?_
    clear HB KV KZ
    intro HB KV KZ
    clear yB0 yB1 yB2 yB3 yBz yBf0 yBf1 yBf2 yBf3 yV0 yV1 yVz
    generalize (((w5.setCell _ _).setCell _ _).setCell _ _).setCell _ _ = w6 at *
    simp only [List.set] at KB
    refine (VB.out _).mono ?_
    rintro e7 w7 ⟨rfl,hb7⟩
    refine up3 hb7 HB KB KV KZ ?_
    clear hb7 HB KB KV KZ
    intro HB KB KV KZ
    obtain ⟨yZ0,yZ1,yZ2,yZ3,yZz,yZf0,yZf1,yZf2,yZf3⟩:=blf4 KZ
    go_wp2
    replace KZ:=kst (kst (kst (kst KZ 0 (.int .i64 0)) 1 (.int .i64 0)) 2 (.int .i64 0)) 3 (.int .i64 0)
    refine ot2 (st4 w7 (w.heap.size + 1 + 1) 0 (.int .i64 0) 1 (.int .i64 0) 2 (.int .i64 0) 3 (.int .i64 0)) HB KB KV (by omega) (by omega) (by omega) ?_
    clear HB KB KV
    intro HB KB KV
    clear yZ0 yZ1 yZ2 yZ3 yZz yZf0 yZf1 yZf2 yZf3
    generalize (((w7.setCell _ _).setCell _ _).setCell _ _).setCell _ _ = w8 at *
    simp only [List.set] at KZ
    obtain ⟨yZ0,yZ1,yZ2,yZ3,yZz⟩:=blk4 KZ
    refine bodyPost_ret (v:=.tuple #[.agg #[.int .i64 0,.int .i64 0,.int .i64 0,.int .i64 0],.int .i64 2]) (by simp [results,Tryz.results19,go_sem,yZ0,yZ1,yZ2,yZ3]) rfl ⟨by rw [EV.out]; rfl,HB.out⟩
   | true =>
    rw [hb] at VB0
    have EV:=Lib.hid (EV0.trans (if_pos hb))
    have VB:=Lib.hid VB0
    clear EV0 VB0 hb
    obtain ⟨KB,KV,KZ,HB⟩:=ent3 w #[.int .i64 cx,.int .i64 cy,.int .i64 x,.int .i64 y] 25 #[.int .i64 ve,.int .i64 vn] 36 #[.int .i64 0,.int .i64 0,.int .i64 0,.int .i64 0] 25
    go_enter Tryz.func19,Tryz.ntmps19
    go_wp2_with fail
    generalize ((w.alloc _).alloc _).alloc _ = w0 at *
    refine (VA.out _).mono ?_
    rintro e1 w1 ⟨rfl,hb1⟩
    refine up3 hb1 HB KB KV KZ ?_
    clear hb1 HB KB KV KZ
    intro HB KB KV KZ
    obtain ⟨yV0,yV1,yVz⟩:=blk2 KV
    go_wp2_with fail
    refine (F0.out _).mono ?_
    rintro e2 w2 ⟨rfl,hb2⟩
    refine up3 hb2 HB KB KV KZ ?_
    clear hb2 yV0 yV1 yVz HB KB KV KZ
    intro HB KB KV KZ
    obtain ⟨yV0,yV1,yVz⟩:=blk2 KV
    go_wp2_with fail
    refine (F1.out _).mono ?_
    rintro e3 w3 ⟨rfl,hb3⟩
    refine up3 hb3 HB KB KV KZ ?_
    clear hb3 yV0 yV1 yVz HB KB KV KZ
    intro HB KB KV KZ
    obtain ⟨yV0,yV1,yVz⟩:=blk2 KV
    go_wp2_with fail
    refine (F2.out _).mono ?_
    rintro e4 w4 ⟨rfl,hb4⟩
    refine up3 hb4 HB KB KV KZ ?_
    clear hb4 yV0 yV1 yVz HB KB KV KZ
    intro HB KB KV KZ
    obtain ⟨yV0,yV1,yVz⟩:=blk2 KV
    go_wp2_with fail
    refine (F3.out _).mono ?_
    rintro e5 w5 ⟨rfl,hb5⟩
    refine up3 hb5 HB KB KV KZ ?_
    clear hb5 yV0 yV1 yVz HB KB KV KZ
    intro HB KB KV KZ
    obtain ⟨yB0,yB1,yB2,yB3,yBz,yBf0,yBf1,yBf2,yBf3⟩:=blf4 KB
    obtain ⟨yV0,yV1,yVz⟩:=blk2 KV
    go_wp2_with fail
    replace KB:=kst (kst (kst (kst KB 0 (.int .i64 (cx'))) 1 (.int .i64 (cy'))) 2 (.int .i64 (x'))) 3 (.int .i64 (y'))
    refine ot2 (st4 w5 w.heap.size 0 (.int .i64 (cx')) 1 (.int .i64 (cy')) 2 (.int .i64 (x')) 3 (.int .i64 (y'))) HB KV KZ (by omega) (by omega) (by omega) ?_
    clear HB KV KZ
    intro HB KV KZ
    clear yB0 yB1 yB2 yB3 yBz yBf0 yBf1 yBf2 yBf3 yV0 yV1 yVz
    generalize (((w5.setCell _ _).setCell _ _).setCell _ _).setCell _ _ = w6 at *
    simp only [List.set] at KB
    refine (VB.out _).mono ?_
    rintro e7 w7 ⟨rfl,hb7⟩
    refine up3 hb7 HB KB KV KZ ?_
    clear hb7 HB KB KV KZ
    intro HB KB KV KZ
    obtain ⟨yB0,yB1,yB2,yB3,yBz⟩:=blk4 KB
    obtain ⟨yZ0,yZ1,yZ2,yZ3,yZz,yZf0,yZf1,yZf2,yZf3⟩:=blf4 KZ
    go_wp2
    replace KZ:=kst (kst (kst (kst KZ 0 (.int .i64 (cx'))) 1 (.int .i64 (cy'))) 2 (.int .i64 (x'))) 3 (.int .i64 (y'))
    refine ot2 (st4 w7 (w.heap.size + 1 + 1) 0 (.int .i64 (cx')) 1 (.int .i64 (cy')) 2 (.int .i64 (x')) 3 (.int .i64 (y'))) HB KB KV (by omega) (by omega) (by omega) ?_
    clear HB KB KV
    intro HB KB KV
    clear yB0 yB1 yB2 yB3 yBz yZ0 yZ1 yZ2 yZ3 yZz yZf0 yZf1 yZf2 yZf3
    generalize (((w7.setCell _ _).setCell _ _).setCell _ _).setCell _ _ = w8 at *
    simp only [List.set] at KZ
    obtain ⟨yZ0,yZ1,yZ2,yZ3,yZz⟩:=blk4 KZ
    refine bodyPost_ret (v:=.tuple #[.agg #[.int .i64 (cx'),.int .i64 (cy'),.int .i64 (x'),.int .i64 (y')],.int .i64 0]) (by simp [results,Tryz.results19,go_sem,yZ0,yZ1,yZ2,yZ3]) rfl ⟨by rw [EV.out],HB.out⟩
  ·have EV:=Lib.hid (EV0.trans (if_neg hr))
   have hr':rngC ve vn dr tk = false:=by simpa using hr
   rw [hr'] at RI
   clear EV0 VB0 hr hr' hv
   generalize cstF b ve vn dr tk = q at *
   obtain ⟨cx,cy,x,y⟩:=b
   simp only at VA
   generalize frm ve (-2000) 2000 = b0 at *
   generalize frm vn (-2000) 2000 = b1 at *
   generalize frm dr 0 1000 = b2 at *
   generalize frm tk 0 144000 = b3 at *
   cases b0 with
   | false =>
    clear RI F1 F2 F3
    obtain ⟨KB,KV,KZ,HB⟩:=ent3 w #[.int .i64 cx,.int .i64 cy,.int .i64 x,.int .i64 y] 25 #[.int .i64 ve,.int .i64 vn] 36 #[.int .i64 0,.int .i64 0,.int .i64 0,.int .i64 0] 25
    go_enter Tryz.func19,Tryz.ntmps19
    go_wp2_with fail
    generalize ((w.alloc _).alloc _).alloc _ = w0 at *
    refine (VA.out _).mono ?_
    rintro e1 w1 ⟨rfl,hb1⟩
    refine up3 hb1 HB KB KV KZ ?_
    clear hb1 HB KB KV KZ
    intro HB KB KV KZ
    obtain ⟨yV0,yV1,yVz⟩:=blk2 KV
    go_wp2_with fail
    refine (F0.out _).mono ?_
    rintro e2 w2 ⟨rfl,hb2⟩
    refine up3 hb2 HB KB KV KZ ?_
    clear hb2 yV0 yV1 yVz HB KB KV KZ
    intro HB KB KV KZ
    obtain ⟨yZ0,yZ1,yZ2,yZ3,yZz,yZf0,yZf1,yZf2,yZf3⟩:=blf4 KZ
    go_wp2
    replace KZ:=kst (kst (kst (kst KZ 0 (.int .i64 0)) 1 (.int .i64 0)) 2 (.int .i64 0)) 3 (.int .i64 0)
    refine ot2 (st4 w2 (w.heap.size + 1 + 1) 0 (.int .i64 0) 1 (.int .i64 0) 2 (.int .i64 0) 3 (.int .i64 0)) HB KB KV (by omega) (by omega) (by omega) ?_
    clear HB KB KV
    intro HB KB KV
    clear yZ0 yZ1 yZ2 yZ3 yZz yZf0 yZf1 yZf2 yZf3
    generalize (((w2.setCell _ _).setCell _ _).setCell _ _).setCell _ _ = w3 at *
    simp only [List.set] at KZ
    obtain ⟨yZ0,yZ1,yZ2,yZ3,yZz⟩:=blk4 KZ
    refine bodyPost_ret (v:=.tuple #[.agg #[.int .i64 0,.int .i64 0,.int .i64 0,.int .i64 0],.int .i64 2]) (by simp [results,Tryz.results19,go_sem,yZ0,yZ1,yZ2,yZ3]) rfl ⟨by rw [EV.out]; rfl,HB.out⟩
   | true =>
    cases b1 with
    | false =>
     clear RI F2 F3
     obtain ⟨KB,KV,KZ,HB⟩:=ent3 w #[.int .i64 cx,.int .i64 cy,.int .i64 x,.int .i64 y] 25 #[.int .i64 ve,.int .i64 vn] 36 #[.int .i64 0,.int .i64 0,.int .i64 0,.int .i64 0] 25
     go_enter Tryz.func19,Tryz.ntmps19
     go_wp2_with fail
     generalize ((w.alloc _).alloc _).alloc _ = w0 at *
     refine (VA.out _).mono ?_
     rintro e1 w1 ⟨rfl,hb1⟩
     refine up3 hb1 HB KB KV KZ ?_
     clear hb1 HB KB KV KZ
     intro HB KB KV KZ
     obtain ⟨yV0,yV1,yVz⟩:=blk2 KV
     go_wp2_with fail
     refine (F0.out _).mono ?_
     rintro e2 w2 ⟨rfl,hb2⟩
     refine up3 hb2 HB KB KV KZ ?_
     clear hb2 yV0 yV1 yVz HB KB KV KZ
     intro HB KB KV KZ
     obtain ⟨yV0,yV1,yVz⟩:=blk2 KV
     go_wp2_with fail
     refine (F1.out _).mono ?_
     rintro e3 w3 ⟨rfl,hb3⟩
     refine up3 hb3 HB KB KV KZ ?_
     clear hb3 yV0 yV1 yVz HB KB KV KZ
     intro HB KB KV KZ
     obtain ⟨yZ0,yZ1,yZ2,yZ3,yZz,yZf0,yZf1,yZf2,yZf3⟩:=blf4 KZ
     go_wp2
     replace KZ:=kst (kst (kst (kst KZ 0 (.int .i64 0)) 1 (.int .i64 0)) 2 (.int .i64 0)) 3 (.int .i64 0)
     refine ot2 (st4 w3 (w.heap.size + 1 + 1) 0 (.int .i64 0) 1 (.int .i64 0) 2 (.int .i64 0) 3 (.int .i64 0)) HB KB KV (by omega) (by omega) (by omega) ?_
     clear HB KB KV
     intro HB KB KV
     clear yZ0 yZ1 yZ2 yZ3 yZz yZf0 yZf1 yZf2 yZf3
     generalize (((w3.setCell _ _).setCell _ _).setCell _ _).setCell _ _ = w4 at *
     simp only [List.set] at KZ
     obtain ⟨yZ0,yZ1,yZ2,yZ3,yZz⟩:=blk4 KZ
     refine bodyPost_ret (v:=.tuple #[.agg #[.int .i64 0,.int .i64 0,.int .i64 0,.int .i64 0],.int .i64 2]) (by simp [results,Tryz.results19,go_sem,yZ0,yZ1,yZ2,yZ3]) rfl ⟨by rw [EV.out]; rfl,HB.out⟩
    | true =>
     cases b2 with
     | false =>
      clear RI F3
      obtain ⟨KB,KV,KZ,HB⟩:=ent3 w #[.int .i64 cx,.int .i64 cy,.int .i64 x,.int .i64 y] 25 #[.int .i64 ve,.int .i64 vn] 36 #[.int .i64 0,.int .i64 0,.int .i64 0,.int .i64 0] 25
      go_enter Tryz.func19,Tryz.ntmps19
      go_wp2_with fail
      generalize ((w.alloc _).alloc _).alloc _ = w0 at *
      refine (VA.out _).mono ?_
      rintro e1 w1 ⟨rfl,hb1⟩
      refine up3 hb1 HB KB KV KZ ?_
      clear hb1 HB KB KV KZ
      intro HB KB KV KZ
      obtain ⟨yV0,yV1,yVz⟩:=blk2 KV
      go_wp2_with fail
      refine (F0.out _).mono ?_
      rintro e2 w2 ⟨rfl,hb2⟩
      refine up3 hb2 HB KB KV KZ ?_
      clear hb2 yV0 yV1 yVz HB KB KV KZ
      intro HB KB KV KZ
      obtain ⟨yV0,yV1,yVz⟩:=blk2 KV
      go_wp2_with fail
      refine (F1.out _).mono ?_
      rintro e3 w3 ⟨rfl,hb3⟩
      refine up3 hb3 HB KB KV KZ ?_
      clear hb3 yV0 yV1 yVz HB KB KV KZ
      intro HB KB KV KZ
      obtain ⟨yV0,yV1,yVz⟩:=blk2 KV
      go_wp2_with fail
      refine (F2.out _).mono ?_
      rintro e4 w4 ⟨rfl,hb4⟩
      refine up3 hb4 HB KB KV KZ ?_
      clear hb4 yV0 yV1 yVz HB KB KV KZ
      intro HB KB KV KZ
      obtain ⟨yZ0,yZ1,yZ2,yZ3,yZz,yZf0,yZf1,yZf2,yZf3⟩:=blf4 KZ
      go_wp2
      replace KZ:=kst (kst (kst (kst KZ 0 (.int .i64 0)) 1 (.int .i64 0)) 2 (.int .i64 0)) 3 (.int .i64 0)
      refine ot2 (st4 w4 (w.heap.size + 1 + 1) 0 (.int .i64 0) 1 (.int .i64 0) 2 (.int .i64 0) 3 (.int .i64 0)) HB KB KV (by omega) (by omega) (by omega) ?_
      clear HB KB KV
      intro HB KB KV
      clear yZ0 yZ1 yZ2 yZ3 yZz yZf0 yZf1 yZf2 yZf3
      generalize (((w4.setCell _ _).setCell _ _).setCell _ _).setCell _ _ = w5 at *
      simp only [List.set] at KZ
      obtain ⟨yZ0,yZ1,yZ2,yZ3,yZz⟩:=blk4 KZ
      refine bodyPost_ret (v:=.tuple #[.agg #[.int .i64 0,.int .i64 0,.int .i64 0,.int .i64 0],.int .i64 2]) (by simp [results,Tryz.results19,go_sem,yZ0,yZ1,yZ2,yZ3]) rfl ⟨by rw [EV.out]; rfl,HB.out⟩
     | true =>
      cases b3 with
      | true=>cases RI
      | false =>
       clear RI
       obtain ⟨KB,KV,KZ,HB⟩:=ent3 w #[.int .i64 cx,.int .i64 cy,.int .i64 x,.int .i64 y] 25 #[.int .i64 ve,.int .i64 vn] 36 #[.int .i64 0,.int .i64 0,.int .i64 0,.int .i64 0] 25
       go_enter Tryz.func19,Tryz.ntmps19
       go_wp2_with fail
       generalize ((w.alloc _).alloc _).alloc _ = w0 at *
       refine (VA.out _).mono ?_
       rintro e1 w1 ⟨rfl,hb1⟩
       refine up3 hb1 HB KB KV KZ ?_
       clear hb1 HB KB KV KZ
       intro HB KB KV KZ
       obtain ⟨yV0,yV1,yVz⟩:=blk2 KV
       go_wp2_with fail
       refine (F0.out _).mono ?_
       rintro e2 w2 ⟨rfl,hb2⟩
       refine up3 hb2 HB KB KV KZ ?_
       clear hb2 yV0 yV1 yVz HB KB KV KZ
       intro HB KB KV KZ
       obtain ⟨yV0,yV1,yVz⟩:=blk2 KV
       go_wp2_with fail
       refine (F1.out _).mono ?_
       rintro e3 w3 ⟨rfl,hb3⟩
       refine up3 hb3 HB KB KV KZ ?_
       clear hb3 yV0 yV1 yVz HB KB KV KZ
       intro HB KB KV KZ
       obtain ⟨yV0,yV1,yVz⟩:=blk2 KV
       go_wp2_with fail
       refine (F2.out _).mono ?_
       rintro e4 w4 ⟨rfl,hb4⟩
       refine up3 hb4 HB KB KV KZ ?_
       clear hb4 yV0 yV1 yVz HB KB KV KZ
       intro HB KB KV KZ
       obtain ⟨yV0,yV1,yVz⟩:=blk2 KV
       go_wp2_with fail
       refine (F3.out _).mono ?_
       rintro e5 w5 ⟨rfl,hb5⟩
       refine up3 hb5 HB KB KV KZ ?_
       clear hb5 yV0 yV1 yVz HB KB KV KZ
       intro HB KB KV KZ
       obtain ⟨yZ0,yZ1,yZ2,yZ3,yZz,yZf0,yZf1,yZf2,yZf3⟩:=blf4 KZ
       go_wp2
       replace KZ:=kst (kst (kst (kst KZ 0 (.int .i64 0)) 1 (.int .i64 0)) 2 (.int .i64 0)) 3 (.int .i64 0)
       refine ot2 (st4 w5 (w.heap.size + 1 + 1) 0 (.int .i64 0) 1 (.int .i64 0) 2 (.int .i64 0) 3 (.int .i64 0)) HB KB KV (by omega) (by omega) (by omega) ?_
       clear HB KB KV
       intro HB KB KV
       clear yZ0 yZ1 yZ2 yZ3 yZz yZf0 yZf1 yZf2 yZf3
       generalize (((w5.setCell _ _).setCell _ _).setCell _ _).setCell _ _ = w6 at *
       simp only [List.set] at KZ
       obtain ⟨yZ0,yZ1,yZ2,yZ3,yZz⟩:=blk4 KZ
       refine bodyPost_ret (v:=.tuple #[.agg #[.int .i64 0,.int .i64 0,.int .i64 0,.int .i64 0],.int .i64 2]) (by simp [results,Tryz.results19,go_sem,yZ0,yZ1,yZ2,yZ3]) rfl ⟨by rw [EV.out]; rfl,HB.out⟩
end Go.Proofs.YtajmjkliblippaaGreatDoor
namespace Go.Proofs.YtajmjkliblippaaGreatDoor
open Go.RowKit
set_option maxHeartbeats 8000000
set_option maxRecDepth 100000
theorem ncheck_any (b:Bx4) (t m:Int) (w:World):Calls Tryz.prog 14 #[.agg #[.int .i64 b.cx,.int .i64 b.cy,.int .i64 b.x,.int .i64 b.y,.int .i64 t,.int .i64 m]] w fun e w'=>e = .returned (.int .i64 (chkS b t m))∧Below w.heap.size w w':=by
 have VA0:=fun w=>ival_any b w
 have EV0:chkS b t m = if bxV b = true then (if 0≤t∧t≤1099511627776∧0≤m∧m≤1000 then 0 else 2) else 1:=rfl
 generalize chkS b t m = q at *
 cases hv:bxV b with
 | false =>
  rw [hv,if_neg (by decide)] at EV0
  rw [hv] at VA0
  have VA:=Lib.hid VA0
  have EV:=Lib.hid EV0
  clear EV0 VA0 hv
  obtain ⟨cx,cy,x,y⟩:=b
  simp only at VA
  obtain ⟨KS,HB⟩:=ent1 w #[.int .i64 cx,.int .i64 cy,.int .i64 x,.int .i64 y,.int .i64 t,.int .i64 m] 27
  go_enter Tryz.func14,Tryz.ntmps14
  go_wp2_with fail
  generalize w.alloc _ = w0 at *
  refine (VA.out _).mono ?_
  rintro e1 w1 ⟨rfl,hb1⟩
  replace HB:=hT HB hb1
  replace KS:=hK KS hb1
  clear hb1
  go_wp2
  all_goals go_ret
  all_goals exact ⟨ret_int EV.out.symm,HB.out⟩
 | true =>
  rw [hv,if_pos rfl] at EV0
  rw [hv] at VA0
  have VA:=Lib.hid VA0
  clear VA0 hv
  obtain ⟨cx,cy,x,y⟩:=b
  simp only at VA
  by_cases h0:t < 0
  ·have g0:decide (t < 0) = true:=by simpa using h0
   have EV:=Lib.hid (EV0.trans (if_neg (by omega)))
   clear EV0 h0
   obtain ⟨KS,HB⟩:=ent1 w #[.int .i64 cx,.int .i64 cy,.int .i64 x,.int .i64 y,.int .i64 t,.int .i64 m] 27
   go_enter Tryz.func14,Tryz.ntmps14
   go_wp2_with fail
   generalize w.alloc _ = w0 at *
   refine (VA.out _).mono ?_
   rintro e1 w1 ⟨rfl,hb1⟩
   replace HB:=hT HB hb1
   replace KS:=hK KS hb1
   clear hb1
   obtain ⟨yS0,yS1,yS2,yS3,yS4,yS5,ySz⟩:=blk6 KS
   go_wp2
   all_goals go_ret
   all_goals exact ⟨ret_int EV.out.symm,HB.out⟩
  ·have g0:decide (t < 0) = false:=by simpa using h0
   by_cases h1:1099511627776 < t
   ·have g1:decide (1099511627776 < t) = true:=by simpa using h1
    have EV:=Lib.hid (EV0.trans (if_neg (by omega)))
    clear EV0 h0 h1
    obtain ⟨KS,HB⟩:=ent1 w #[.int .i64 cx,.int .i64 cy,.int .i64 x,.int .i64 y,.int .i64 t,.int .i64 m] 27
    go_enter Tryz.func14,Tryz.ntmps14
    go_wp2_with fail
    generalize w.alloc _ = w0 at *
    refine (VA.out _).mono ?_
    rintro e1 w1 ⟨rfl,hb1⟩
    replace HB:=hT HB hb1
    replace KS:=hK KS hb1
    clear hb1
    obtain ⟨yS0,yS1,yS2,yS3,yS4,yS5,ySz⟩:=blk6 KS
    go_wp2
    all_goals go_ret
    all_goals exact ⟨ret_int EV.out.symm,HB.out⟩
   ·have g1:decide (1099511627776 < t) = false:=by simpa using h1
    by_cases h2:m < 0
    ·have g2:decide (m < 0) = true:=by simpa using h2
     have EV:=Lib.hid (EV0.trans (if_neg (by omega)))
     clear EV0 h0 h1 h2
     obtain ⟨KS,HB⟩:=ent1 w #[.int .i64 cx,.int .i64 cy,.int .i64 x,.int .i64 y,.int .i64 t,.int .i64 m] 27
     go_enter Tryz.func14,Tryz.ntmps14
     go_wp2_with fail
     generalize w.alloc _ = w0 at *
     refine (VA.out _).mono ?_
     rintro e1 w1 ⟨rfl,hb1⟩
     replace HB:=hT HB hb1
     replace KS:=hK KS hb1
     clear hb1
     obtain ⟨yS0,yS1,yS2,yS3,yS4,yS5,ySz⟩:=blk6 KS
     go_wp2
     all_goals go_ret
     all_goals exact ⟨ret_int EV.out.symm,HB.out⟩
    ·have g2:decide (m < 0) = false:=by simpa using h2
     by_cases h3:1000 < m
     ·have g3:decide (1000 < m) = true:=by simpa using h3
      have EV:=Lib.hid (EV0.trans (if_neg (by omega)))
      clear EV0 h0 h1 h2 h3
      obtain ⟨KS,HB⟩:=ent1 w #[.int .i64 cx,.int .i64 cy,.int .i64 x,.int .i64 y,.int .i64 t,.int .i64 m] 27
      go_enter Tryz.func14,Tryz.ntmps14
      go_wp2_with fail
      generalize w.alloc _ = w0 at *
      refine (VA.out _).mono ?_
      rintro e1 w1 ⟨rfl,hb1⟩
      replace HB:=hT HB hb1
      replace KS:=hK KS hb1
      clear hb1
      obtain ⟨yS0,yS1,yS2,yS3,yS4,yS5,ySz⟩:=blk6 KS
      go_wp2
      all_goals go_ret
      all_goals exact ⟨ret_int EV.out.symm,HB.out⟩
     ·have g3:decide (1000 < m) = false:=by simpa using h3
      have EV:=Lib.hid (EV0.trans (if_pos (by omega)))
      clear EV0 h0 h1 h2 h3
      obtain ⟨KS,HB⟩:=ent1 w #[.int .i64 cx,.int .i64 cy,.int .i64 x,.int .i64 y,.int .i64 t,.int .i64 m] 27
      go_enter Tryz.func14,Tryz.ntmps14
      go_wp2_with fail
      generalize w.alloc _ = w0 at *
      refine (VA.out _).mono ?_
      rintro e1 w1 ⟨rfl,hb1⟩
      replace HB:=hT HB hb1
      replace KS:=hK KS hb1
      clear hb1
      obtain ⟨yS0,yS1,yS2,yS3,yS4,yS5,ySz⟩:=blk6 KS
      go_wp2
      all_goals go_ret
      all_goals exact ⟨ret_int EV.out.symm,HB.out⟩
set_option maxHeartbeats 200000
set_option maxRecDepth 512
def useB (lx ly rq:Int):Bool:=decide (lx≤rq) && decide (ly≤rq)
set_option maxHeartbeats 8000000
set_option maxRecDepth 100000
theorem usable_any (px py lx ly ex rq:Int) (us:Bool) (w:World):Calls Tryz.prog 22 #[.agg #[.int .i64 px,.int .i64 py,.int .i64 lx,.int .i64 ly,.bool us,.int .i64 ex],.int .i64 rq] w fun e w'=>e = .returned (.bool (useB lx ly rq))∧Below w.heap.size w w':=by
 have EV0:useB lx ly rq = (decide (lx≤rq) && decide (ly≤rq)):=rfl
 generalize useB lx ly rq = q at *
 cases h:decide (lx≤rq) <;> cases h2:decide (ly≤rq) <;> rw [h,h2] at EV0 <;> simp at EV0
 all_goals
  have EV:=Lib.hid EV0
  clear EV0
  obtain ⟨KE,HB⟩:=ent1 w #[.int .i64 px,.int .i64 py,.int .i64 lx,.int .i64 ly,.bool us,.int .i64 ex] 41
  go_enter Tryz.func22,Tryz.ntmps22
  go_wp2
  go_ret
  exact ⟨ret_b EV.out.symm,HB.out⟩
end Go.Proofs.YtajmjkliblippaaGreatDoor
