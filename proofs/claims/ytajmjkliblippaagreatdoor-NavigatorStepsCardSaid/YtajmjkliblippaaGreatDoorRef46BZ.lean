/-
  The reference's meet, Merge and Coast of layer 45.
-/
import Derived.Test.YtajmjkliblippaaGreatDoorQ3
import Derived.Test.YtajmjkliblippaaGreatDoorQ20
import Derived.Test.YtajmjkliblippaaGreatDoorQ21
import Derived.Test.YtajmjkliblippaaGreatDoorRef46AZ
set_option linter.unusedVariables false
namespace Go.Proofs.YtajmjkliblippaaGreatDoor
open Go.RowKit
theorem r01_half (a:Int) (w:World) (a0:-9223372036854775808 < a) (a1:a≤9223372036854775807) :
 Calls Tryz.prog 162 #[.int .i64 a,.int .i64 2] w fun e w'=>e = .returned (.tuple #[.int .i64 (a / 2),.int .i64 0])∧Below w.heap.size w w':=by
 have S0:=fun w=>S41.quotient_down a 1 2 w (by omega) a1 (by omega) (by omega) (by omega) (by omega) (by omega) (by omega)
 rw [Int.mul_one] at S0
 have S:=Lib.hid S0
 clear S0
 go_enter Tryz.func162,Tryz.ntmps162
 go_wp2_with (go_at_call 105; refine (S.out _).mono ?_; rintro e w' ⟨rfl,rfl⟩)
 go_ret2
 exact ⟨rfl,Below.refl _ _⟩
set_option maxHeartbeats 40000000
set_option maxRecDepth 100000
theorem rmeet_any (a x b y:Int) (w:World) (ha:-2000000≤a∧a≤2000000) (hx:0≤x∧x≤2000000) (hb:-2000000≤b∧b≤2000000) (hy:0≤y∧y≤2000000) :
 Calls Tryz.prog 117 #[.int .i64 a,.int .i64 x,.int .i64 b,.int .i64 y] w fun e w'=>e = .returned (.tuple #[.int .i64 (ovM a x b y),.int .i64 (ovH a x b y - ovM a x b y),.bool (decide (ovL a x b y≤ovH a x b y))])∧Below w.heap.size w w':=by
 have p0:IntKind.i64.wrap (a - x) = a - x:=IntWalk.i64_in _ (by omega)
 have p1:IntKind.i64.wrap (b - y) = b - y:=IntWalk.i64_in _ (by omega)
 have p2:IntKind.i64.wrap (a + x) = a + x:=IntWalk.i64_in _ (by omega)
 have p3:IntKind.i64.wrap (b + y) = b + y:=IntWalk.i64_in _ (by omega)
 have EM:ovM a x b y = (ovL a x b y + ovH a x b y) / 2:=rfl
 have l0:-4000000≤ovL a x b y∧ovL a x b y≤4000000:=by unfold ovL; omega
 have l1:-4000000≤ovH a x b y∧ovH a x b y≤4000000:=by unfold ovH; omega
 have EL:max (a - x) (b - y) = ovL a x b y:=rfl
 have EH:min (a + x) (b + y) = ovH a x b y:=rfl
 generalize ovL a x b y = lo at *
 generalize ovH a x b y = hi at *
 generalize ovM a x b y = mi at *
 have p4:IntKind.i64.wrap (lo + hi) = lo + hi:=IntWalk.i64_in _ (by omega)
 have p5:IntKind.i64.wrap (hi - mi) = hi - mi:=IntWalk.i64_in _ (by omega)
 have FL0:=fun w=>r01_half (lo + hi) w (by omega) (by omega)
 rw [← EM] at FL0
 have FL:=Lib.hid FL0
 clear FL0 EM l0 l1 ha hx hb hy
 go_enter Tryz.func117,Tryz.ntmps117
 go_wp2_with (go_at_call 162; (try rw [EL]); (try rw [EH]); (try rw [p4]); refine (FL.out _).mono ?_; rintro e1 w1 ⟨rfl,hb1⟩)
 go_ret3
 exact ⟨by simp,hb1⟩
theorem rmerge_any (a b:Bx4) (w:World):Calls Tryz.prog 76 #[.agg #[.int .i64 a.cx,.int .i64 a.cy,.int .i64 a.x,.int .i64 a.y],.agg #[.int .i64 b.cx,.int .i64 b.cy,.int .i64 b.x,.int .i64 b.y]] w fun e w'=>e = .returned (.tuple #[.agg #[.int .i64 (mrgF a b).1.cx,.int .i64 (mrgF a b).1.cy,.int .i64 (mrgF a b).1.x,.int .i64 (mrgF a b).1.y],.int .i64 (mrgF a b).2])∧Below w.heap.size w w':=by
 have VA0:=fun w=>r45_valid a w
 have VB0:=fun w=>r45_valid b w
 have EV0:mrgF a b = if bxV a = true then (if bxV b = true then (if ovL a.cx a.x b.cx b.x≤ovH a.cx a.x b.cx b.x∧ovL a.cy a.y b.cy b.y≤ovH a.cy a.y b.cy b.y then (mrgB a b,0) else (bx0,11)) else (bx0,1)) else (bx0,1):=rfl
 cases hv:bxV a with
 | false =>
  rw [hv] at VA0
  have VA:=Lib.hid VA0
  have EV:=Lib.hid (EV0.trans (if_neg (by rw [hv]; decide)))
  clear EV0 VA0 hv VB0
  generalize mrgF a b = q at *
  obtain ⟨ax,ay,a1,a2⟩:=a
  obtain ⟨bx,by',b1,b2⟩:=b
  simp only at VA
  obtain ⟨KA,KB,KZ,HB⟩:=ent3 w #[.int .i64 ax,.int .i64 ay,.int .i64 a1,.int .i64 a2] 25 #[.int .i64 bx,.int .i64 (by'),.int .i64 b1,.int .i64 b2] 25 #[.int .i64 0,.int .i64 0,.int .i64 0,.int .i64 0] 25
  go_enter Tryz.func76,Tryz.ntmps76
  go_wp2_with fail
  generalize ((w.alloc _).alloc _).alloc _ = w0 at *
  refine (VA.out _).mono ?_
  rintro e1 w1 ⟨rfl,hb1⟩
  refine up3 hb1 HB KA KB KZ ?_
  clear hb1 HB KA KB KZ
  intro HB KA KB KZ
  obtain ⟨yZ0,yZ1,yZ2,yZ3,yZz,yZf0,yZf1,yZf2,yZf3⟩:=blf4 KZ
  go_wp2
  replace KZ:=kst (kst (kst (kst KZ 0 (.int .i64 0)) 1 (.int .i64 0)) 2 (.int .i64 0)) 3 (.int .i64 0)
  refine ot2 (st4 w1 (w.heap.size + 1 + 1) 0 (.int .i64 0) 1 (.int .i64 0) 2 (.int .i64 0) 3 (.int .i64 0)) HB KA KB (by omega) (by omega) (by omega) ?_
  clear HB KA KB
  intro HB KA KB
  clear yZ0 yZ1 yZ2 yZ3 yZz yZf0 yZf1 yZf2 yZf3
  generalize (((w1.setCell _ _).setCell _ _).setCell _ _).setCell _ _ = w2 at *
  simp only [List.set] at KZ
  obtain ⟨yZ0,yZ1,yZ2,yZ3,yZz⟩:=blk4 KZ
  refine bodyPost_ret (v:=.tuple #[.agg #[.int .i64 0,.int .i64 0,.int .i64 0,.int .i64 0],.int .i64 1]) (by simp [results,Tryz.results76,go_sem,yZ0,yZ1,yZ2,yZ3]) rfl ⟨by rw [EV.out]; rfl,HB.out⟩
 | true =>
  rw [hv,if_pos rfl] at EV0
  rw [hv] at VA0
  have VA:=Lib.hid VA0
  clear VA0
  cases hb:bxV b with
  | false =>
   rw [hb] at VB0
   have VB:=Lib.hid VB0
   have EV:=Lib.hid (EV0.trans (if_neg (by rw [hb]; decide)))
   clear EV0 VB0 hv hb
   generalize mrgF a b = q at *
   obtain ⟨ax,ay,a1,a2⟩:=a
   obtain ⟨bx,by',b1,b2⟩:=b
   simp only at VA VB
   obtain ⟨KA,KB,KZ,HB⟩:=ent3 w #[.int .i64 ax,.int .i64 ay,.int .i64 a1,.int .i64 a2] 25 #[.int .i64 bx,.int .i64 (by'),.int .i64 b1,.int .i64 b2] 25 #[.int .i64 0,.int .i64 0,.int .i64 0,.int .i64 0] 25
   go_enter Tryz.func76,Tryz.ntmps76
   go_wp2_with fail
   generalize ((w.alloc _).alloc _).alloc _ = w0 at *
   refine (VA.out _).mono ?_
   rintro e1 w1 ⟨rfl,hb1⟩
   refine up3 hb1 HB KA KB KZ ?_
   clear hb1 HB KA KB KZ
   intro HB KA KB KZ
   obtain ⟨yB0,yB1,yB2,yB3,yBz⟩:=blk4 KB
   go_wp2_with fail
   refine (VB.out _).mono ?_
   rintro e2 w2 ⟨rfl,hb2⟩
   refine up3 hb2 HB KA KB KZ ?_
   clear hb2 yB0 yB1 yB2 yB3 yBz HB KA KB KZ
   intro HB KA KB KZ
   obtain ⟨yZ0,yZ1,yZ2,yZ3,yZz,yZf0,yZf1,yZf2,yZf3⟩:=blf4 KZ
   go_wp2
   replace KZ:=kst (kst (kst (kst KZ 0 (.int .i64 0)) 1 (.int .i64 0)) 2 (.int .i64 0)) 3 (.int .i64 0)
   refine ot2 (st4 w2 (w.heap.size + 1 + 1) 0 (.int .i64 0) 1 (.int .i64 0) 2 (.int .i64 0) 3 (.int .i64 0)) HB KA KB (by omega) (by omega) (by omega) ?_
   clear HB KA KB
   intro HB KA KB
   clear yZ0 yZ1 yZ2 yZ3 yZz yZf0 yZf1 yZf2 yZf3
   generalize (((w2.setCell _ _).setCell _ _).setCell _ _).setCell _ _ = w3 at *
   simp only [List.set] at KZ
   obtain ⟨yZ0,yZ1,yZ2,yZ3,yZz⟩:=blk4 KZ
   refine bodyPost_ret (v:=.tuple #[.agg #[.int .i64 0,.int .i64 0,.int .i64 0,.int .i64 0],.int .i64 1]) (by simp [results,Tryz.results76,go_sem,yZ0,yZ1,yZ2,yZ3]) rfl ⟨by rw [EV.out]; rfl,HB.out⟩
  | true =>
   rw [hb,if_pos rfl] at EV0
   rw [hb] at VB0
   have VB:=Lib.hid VB0
   clear VB0
   have v1:=bxV_iff.1 hv
   have v2:=bxV_iff.1 hb
   have OX0:=fun w=>rmeet_any a.cx a.x b.cx b.x w (by omega) (by omega) (by omega) (by omega)
   have OY0:=fun w=>rmeet_any a.cy a.y b.cy b.y w (by omega) (by omega) (by omega) (by omega)
   clear hv hb v1 v2
   unfold mrgB at EV0
   obtain ⟨ox,hox⟩:∃ z,decide (ovL a.cx a.x b.cx b.x≤ovH a.cx a.x b.cx b.x) = z:=⟨_,rfl⟩
   obtain ⟨oy,hoy⟩:∃ z,decide (ovL a.cy a.y b.cy b.y≤ovH a.cy a.y b.cy b.y) = z:=⟨_,rfl⟩
   rw [hox] at OX0
   rw [hoy] at OY0
   have EX:ox = true→oy = true→mrgF a b = (⟨ovM a.cx a.x b.cx b.x,ovM a.cy a.y b.cy b.y,ovH a.cx a.x b.cx b.x - ovM a.cx a.x b.cx b.x,ovH a.cy a.y b.cy b.y - ovM a.cy a.y b.cy b.y⟩,0):=fun h1 h2=>EV0.trans (if_pos ⟨of_decide_eq_true (hox.trans h1),of_decide_eq_true (hoy.trans h2)⟩)
   have EN:ox = false∨oy = false→mrgF a b = (bx0,11):=fun h=>EV0.trans (if_neg fun ⟨h1,h2⟩=>by
    rw [decide_eq_true h1] at hox
    rw [decide_eq_true h2] at hoy
    subst hox hoy
    simp at h)
   clear hox hoy EV0
   generalize ovH a.cx a.x b.cx b.x - ovM a.cx a.x b.cx b.x = wx at *
   generalize ovH a.cy a.y b.cy b.y - ovM a.cy a.y b.cy b.y = wy at *
   generalize ovM a.cx a.x b.cx b.x = mx at *
   generalize ovM a.cy a.y b.cy b.y = my at *
   generalize mrgF a b = q at *
   obtain ⟨ax,ay,a1,a2⟩:=a
   obtain ⟨bx,by',b1,b2⟩:=b
   simp only at VA VB OX0 OY0
   have OX:=Lib.hid OX0
   have OY:=Lib.hid OY0
   clear OX0 OY0
   by_cases h:ox = true∧oy = true
   ·obtain ⟨rfl,rfl⟩:=h
    have EV:=Lib.hid (EX rfl rfl)
    clear EN EX
    obtain ⟨KA,KB,KZ,HB⟩:=ent3 w #[.int .i64 ax,.int .i64 ay,.int .i64 a1,.int .i64 a2] 25 #[.int .i64 bx,.int .i64 (by'),.int .i64 b1,.int .i64 b2] 25 #[.int .i64 0,.int .i64 0,.int .i64 0,.int .i64 0] 25
    go_enter Tryz.func76,Tryz.ntmps76
    go_wp2_with fail
    generalize ((w.alloc _).alloc _).alloc _ = w0 at *
    refine (VA.out _).mono ?_
    rintro e1 w1 ⟨rfl,hb1⟩
    refine up3 hb1 HB KA KB KZ ?_
    clear hb1 HB KA KB KZ
    intro HB KA KB KZ
    obtain ⟨yB0,yB1,yB2,yB3,yBz⟩:=blk4 KB
    go_wp2_with fail
    refine (VB.out _).mono ?_
    rintro e2 w2 ⟨rfl,hb2⟩
    refine up3 hb2 HB KA KB KZ ?_
    clear hb2 yB0 yB1 yB2 yB3 yBz HB KA KB KZ
    intro HB KA KB KZ
    obtain ⟨yA0,yA1,yA2,yA3,yAz⟩:=blk4 KA
    obtain ⟨yB0,yB1,yB2,yB3,yBz⟩:=blk4 KB
    go_wp2_with fail
    refine (OX.out _).mono ?_
    rintro e3 w3 ⟨rfl,hb3⟩
    refine up3 hb3 HB KA KB KZ ?_
    clear hb3 yA0 yA1 yA2 yA3 yAz yB0 yB1 yB2 yB3 yBz HB KA KB KZ
    intro HB KA KB KZ
    obtain ⟨yA0,yA1,yA2,yA3,yAz⟩:=blk4 KA
    obtain ⟨yB0,yB1,yB2,yB3,yBz⟩:=blk4 KB
    go_wp2_with fail
    refine (OY.out _).mono ?_
    rintro e4 w4 ⟨rfl,hb4⟩
    refine up3 hb4 HB KA KB KZ ?_
    clear hb4 yA0 yA1 yA2 yA3 yAz yB0 yB1 yB2 yB3 yBz HB KA KB KZ
    intro HB KA KB KZ
    obtain ⟨yZ0,yZ1,yZ2,yZ3,yZz,yZf0,yZf1,yZf2,yZf3⟩:=blf4 KZ
    go_wp2
    replace KZ:=kst (kst (kst (kst KZ 0 (.int .i64 mx)) 1 (.int .i64 my)) 2 (.int .i64 wx)) 3 (.int .i64 wy)
    refine ot2 (st4 w4 (w.heap.size + 1 + 1) 0 (.int .i64 mx) 1 (.int .i64 my) 2 (.int .i64 wx) 3 (.int .i64 wy)) HB KA KB (by omega) (by omega) (by omega) ?_
    clear HB KA KB
    intro HB KA KB
    clear yZ0 yZ1 yZ2 yZ3 yZz yZf0 yZf1 yZf2 yZf3
    generalize (((w4.setCell _ _).setCell _ _).setCell _ _).setCell _ _ = w5 at *
    simp only [List.set] at KZ
    obtain ⟨yZ0,yZ1,yZ2,yZ3,yZz⟩:=blk4 KZ
    refine bodyPost_ret (v:=.tuple #[.agg #[.int .i64 mx,.int .i64 my,.int .i64 wx,.int .i64 wy],.int .i64 0]) (by simp [results,Tryz.results76,go_sem,yZ0,yZ1,yZ2,yZ3]) rfl ⟨by rw [EV.out],HB.out⟩
   ·have h:ox = false∨oy = false:=by cases ox <;> cases oy <;> simp at h ⊢
    have EV:=Lib.hid (EN h)
    clear EN EX
    cases ox with
    | false =>
     obtain ⟨KA,KB,KZ,HB⟩:=ent3 w #[.int .i64 ax,.int .i64 ay,.int .i64 a1,.int .i64 a2] 25 #[.int .i64 bx,.int .i64 (by'),.int .i64 b1,.int .i64 b2] 25 #[.int .i64 0,.int .i64 0,.int .i64 0,.int .i64 0] 25
     go_enter Tryz.func76,Tryz.ntmps76
     go_wp2_with fail
     generalize ((w.alloc _).alloc _).alloc _ = w0 at *
     refine (VA.out _).mono ?_
     rintro e1 w1 ⟨rfl,hb1⟩
     refine up3 hb1 HB KA KB KZ ?_
     clear hb1 HB KA KB KZ
     intro HB KA KB KZ
     obtain ⟨yB0,yB1,yB2,yB3,yBz⟩:=blk4 KB
     go_wp2_with fail
     refine (VB.out _).mono ?_
     rintro e2 w2 ⟨rfl,hb2⟩
     refine up3 hb2 HB KA KB KZ ?_
     clear hb2 yB0 yB1 yB2 yB3 yBz HB KA KB KZ
     intro HB KA KB KZ
     obtain ⟨yA0,yA1,yA2,yA3,yAz⟩:=blk4 KA
     obtain ⟨yB0,yB1,yB2,yB3,yBz⟩:=blk4 KB
     go_wp2_with fail
     refine (OX.out _).mono ?_
     rintro e3 w3 ⟨rfl,hb3⟩
     refine up3 hb3 HB KA KB KZ ?_
     clear hb3 yA0 yA1 yA2 yA3 yAz yB0 yB1 yB2 yB3 yBz HB KA KB KZ
     intro HB KA KB KZ
     obtain ⟨yA0,yA1,yA2,yA3,yAz⟩:=blk4 KA
     obtain ⟨yB0,yB1,yB2,yB3,yBz⟩:=blk4 KB
     go_wp2_with fail
     refine (OY.out _).mono ?_
     rintro e4 w4 ⟨rfl,hb4⟩
     refine up3 hb4 HB KA KB KZ ?_
     clear hb4 yA0 yA1 yA2 yA3 yAz yB0 yB1 yB2 yB3 yBz HB KA KB KZ
     intro HB KA KB KZ
     obtain ⟨yZ0,yZ1,yZ2,yZ3,yZz,yZf0,yZf1,yZf2,yZf3⟩:=blf4 KZ
     go_wp2
     replace KZ:=kst (kst (kst (kst KZ 0 (.int .i64 0)) 1 (.int .i64 0)) 2 (.int .i64 0)) 3 (.int .i64 0)
     refine ot2 (st4 w4 (w.heap.size + 1 + 1) 0 (.int .i64 0) 1 (.int .i64 0) 2 (.int .i64 0) 3 (.int .i64 0)) HB KA KB (by omega) (by omega) (by omega) ?_
     clear HB KA KB
     intro HB KA KB
     clear yZ0 yZ1 yZ2 yZ3 yZz yZf0 yZf1 yZf2 yZf3
     generalize (((w4.setCell _ _).setCell _ _).setCell _ _).setCell _ _ = w5 at *
     simp only [List.set] at KZ
     obtain ⟨yZ0,yZ1,yZ2,yZ3,yZz⟩:=blk4 KZ
     refine bodyPost_ret (v:=.tuple #[.agg #[.int .i64 0,.int .i64 0,.int .i64 0,.int .i64 0],.int .i64 11]) (by simp [results,Tryz.results76,go_sem,yZ0,yZ1,yZ2,yZ3]) rfl ⟨by rw [EV.out]; rfl,HB.out⟩
    | true =>
     obtain rfl:oy = false:=by simpa using h
     obtain ⟨KA,KB,KZ,HB⟩:=ent3 w #[.int .i64 ax,.int .i64 ay,.int .i64 a1,.int .i64 a2] 25 #[.int .i64 bx,.int .i64 (by'),.int .i64 b1,.int .i64 b2] 25 #[.int .i64 0,.int .i64 0,.int .i64 0,.int .i64 0] 25
     go_enter Tryz.func76,Tryz.ntmps76
     go_wp2_with fail
     generalize ((w.alloc _).alloc _).alloc _ = w0 at *
     refine (VA.out _).mono ?_
     rintro e1 w1 ⟨rfl,hb1⟩
     refine up3 hb1 HB KA KB KZ ?_
     clear hb1 HB KA KB KZ
     intro HB KA KB KZ
     obtain ⟨yB0,yB1,yB2,yB3,yBz⟩:=blk4 KB
     go_wp2_with fail
     refine (VB.out _).mono ?_
     rintro e2 w2 ⟨rfl,hb2⟩
     refine up3 hb2 HB KA KB KZ ?_
     clear hb2 yB0 yB1 yB2 yB3 yBz HB KA KB KZ
     intro HB KA KB KZ
     obtain ⟨yA0,yA1,yA2,yA3,yAz⟩:=blk4 KA
     obtain ⟨yB0,yB1,yB2,yB3,yBz⟩:=blk4 KB
     go_wp2_with fail
     refine (OX.out _).mono ?_
     rintro e3 w3 ⟨rfl,hb3⟩
     refine up3 hb3 HB KA KB KZ ?_
     clear hb3 yA0 yA1 yA2 yA3 yAz yB0 yB1 yB2 yB3 yBz HB KA KB KZ
     intro HB KA KB KZ
     obtain ⟨yA0,yA1,yA2,yA3,yAz⟩:=blk4 KA
     obtain ⟨yB0,yB1,yB2,yB3,yBz⟩:=blk4 KB
     go_wp2_with fail
     refine (OY.out _).mono ?_
     rintro e4 w4 ⟨rfl,hb4⟩
     refine up3 hb4 HB KA KB KZ ?_
     clear hb4 yA0 yA1 yA2 yA3 yAz yB0 yB1 yB2 yB3 yBz HB KA KB KZ
     intro HB KA KB KZ
     obtain ⟨yZ0,yZ1,yZ2,yZ3,yZz,yZf0,yZf1,yZf2,yZf3⟩:=blf4 KZ
     go_wp2
     replace KZ:=kst (kst (kst (kst KZ 0 (.int .i64 0)) 1 (.int .i64 0)) 2 (.int .i64 0)) 3 (.int .i64 0)
     refine ot2 (st4 w4 (w.heap.size + 1 + 1) 0 (.int .i64 0) 1 (.int .i64 0) 2 (.int .i64 0) 3 (.int .i64 0)) HB KA KB (by omega) (by omega) (by omega) ?_
     clear HB KA KB
     intro HB KA KB
     clear yZ0 yZ1 yZ2 yZ3 yZz yZf0 yZf1 yZf2 yZf3
     generalize (((w4.setCell _ _).setCell _ _).setCell _ _).setCell _ _ = w5 at *
     simp only [List.set] at KZ
     obtain ⟨yZ0,yZ1,yZ2,yZ3,yZz⟩:=blk4 KZ
     refine bodyPost_ret (v:=.tuple #[.agg #[.int .i64 0,.int .i64 0,.int .i64 0,.int .i64 0],.int .i64 11]) (by simp [results,Tryz.results76,go_sem,yZ0,yZ1,yZ2,yZ3]) rfl ⟨by rw [EV.out]; rfl,HB.out⟩
theorem rcoast_any (b:Bx4) (ve vn dr tk:Int) (w:World):Calls Tryz.prog 35 #[.agg #[.int .i64 b.cx,.int .i64 b.cy,.int .i64 b.x,.int .i64 b.y],.agg #[.int .i64 ve,.int .i64 vn],.int .i64 dr,.int .i64 tk] w fun e w'=>e = .returned (.tuple #[.agg #[.int .i64 (cstF b ve vn dr tk).1.cx,.int .i64 (cstF b ve vn dr tk).1.cy,.int .i64 (cstF b ve vn dr tk).1.x,.int .i64 (cstF b ve vn dr tk).1.y],.int .i64 (cstF b ve vn dr tk).2])∧Below w.heap.size w w':=by
 have VA0:=fun w=>r45_valid b w
 have F0:=Lib.hid fun w=>r45_within ve (-2000) 2000 w
 have F1:=Lib.hid fun w=>r45_within vn (-2000) 2000 w
 have F2:=Lib.hid fun w=>r45_within dr 0 1000 w
 have F3:=Lib.hid fun w=>r45_within tk 0 144000 w
 have RI:=rngC_is ve vn dr tk
 have EV0:cstF b ve vn dr tk = if bxV b = true then (if rngC ve vn dr tk = true then (if bxV (movB b ve vn dr tk) = true then (movB b ve vn dr tk,0) else (bx0,2)) else (bx0,2)) else (bx0,1):=rfl
 cases hv:bxV b with
 | false =>
  rw [hv] at VA0
  have VA:=Lib.hid VA0
  have EV:=Lib.hid (EV0.trans (if_neg (by rw [hv]; decide)))
  clear EV0 VA0 hv RI F0 F1 F2 F3
  generalize cstF b ve vn dr tk = q at *
  obtain ⟨cx,cy,x,y⟩:=b
  simp only at VA
  obtain ⟨KB,KV,KZ,HB⟩:=ent3 w #[.int .i64 cx,.int .i64 cy,.int .i64 x,.int .i64 y] 25 #[.int .i64 ve,.int .i64 vn] 36 #[.int .i64 0,.int .i64 0,.int .i64 0,.int .i64 0] 25
  go_enter Tryz.func35,Tryz.ntmps35
  go_wp2_with fail
  generalize ((w.alloc _).alloc _).alloc _ = w0 at *
  refine (VA.out _).mono ?_
  rintro e1 w1 ⟨rfl,hb1⟩
  refine up3 hb1 HB KB KV KZ ?_
  clear hb1 HB KB KV KZ
  intro HB KB KV KZ
  obtain ⟨yZ0,yZ1,yZ2,yZ3,yZz,yZf0,yZf1,yZf2,yZf3⟩:=blf4 KZ
  go_wp2
  replace KZ:=kst (kst (kst (kst KZ 0 (.int .i64 0)) 1 (.int .i64 0)) 2 (.int .i64 0)) 3 (.int .i64 0)
  refine ot2 (st4 w1 (w.heap.size + 1 + 1) 0 (.int .i64 0) 1 (.int .i64 0) 2 (.int .i64 0) 3 (.int .i64 0)) HB KB KV (by omega) (by omega) (by omega) ?_
  clear HB KB KV
  intro HB KB KV
  clear yZ0 yZ1 yZ2 yZ3 yZz yZf0 yZf1 yZf2 yZf3
  generalize (((w1.setCell _ _).setCell _ _).setCell _ _).setCell _ _ = w2 at *
  simp only [List.set] at KZ
  obtain ⟨yZ0,yZ1,yZ2,yZ3,yZz⟩:=blk4 KZ
  refine bodyPost_ret (v:=.tuple #[.agg #[.int .i64 0,.int .i64 0,.int .i64 0,.int .i64 0],.int .i64 1]) (by simp [results,Tryz.results35,go_sem,yZ0,yZ1,yZ2,yZ3]) rfl ⟨by rw [EV.out]; rfl,HB.out⟩
 | true =>
  rw [hv,if_pos rfl] at EV0
  rw [hv] at VA0
  have VA:=Lib.hid VA0
  clear VA0
  have VB0:=fun w=>r45_valid (movB b ve vn dr tk) w
  by_cases hr:rngC ve vn dr tk = true
  ·rw [if_pos hr] at EV0
   have R:=rngC_iff.1 hr
   have BV:=bxV_iff.1 hv
   rw [hr] at RI
   have k0:frm ve (-2000) 2000 = true:=by unfold frm; simp only [Bool.and_eq_true,decide_eq_true_iff]; omega
   have k1:frm vn (-2000) 2000 = true:=by unfold frm; simp only [Bool.and_eq_true,decide_eq_true_iff]; omega
   have k2:frm dr 0 1000 = true:=by unfold frm; simp only [Bool.and_eq_true,decide_eq_true_iff]; omega
   have k3:frm tk 0 144000 = true:=by unfold frm; simp only [Bool.and_eq_true,decide_eq_true_iff]; omega
   rw [k0] at F0
   rw [k1] at F1
   rw [k2] at F2
   rw [k3] at F3
   have p0:=mulb (X:=2000) (Y:=144000) (x:=ve) (y:=tk) (by omega) (by omega) (by omega) (by omega) (by omega)
   have p1:=mulb (X:=2000) (Y:=144000) (x:=vn) (y:=tk) (by omega) (by omega) (by omega) (by omega) (by omega)
   have p2:=mulb (X:=1000) (Y:=144000) (x:=dr) (y:=tk) (by omega) (by omega) (by omega) (by omega) (by omega)
   unfold movB at VB0 EV0
   obtain ⟨cx,cy,x,y⟩:=b
   simp only at VA VB0 EV0 BV
   have s0:IntKind.i64.wrap (ve * tk) = ve * tk:=IntWalk.i64_in _ (by omega)
   have s1:IntKind.i64.wrap (vn * tk) = vn * tk:=IntWalk.i64_in _ (by omega)
   have s2:IntKind.i64.wrap (dr * tk) = dr * tk:=IntWalk.i64_in _ (by omega)
   have t0:IntKind.i64.wrap (cx + ve * tk) = cx + ve * tk:=IntWalk.i64_in _ (by omega)
   have t1:IntKind.i64.wrap (cy + vn * tk) = cy + vn * tk:=IntWalk.i64_in _ (by omega)
   have t2:IntKind.i64.wrap (x + dr * tk) = x + dr * tk:=IntWalk.i64_in _ (by omega)
   have t3:IntKind.i64.wrap (y + dr * tk) = y + dr * tk:=IntWalk.i64_in _ (by omega)
   clear p0 p1 p2 R BV k0 k1 k2 k3 RI hr hv
   generalize cstF ⟨cx,cy,x,y⟩ ve vn dr tk = q at *
   obtain ⟨cx',e0⟩:∃ z,cx + ve * tk = z:=⟨_,rfl⟩
   obtain ⟨cy',e1⟩:∃ z,cy + vn * tk = z:=⟨_,rfl⟩
   obtain ⟨x',e2⟩:∃ z,x + dr * tk = z:=⟨_,rfl⟩
   obtain ⟨y',e3⟩:∃ z,y + dr * tk = z:=⟨_,rfl⟩
   rw [e0,e1,e2,e3] at EV0 VB0
   replace t0:=t0.trans e0
   replace t1:=t1.trans e1
   replace t2:=t2.trans e2
   replace t3:=t3.trans e3
   clear e0 e1 e2 e3
   cases hb:bxV ⟨cx',cy',x',y'⟩ with
   | false =>
    rw [hb] at VB0
    have EV:=Lib.hid (EV0.trans (if_neg (by rw [hb]; decide)))
    have VB:=Lib.hid VB0
    clear EV0 VB0 hb
    obtain ⟨KB,KV,KZ,HB⟩:=ent3 w #[.int .i64 cx,.int .i64 cy,.int .i64 x,.int .i64 y] 25 #[.int .i64 ve,.int .i64 vn] 36 #[.int .i64 0,.int .i64 0,.int .i64 0,.int .i64 0] 25
    go_enter Tryz.func35,Tryz.ntmps35
    go_wp2_with fail
    generalize ((w.alloc _).alloc _).alloc _ = w0 at *
    refine (VA.out _).mono ?_
    rintro e1 w1 ⟨rfl,hb1⟩
    refine up3 hb1 HB KB KV KZ ?_
    clear hb1 HB KB KV KZ
    intro HB KB KV KZ
    obtain ⟨yV0,yV1,yVz⟩:=blk2 KV
    go_wp2_with fail
    refine (F0.out _).mono ?_
    rintro e2 w2 ⟨rfl,hb2⟩
    refine up3 hb2 HB KB KV KZ ?_
    clear hb2 yV0 yV1 yVz HB KB KV KZ
    intro HB KB KV KZ
    obtain ⟨yV0,yV1,yVz⟩:=blk2 KV
    go_wp2_with fail
    refine (F1.out _).mono ?_
    rintro e3 w3 ⟨rfl,hb3⟩
    refine up3 hb3 HB KB KV KZ ?_
    clear hb3 yV0 yV1 yVz HB KB KV KZ
    intro HB KB KV KZ
    go_wp2_with fail
    refine (F2.out _).mono ?_
    rintro e4 w4 ⟨rfl,hb4⟩
    refine up3 hb4 HB KB KV KZ ?_
    clear hb4 HB KB KV KZ
    intro HB KB KV KZ
    go_wp2_with fail
    refine (F3.out _).mono ?_
    rintro e5 w5 ⟨rfl,hb5⟩
    refine up3 hb5 HB KB KV KZ ?_
    clear hb5 HB KB KV KZ
    intro HB KB KV KZ
    obtain ⟨yB0,yB1,yB2,yB3,yBz⟩:=blk4 KB
    obtain ⟨yV0,yV1,yVz⟩:=blk2 KV
    go_upto_region 6 with (fail)
    obtain ⟨KC,hb6⟩:=alB w5 #[.int .i64 (cx'),.int .i64 (cy'),.int .i64 (x'),.int .i64 (y')] 25
    have hnC:=HB.out.size
    have nzC_B:=KB.out.lt
    have nzC_V:=KV.out.lt
    have nzC_Z:=KZ.out.lt
    refine up3 hb6 HB KB KV KZ ?_
    clear hb6 yB0 yB1 yB2 yB3 yBz yV0 yV1 yVz HB KB KV KZ
    intro HB KB KV KZ
    generalize w5.alloc _ = w6 at *
    generalize w5.heap.size = bC at *
    have neC_B:bC≠w.heap.size:=by omega
    have neC_V:bC≠(w.heap.size + 1):=by omega
    have neC_Z:bC≠(w.heap.size + 1 + 1):=by omega
    clear nzC_B nzC_V nzC_Z
    obtain ⟨yC0,yC1,yC2,yC3,yCz⟩:=blk4 KC
    go_wp2_with fail
    refine (VB.out _).mono ?_
    rintro e7 w7 ⟨rfl,hb7⟩
    refine up4 hb7 HB KB KV KZ KC ?_
    clear hb7 yC0 yC1 yC2 yC3 yCz HB KB KV KZ KC
    intro HB KB KV KZ KC
    obtain ⟨yZ0,yZ1,yZ2,yZ3,yZz,yZf0,yZf1,yZf2,yZf3⟩:=blf4 KZ
    go_wp2
    replace KZ:=kst (kst (kst (kst KZ 0 (.int .i64 0)) 1 (.int .i64 0)) 2 (.int .i64 0)) 3 (.int .i64 0)
    refine ot3 (st4 w7 (w.heap.size + 1 + 1) 0 (.int .i64 0) 1 (.int .i64 0) 2 (.int .i64 0) 3 (.int .i64 0)) HB KB KV KC (by omega) (by omega) (by omega) (by omega) ?_
    clear HB KB KV KC
    intro HB KB KV KC
    clear yZ0 yZ1 yZ2 yZ3 yZz yZf0 yZf1 yZf2 yZf3
    generalize (((w7.setCell _ _).setCell _ _).setCell _ _).setCell _ _ = w8 at *
    simp only [List.set] at KZ
    obtain ⟨yZ0,yZ1,yZ2,yZ3,yZz⟩:=blk4 KZ
    refine bodyPost_ret (v:=.tuple #[.agg #[.int .i64 0,.int .i64 0,.int .i64 0,.int .i64 0],.int .i64 2]) (by simp [results,Tryz.results35,go_sem,yZ0,yZ1,yZ2,yZ3]) rfl ⟨by rw [EV.out]; rfl,HB.out⟩
   | true =>
    rw [hb] at VB0
    have EV:=Lib.hid (EV0.trans (if_pos hb))
    have VB:=Lib.hid VB0
    clear EV0 VB0 hb
    obtain ⟨KB,KV,KZ,HB⟩:=ent3 w #[.int .i64 cx,.int .i64 cy,.int .i64 x,.int .i64 y] 25 #[.int .i64 ve,.int .i64 vn] 36 #[.int .i64 0,.int .i64 0,.int .i64 0,.int .i64 0] 25
    go_enter Tryz.func35,Tryz.ntmps35
    go_wp2_with fail
    generalize ((w.alloc _).alloc _).alloc _ = w0 at *
    refine (VA.out _).mono ?_
    rintro e1 w1 ⟨rfl,hb1⟩
    refine up3 hb1 HB KB KV KZ ?_
    clear hb1 HB KB KV KZ
    intro HB KB KV KZ
    obtain ⟨yV0,yV1,yVz⟩:=blk2 KV
    go_wp2_with fail
    refine (F0.out _).mono ?_
    rintro e2 w2 ⟨rfl,hb2⟩
    refine up3 hb2 HB KB KV KZ ?_
    clear hb2 yV0 yV1 yVz HB KB KV KZ
    intro HB KB KV KZ
    obtain ⟨yV0,yV1,yVz⟩:=blk2 KV
    go_wp2_with fail
    refine (F1.out _).mono ?_
    rintro e3 w3 ⟨rfl,hb3⟩
    refine up3 hb3 HB KB KV KZ ?_
    clear hb3 yV0 yV1 yVz HB KB KV KZ
    intro HB KB KV KZ
    go_wp2_with fail
    refine (F2.out _).mono ?_
    rintro e4 w4 ⟨rfl,hb4⟩
    refine up3 hb4 HB KB KV KZ ?_
    clear hb4 HB KB KV KZ
    intro HB KB KV KZ
    go_wp2_with fail
    refine (F3.out _).mono ?_
    rintro e5 w5 ⟨rfl,hb5⟩
    refine up3 hb5 HB KB KV KZ ?_
    clear hb5 HB KB KV KZ
    intro HB KB KV KZ
    obtain ⟨yB0,yB1,yB2,yB3,yBz⟩:=blk4 KB
    obtain ⟨yV0,yV1,yVz⟩:=blk2 KV
    go_upto_region 6 with (fail)
    obtain ⟨KC,hb6⟩:=alB w5 #[.int .i64 (cx'),.int .i64 (cy'),.int .i64 (x'),.int .i64 (y')] 25
    have hnC:=HB.out.size
    have nzC_B:=KB.out.lt
    have nzC_V:=KV.out.lt
    have nzC_Z:=KZ.out.lt
    refine up3 hb6 HB KB KV KZ ?_
    clear hb6 yB0 yB1 yB2 yB3 yBz yV0 yV1 yVz HB KB KV KZ
    intro HB KB KV KZ
    generalize w5.alloc _ = w6 at *
    generalize w5.heap.size = bC at *
    have neC_B:bC≠w.heap.size:=by omega
    have neC_V:bC≠(w.heap.size + 1):=by omega
    have neC_Z:bC≠(w.heap.size + 1 + 1):=by omega
    clear nzC_B nzC_V nzC_Z
    obtain ⟨yC0,yC1,yC2,yC3,yCz⟩:=blk4 KC
    go_wp2_with fail
    refine (VB.out _).mono ?_
    rintro e7 w7 ⟨rfl,hb7⟩
    refine up4 hb7 HB KB KV KZ KC ?_
    clear hb7 yC0 yC1 yC2 yC3 yCz HB KB KV KZ KC
    intro HB KB KV KZ KC
    obtain ⟨yZ0,yZ1,yZ2,yZ3,yZz,yZf0,yZf1,yZf2,yZf3⟩:=blf4 KZ
    obtain ⟨yC0,yC1,yC2,yC3,yCz⟩:=blk4 KC
    go_wp2
    replace KZ:=kst (kst (kst (kst KZ 0 (.int .i64 (cx'))) 1 (.int .i64 (cy'))) 2 (.int .i64 (x'))) 3 (.int .i64 (y'))
    refine ot3 (st4 w7 (w.heap.size + 1 + 1) 0 (.int .i64 (cx')) 1 (.int .i64 (cy')) 2 (.int .i64 (x')) 3 (.int .i64 (y'))) HB KB KV KC (by omega) (by omega) (by omega) (by omega) ?_
    clear HB KB KV KC
    intro HB KB KV KC
    clear yZ0 yZ1 yZ2 yZ3 yZz yZf0 yZf1 yZf2 yZf3 yC0 yC1 yC2 yC3 yCz
    generalize (((w7.setCell _ _).setCell _ _).setCell _ _).setCell _ _ = w8 at *
    simp only [List.set] at KZ
    obtain ⟨yZ0,yZ1,yZ2,yZ3,yZz⟩:=blk4 KZ
    refine bodyPost_ret (v:=.tuple #[.agg #[.int .i64 (cx'),.int .i64 (cy'),.int .i64 (x'),.int .i64 (y')],.int .i64 0]) (by simp [results,Tryz.results35,go_sem,yZ0,yZ1,yZ2,yZ3]) rfl ⟨by rw [EV.out],HB.out⟩
  ·have EV:=Lib.hid (EV0.trans (if_neg hr))
   have hr':rngC ve vn dr tk = false:=by simpa using hr
   rw [hr'] at RI
   clear EV0 VB0 hr hr' hv
   generalize cstF b ve vn dr tk = q at *
   obtain ⟨cx,cy,x,y⟩:=b
   simp only at VA
   generalize frm ve (-2000) 2000 = b0 at *
   generalize frm vn (-2000) 2000 = b1 at *
   generalize frm dr 0 1000 = b2 at *
   generalize frm tk 0 144000 = b3 at *
   cases b0 with
   | false =>
    clear RI F1 F2 F3
    obtain ⟨KB,KV,KZ,HB⟩:=ent3 w #[.int .i64 cx,.int .i64 cy,.int .i64 x,.int .i64 y] 25 #[.int .i64 ve,.int .i64 vn] 36 #[.int .i64 0,.int .i64 0,.int .i64 0,.int .i64 0] 25
    go_enter Tryz.func35,Tryz.ntmps35
    go_wp2_with fail
    generalize ((w.alloc _).alloc _).alloc _ = w0 at *
    refine (VA.out _).mono ?_
    rintro e1 w1 ⟨rfl,hb1⟩
    refine up3 hb1 HB KB KV KZ ?_
    clear hb1 HB KB KV KZ
    intro HB KB KV KZ
    obtain ⟨yV0,yV1,yVz⟩:=blk2 KV
    go_wp2_with fail
    refine (F0.out _).mono ?_
    rintro e2 w2 ⟨rfl,hb2⟩
    refine up3 hb2 HB KB KV KZ ?_
    clear hb2 yV0 yV1 yVz HB KB KV KZ
    intro HB KB KV KZ
    obtain ⟨yZ0,yZ1,yZ2,yZ3,yZz,yZf0,yZf1,yZf2,yZf3⟩:=blf4 KZ
    go_wp2
    replace KZ:=kst (kst (kst (kst KZ 0 (.int .i64 0)) 1 (.int .i64 0)) 2 (.int .i64 0)) 3 (.int .i64 0)
    refine ot2 (st4 w2 (w.heap.size + 1 + 1) 0 (.int .i64 0) 1 (.int .i64 0) 2 (.int .i64 0) 3 (.int .i64 0)) HB KB KV (by omega) (by omega) (by omega) ?_
    clear HB KB KV
    intro HB KB KV
    clear yZ0 yZ1 yZ2 yZ3 yZz yZf0 yZf1 yZf2 yZf3
    generalize (((w2.setCell _ _).setCell _ _).setCell _ _).setCell _ _ = w3 at *
    simp only [List.set] at KZ
    obtain ⟨yZ0,yZ1,yZ2,yZ3,yZz⟩:=blk4 KZ
    refine bodyPost_ret (v:=.tuple #[.agg #[.int .i64 0,.int .i64 0,.int .i64 0,.int .i64 0],.int .i64 2]) (by simp [results,Tryz.results35,go_sem,yZ0,yZ1,yZ2,yZ3]) rfl ⟨by rw [EV.out]; rfl,HB.out⟩
   | true =>
    cases b1 with
    | false =>
     clear RI F2 F3
     obtain ⟨KB,KV,KZ,HB⟩:=ent3 w #[.int .i64 cx,.int .i64 cy,.int .i64 x,.int .i64 y] 25 #[.int .i64 ve,.int .i64 vn] 36 #[.int .i64 0,.int .i64 0,.int .i64 0,.int .i64 0] 25
     go_enter Tryz.func35,Tryz.ntmps35
     go_wp2_with fail
     generalize ((w.alloc _).alloc _).alloc _ = w0 at *
     refine (VA.out _).mono ?_
     rintro e1 w1 ⟨rfl,hb1⟩
     refine up3 hb1 HB KB KV KZ ?_
     clear hb1 HB KB KV KZ
     intro HB KB KV KZ
     obtain ⟨yV0,yV1,yVz⟩:=blk2 KV
     go_wp2_with fail
     refine (F0.out _).mono ?_
     rintro e2 w2 ⟨rfl,hb2⟩
     refine up3 hb2 HB KB KV KZ ?_
     clear hb2 yV0 yV1 yVz HB KB KV KZ
     intro HB KB KV KZ
     obtain ⟨yV0,yV1,yVz⟩:=blk2 KV
     go_wp2_with fail
     refine (F1.out _).mono ?_
     rintro e3 w3 ⟨rfl,hb3⟩
     refine up3 hb3 HB KB KV KZ ?_
     clear hb3 yV0 yV1 yVz HB KB KV KZ
     intro HB KB KV KZ
     obtain ⟨yZ0,yZ1,yZ2,yZ3,yZz,yZf0,yZf1,yZf2,yZf3⟩:=blf4 KZ
     go_wp2
     replace KZ:=kst (kst (kst (kst KZ 0 (.int .i64 0)) 1 (.int .i64 0)) 2 (.int .i64 0)) 3 (.int .i64 0)
     refine ot2 (st4 w3 (w.heap.size + 1 + 1) 0 (.int .i64 0) 1 (.int .i64 0) 2 (.int .i64 0) 3 (.int .i64 0)) HB KB KV (by omega) (by omega) (by omega) ?_
     clear HB KB KV
     intro HB KB KV
     clear yZ0 yZ1 yZ2 yZ3 yZz yZf0 yZf1 yZf2 yZf3
     generalize (((w3.setCell _ _).setCell _ _).setCell _ _).setCell _ _ = w4 at *
     simp only [List.set] at KZ
     obtain ⟨yZ0,yZ1,yZ2,yZ3,yZz⟩:=blk4 KZ
     refine bodyPost_ret (v:=.tuple #[.agg #[.int .i64 0,.int .i64 0,.int .i64 0,.int .i64 0],.int .i64 2]) (by simp [results,Tryz.results35,go_sem,yZ0,yZ1,yZ2,yZ3]) rfl ⟨by rw [EV.out]; rfl,HB.out⟩
    | true =>
     cases b2 with
     | false =>
      clear RI F3
      obtain ⟨KB,KV,KZ,HB⟩:=ent3 w #[.int .i64 cx,.int .i64 cy,.int .i64 x,.int .i64 y] 25 #[.int .i64 ve,.int .i64 vn] 36 #[.int .i64 0,.int .i64 0,.int .i64 0,.int .i64 0] 25
      go_enter Tryz.func35,Tryz.ntmps35
      go_wp2_with fail
      generalize ((w.alloc _).alloc _).alloc _ = w0 at *
      refine (VA.out _).mono ?_
      rintro e1 w1 ⟨rfl,hb1⟩
      refine up3 hb1 HB KB KV KZ ?_
      clear hb1 HB KB KV KZ
      intro HB KB KV KZ
      obtain ⟨yV0,yV1,yVz⟩:=blk2 KV
      go_wp2_with fail
      refine (F0.out _).mono ?_
      rintro e2 w2 ⟨rfl,hb2⟩
      refine up3 hb2 HB KB KV KZ ?_
      clear hb2 yV0 yV1 yVz HB KB KV KZ
      intro HB KB KV KZ
      obtain ⟨yV0,yV1,yVz⟩:=blk2 KV
      go_wp2_with fail
      refine (F1.out _).mono ?_
      rintro e3 w3 ⟨rfl,hb3⟩
      refine up3 hb3 HB KB KV KZ ?_
      clear hb3 yV0 yV1 yVz HB KB KV KZ
      intro HB KB KV KZ
      go_wp2_with fail
      refine (F2.out _).mono ?_
      rintro e4 w4 ⟨rfl,hb4⟩
      refine up3 hb4 HB KB KV KZ ?_
      clear hb4 HB KB KV KZ
      intro HB KB KV KZ
      obtain ⟨yZ0,yZ1,yZ2,yZ3,yZz,yZf0,yZf1,yZf2,yZf3⟩:=blf4 KZ
      go_wp2
      replace KZ:=kst (kst (kst (kst KZ 0 (.int .i64 0)) 1 (.int .i64 0)) 2 (.int .i64 0)) 3 (.int .i64 0)
      refine ot2 (st4 w4 (w.heap.size + 1 + 1) 0 (.int .i64 0) 1 (.int .i64 0) 2 (.int .i64 0) 3 (.int .i64 0)) HB KB KV (by omega) (by omega) (by omega) ?_
      clear HB KB KV
      intro HB KB KV
      clear yZ0 yZ1 yZ2 yZ3 yZz yZf0 yZf1 yZf2 yZf3
      generalize (((w4.setCell _ _).setCell _ _).setCell _ _).setCell _ _ = w5 at *
      simp only [List.set] at KZ
      obtain ⟨yZ0,yZ1,yZ2,yZ3,yZz⟩:=blk4 KZ
      refine bodyPost_ret (v:=.tuple #[.agg #[.int .i64 0,.int .i64 0,.int .i64 0,.int .i64 0],.int .i64 2]) (by simp [results,Tryz.results35,go_sem,yZ0,yZ1,yZ2,yZ3]) rfl ⟨by rw [EV.out]; rfl,HB.out⟩
     | true =>
      cases b3 with
      | false =>
       clear RI
       obtain ⟨KB,KV,KZ,HB⟩:=ent3 w #[.int .i64 cx,.int .i64 cy,.int .i64 x,.int .i64 y] 25 #[.int .i64 ve,.int .i64 vn] 36 #[.int .i64 0,.int .i64 0,.int .i64 0,.int .i64 0] 25
       go_enter Tryz.func35,Tryz.ntmps35
       go_wp2_with fail
       generalize ((w.alloc _).alloc _).alloc _ = w0 at *
       refine (VA.out _).mono ?_
       rintro e1 w1 ⟨rfl,hb1⟩
       refine up3 hb1 HB KB KV KZ ?_
       clear hb1 HB KB KV KZ
       intro HB KB KV KZ
       obtain ⟨yV0,yV1,yVz⟩:=blk2 KV
       go_wp2_with fail
       refine (F0.out _).mono ?_
       rintro e2 w2 ⟨rfl,hb2⟩
       refine up3 hb2 HB KB KV KZ ?_
       clear hb2 yV0 yV1 yVz HB KB KV KZ
       intro HB KB KV KZ
       obtain ⟨yV0,yV1,yVz⟩:=blk2 KV
       go_wp2_with fail
       refine (F1.out _).mono ?_
       rintro e3 w3 ⟨rfl,hb3⟩
       refine up3 hb3 HB KB KV KZ ?_
       clear hb3 yV0 yV1 yVz HB KB KV KZ
       intro HB KB KV KZ
       go_wp2_with fail
       refine (F2.out _).mono ?_
       rintro e4 w4 ⟨rfl,hb4⟩
       refine up3 hb4 HB KB KV KZ ?_
       clear hb4 HB KB KV KZ
       intro HB KB KV KZ
       go_wp2_with fail
       refine (F3.out _).mono ?_
       rintro e5 w5 ⟨rfl,hb5⟩
       refine up3 hb5 HB KB KV KZ ?_
       clear hb5 HB KB KV KZ
       intro HB KB KV KZ
       obtain ⟨yZ0,yZ1,yZ2,yZ3,yZz,yZf0,yZf1,yZf2,yZf3⟩:=blf4 KZ
       go_wp2
       replace KZ:=kst (kst (kst (kst KZ 0 (.int .i64 0)) 1 (.int .i64 0)) 2 (.int .i64 0)) 3 (.int .i64 0)
       refine ot2 (st4 w5 (w.heap.size + 1 + 1) 0 (.int .i64 0) 1 (.int .i64 0) 2 (.int .i64 0) 3 (.int .i64 0)) HB KB KV (by omega) (by omega) (by omega) ?_
       clear HB KB KV
       intro HB KB KV
       clear yZ0 yZ1 yZ2 yZ3 yZz yZf0 yZf1 yZf2 yZf3
       generalize (((w5.setCell _ _).setCell _ _).setCell _ _).setCell _ _ = w6 at *
       simp only [List.set] at KZ
       obtain ⟨yZ0,yZ1,yZ2,yZ3,yZz⟩:=blk4 KZ
       refine bodyPost_ret (v:=.tuple #[.agg #[.int .i64 0,.int .i64 0,.int .i64 0,.int .i64 0],.int .i64 2]) (by simp [results,Tryz.results35,go_sem,yZ0,yZ1,yZ2,yZ3]) rfl ⟨by rw [EV.out]; rfl,HB.out⟩
      | true=>exact absurd RI (by decide)
end Go.Proofs.YtajmjkliblippaaGreatDoor
