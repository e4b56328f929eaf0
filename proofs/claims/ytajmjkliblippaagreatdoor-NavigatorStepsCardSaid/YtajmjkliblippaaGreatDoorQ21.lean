/-
  Walks and laws of the layers below, gathered from several texts.
-/
import Derived.Test.YtajmjkliblippaaGreatDoorQ19
import Derived.Test.YtajmjkliblippaaGreatDoorQ20
set_option linter.unusedVariables false
namespace Go.Proofs.YtajmjkliblippaaGreatDoor
open Go.RowKit
set_option maxHeartbeats 8000000
set_option maxRecDepth 100000
theorem ovl_any (a x b y:Int) (w:World) (ha:-2000000≤a∧a≤2000000) (hx:0≤x∧x≤2000000) (hb:-2000000≤b∧b≤2000000) (hy:0≤y∧y≤2000000) :
 Calls Tryz.prog 99 #[.int .i64 a,.int .i64 x,.int .i64 b,.int .i64 y] w fun e w'=>e = .returned (.tuple #[.int .i64 (ovM a x b y),.int .i64 (ovH a x b y - ovM a x b y),.bool (decide (ovL a x b y≤ovH a x b y))])∧Below w.heap.size w w':=by
 obtain ⟨a0,a1⟩:=ha
 obtain ⟨x0,x1⟩:=hx
 obtain ⟨b0,b1⟩:=hb
 obtain ⟨y0,y1⟩:=hy
 have EL:=Lib.hid (show ovL a x b y = max (a - x) (b - y) from rfl)
 have EH:=Lib.hid (show ovH a x b y = min (a + x) (b + y) from rfl)
 have EM:=Lib.hid (show ovM a x b y = (max (a - x) (b - y) + min (a + x) (b + y)) / 2 from rfl)
 go_enter Tryz.func99,Tryz.ntmps99
 go_wp2
 go_ret3
 rw [EL.out,EH.out,EM.out]
 exact ⟨rfl,Below.refl _ _⟩
set_option maxHeartbeats 40000000
theorem merge_any (a b:Bx4) (w:World):Calls Tryz.prog 63 #[.agg #[.int .i64 a.cx,.int .i64 a.cy,.int .i64 a.x,.int .i64 a.y],.agg #[.int .i64 b.cx,.int .i64 b.cy,.int .i64 b.x,.int .i64 b.y]] w fun e w'=>e = .returned (.tuple #[.agg #[.int .i64 (mrgF a b).1.cx,.int .i64 (mrgF a b).1.cy,.int .i64 (mrgF a b).1.x,.int .i64 (mrgF a b).1.y],.int .i64 (mrgF a b).2])∧Below w.heap.size w w':=by
 have VA0:=fun w=>ival_any a w
 have VB0:=fun w=>ival_any b w
 have EV0:mrgF a b = if bxV a = true then (if bxV b = true then (if ovL a.cx a.x b.cx b.x≤ovH a.cx a.x b.cx b.x∧ovL a.cy a.y b.cy b.y≤ovH a.cy a.y b.cy b.y then (mrgB a b,0) else (bx0,11)) else (bx0,1)) else (bx0,1):=rfl
 cases hv:bxV a with
 | false =>
  rw [hv] at VA0
  have VA:=Lib.hid VA0
  have EV:=Lib.hid (EV0.trans (if_neg (by rw [hv]; decide)))
  clear EV0 VA0 hv VB0
  generalize mrgF a b = q at *
  obtain ⟨ax,ay,a1,a2⟩:=a
  obtain ⟨bx,by',b1,b2⟩:=b
  simp only at VA
  obtain ⟨KA,KB,KZ,HB⟩:=ent3 w #[.int .i64 ax,.int .i64 ay,.int .i64 a1,.int .i64 a2] 25 #[.int .i64 bx,.int .i64 (by'),.int .i64 b1,.int .i64 b2] 25 #[.int .i64 0,.int .i64 0,.int .i64 0,.int .i64 0] 25
  go_enter Tryz.func63,Tryz.ntmps63
  go_wp2_with fail
  generalize ((w.alloc _).alloc _).alloc _ = w0 at *
  refine (VA.out _).mono ?_
  rintro e1 w1 ⟨rfl,hb1⟩
  refine up3 hb1 HB KA KB KZ ?_
  clear hb1 HB KA KB KZ
  intro HB KA KB KZ
  obtain ⟨yZ0,yZ1,yZ2,yZ3,yZz,yZf0,yZf1,yZf2,yZf3⟩:=blf4 KZ
  go_wp2
  replace KZ:=kst (kst (kst (kst KZ 0 (.int .i64 0)) 1 (.int .i64 0)) 2 (.int .i64 0)) 3 (.int .i64 0)
  refine ot2 (st4 w1 (w.heap.size + 1 + 1) 0 (.int .i64 0) 1 (.int .i64 0) 2 (.int .i64 0) 3 (.int .i64 0)) HB KA KB (by omega) (by omega) (by omega) ?_
  clear HB KA KB
  intro HB KA KB
  clear yZ0 yZ1 yZ2 yZ3 yZz yZf0 yZf1 yZf2 yZf3
  generalize (((w1.setCell _ _).setCell _ _).setCell _ _).setCell _ _ = w2 at *
  simp only [List.set] at KZ
  obtain ⟨yZ0,yZ1,yZ2,yZ3,yZz⟩:=blk4 KZ
  refine bodyPost_ret (v:=.tuple #[.agg #[.int .i64 0,.int .i64 0,.int .i64 0,.int .i64 0],.int .i64 1]) (by simp [results,Tryz.results63,go_sem,yZ0,yZ1,yZ2,yZ3]) rfl ⟨by rw [EV.out]; rfl,HB.out⟩
 | true =>
  rw [hv,if_pos rfl] at EV0
  rw [hv] at VA0
  have VA:=Lib.hid VA0
  clear VA0
  cases hb:bxV b with
  | false =>
   rw [hb] at VB0
   have VB:=Lib.hid VB0
   have EV:=Lib.hid (EV0.trans (if_neg (by rw [hb]; decide)))
   clear EV0 VB0 hv hb
   generalize mrgF a b = q at *
   obtain ⟨ax,ay,a1,a2⟩:=a
   obtain ⟨bx,by',b1,b2⟩:=b
   simp only at VA VB
   obtain ⟨KA,KB,KZ,HB⟩:=ent3 w #[.int .i64 ax,.int .i64 ay,.int .i64 a1,.int .i64 a2] 25 #[.int .i64 bx,.int .i64 (by'),.int .i64 b1,.int .i64 b2] 25 #[.int .i64 0,.int .i64 0,.int .i64 0,.int .i64 0] 25
   go_enter Tryz.func63,Tryz.ntmps63
   go_wp2_with fail
   generalize ((w.alloc _).alloc _).alloc _ = w0 at *
   refine (VA.out _).mono ?_
   rintro e1 w1 ⟨rfl,hb1⟩
   refine up3 hb1 HB KA KB KZ ?_
   clear hb1 HB KA KB KZ
   intro HB KA KB KZ
   obtain ⟨yB0,yB1,yB2,yB3,yBz⟩:=blk4 KB
   go_wp2_with fail
   refine (VB.out _).mono ?_
   rintro e2 w2 ⟨rfl,hb2⟩
   refine up3 hb2 HB KA KB KZ ?_
   clear hb2 yB0 yB1 yB2 yB3 yBz HB KA KB KZ
   intro HB KA KB KZ
   obtain ⟨yZ0,yZ1,yZ2,yZ3,yZz,yZf0,yZf1,yZf2,yZf3⟩:=blf4 KZ
   go_wp2
   replace KZ:=kst (kst (kst (kst KZ 0 (.int .i64 0)) 1 (.int .i64 0)) 2 (.int .i64 0)) 3 (.int .i64 0)
   refine ot2 (st4 w2 (w.heap.size + 1 + 1) 0 (.int .i64 0) 1 (.int .i64 0) 2 (.int .i64 0) 3 (.int .i64 0)) HB KA KB (by omega) (by omega) (by omega) ?_
   clear HB KA KB
   intro HB KA KB
   clear yZ0 yZ1 yZ2 yZ3 yZz yZf0 yZf1 yZf2 yZf3
   generalize (((w2.setCell _ _).setCell _ _).setCell _ _).setCell _ _ = w3 at *
   simp only [List.set] at KZ
   obtain ⟨yZ0,yZ1,yZ2,yZ3,yZz⟩:=blk4 KZ
   refine bodyPost_ret (v:=.tuple #[.agg #[.int .i64 0,.int .i64 0,.int .i64 0,.int .i64 0],.int .i64 1]) (by simp [results,Tryz.results63,go_sem,yZ0,yZ1,yZ2,yZ3]) rfl ⟨by rw [EV.out]; rfl,HB.out⟩
  | true =>
   rw [hb,if_pos rfl] at EV0
   rw [hb] at VB0
   have VB:=Lib.hid VB0
   clear VB0
   have v1:=bxV_iff.1 hv
   have v2:=bxV_iff.1 hb
   have OX0:=fun w=>ovl_any a.cx a.x b.cx b.x w (by omega) (by omega) (by omega) (by omega)
   have OY0:=fun w=>ovl_any a.cy a.y b.cy b.y w (by omega) (by omega) (by omega) (by omega)
   clear hv hb v1 v2
   unfold mrgB at EV0
   obtain ⟨ox,hox⟩:∃ z,decide (ovL a.cx a.x b.cx b.x≤ovH a.cx a.x b.cx b.x) = z:=⟨_,rfl⟩
   obtain ⟨oy,hoy⟩:∃ z,decide (ovL a.cy a.y b.cy b.y≤ovH a.cy a.y b.cy b.y) = z:=⟨_,rfl⟩
   rw [hox] at OX0
   rw [hoy] at OY0
   have EX:ox = true→oy = true→mrgF a b = (⟨ovM a.cx a.x b.cx b.x,ovM a.cy a.y b.cy b.y,ovH a.cx a.x b.cx b.x - ovM a.cx a.x b.cx b.x,ovH a.cy a.y b.cy b.y - ovM a.cy a.y b.cy b.y⟩,0):=fun h1 h2=>EV0.trans (if_pos ⟨of_decide_eq_true (hox.trans h1),of_decide_eq_true (hoy.trans h2)⟩)
   have EN:ox = false∨oy = false→mrgF a b = (bx0,11):=fun h=>EV0.trans (if_neg fun ⟨h1,h2⟩=>by
    rw [decide_eq_true h1] at hox
    rw [decide_eq_true h2] at hoy
    subst hox hoy
    simp at h)
   clear hox hoy EV0
   generalize ovH a.cx a.x b.cx b.x - ovM a.cx a.x b.cx b.x = wx at *
   generalize ovH a.cy a.y b.cy b.y - ovM a.cy a.y b.cy b.y = wy at *
   generalize ovM a.cx a.x b.cx b.x = mx at *
   generalize ovM a.cy a.y b.cy b.y = my at *
   generalize mrgF a b = q at *
   obtain ⟨ax,ay,a1,a2⟩:=a
   obtain ⟨bx,by',b1,b2⟩:=b
   simp only at VA VB OX0 OY0
   have OX:=Lib.hid OX0
   have OY:=Lib.hid OY0
   clear OX0 OY0
   cases ox with
   | false =>
    have EV:=Lib.hid (EN (.inl rfl))
    clear EN EX
    cases oy with
    | false =>
     obtain ⟨KA,KB,KZ,HB⟩:=ent3 w #[.int .i64 ax,.int .i64 ay,.int .i64 a1,.int .i64 a2] 25 #[.int .i64 bx,.int .i64 (by'),.int .i64 b1,.int .i64 b2] 25 #[.int .i64 0,.int .i64 0,.int .i64 0,.int .i64 0] 25
     go_enter Tryz.func63,Tryz.ntmps63
     go_wp2_with fail
     generalize ((w.alloc _).alloc _).alloc _ = w0 at *
     refine (VA.out _).mono ?_
     rintro e1 w1 ⟨rfl,hb1⟩
     refine up3 hb1 HB KA KB KZ ?_
     clear hb1 HB KA KB KZ
     intro HB KA KB KZ
     obtain ⟨yB0,yB1,yB2,yB3,yBz⟩:=blk4 KB
     go_wp2_with fail
     refine (VB.out _).mono ?_
     rintro e2 w2 ⟨rfl,hb2⟩
     refine up3 hb2 HB KA KB KZ ?_
     clear hb2 yB0 yB1 yB2 yB3 yBz HB KA KB KZ
     intro HB KA KB KZ
     go_upto_region 5 with (fail)
     obtain ⟨KC,hb3⟩:=alB w2 #[.int .i64 0,.int .i64 0,.int .i64 0,.int .i64 0] 25
     have hnC:=HB.out.size
     have nzC_A:=KA.out.lt
     have nzC_B:=KB.out.lt
     have nzC_Z:=KZ.out.lt
     refine up3 hb3 HB KA KB KZ ?_
     clear hb3 HB KA KB KZ
     intro HB KA KB KZ
     generalize w2.alloc _ = w3 at *
     generalize w2.heap.size = bC at *
     have neC_A:bC≠w.heap.size:=by omega
     have neC_B:bC≠(w.heap.size + 1):=by omega
     have neC_Z:bC≠(w.heap.size + 1 + 1):=by omega
     clear nzC_A nzC_B nzC_Z
     obtain ⟨yA0,yA1,yA2,yA3,yAz⟩:=blk4 KA
     obtain ⟨yB0,yB1,yB2,yB3,yBz⟩:=blk4 KB
     go_wp2_with fail
     refine (OX.out _).mono ?_
     rintro e4 w4 ⟨rfl,hb4⟩
     refine up4 hb4 HB KA KB KZ KC ?_
     clear hb4 yA0 yA1 yA2 yA3 yAz yB0 yB1 yB2 yB3 yBz HB KA KB KZ KC
     intro HB KA KB KZ KC
     obtain ⟨yC0,yC1,yC2,yC3,yCz,yCf0,yCf1,yCf2,yCf3⟩:=blf4 KC
     go_upto_region 6 with (fail)
     replace KC:=kst (kst KC 0 (.int .i64 mx)) 2 (.int .i64 wx)
     refine ot3 (st2 w4 bC 0 (.int .i64 mx) 2 (.int .i64 wx)) HB KA KB KZ (by omega) (by omega) (by omega) (by omega) ?_
     clear HB KA KB KZ
     intro HB KA KB KZ
     clear yC0 yC1 yC2 yC3 yCz yCf0 yCf1 yCf2 yCf3
     generalize (w4.setCell _ _).setCell _ _ = w5 at *
     simp only [List.set] at KC
     obtain ⟨yA0,yA1,yA2,yA3,yAz⟩:=blk4 KA
     obtain ⟨yB0,yB1,yB2,yB3,yBz⟩:=blk4 KB
     go_wp2_with fail
     refine (OY.out _).mono ?_
     rintro e6 w6 ⟨rfl,hb6⟩
     refine up4 hb6 HB KA KB KZ KC ?_
     clear hb6 yA0 yA1 yA2 yA3 yAz yB0 yB1 yB2 yB3 yBz HB KA KB KZ KC
     intro HB KA KB KZ KC
     obtain ⟨yC0,yC1,yC2,yC3,yCz,yCf0,yCf1,yCf2,yCf3⟩:=blf4 KC
     go_upto_region 7 with (fail)
     replace KC:=kst (kst KC 1 (.int .i64 my)) 3 (.int .i64 wy)
     refine ot3 (st2 w6 bC 1 (.int .i64 my) 3 (.int .i64 wy)) HB KA KB KZ (by omega) (by omega) (by omega) (by omega) ?_
     clear HB KA KB KZ
     intro HB KA KB KZ
     clear yC0 yC1 yC2 yC3 yCz yCf0 yCf1 yCf2 yCf3
     generalize (w6.setCell _ _).setCell _ _ = w7 at *
     simp only [List.set] at KC
     obtain ⟨yZ0,yZ1,yZ2,yZ3,yZz,yZf0,yZf1,yZf2,yZf3⟩:=blf4 KZ
     go_wp2
     replace KZ:=kst (kst (kst (kst KZ 0 (.int .i64 0)) 1 (.int .i64 0)) 2 (.int .i64 0)) 3 (.int .i64 0)
     refine ot3 (st4 w7 (w.heap.size + 1 + 1) 0 (.int .i64 0) 1 (.int .i64 0) 2 (.int .i64 0) 3 (.int .i64 0)) HB KA KB KC (by omega) (by omega) (by omega) (by omega) ?_
     clear HB KA KB KC
     intro HB KA KB KC
     clear yZ0 yZ1 yZ2 yZ3 yZz yZf0 yZf1 yZf2 yZf3
     generalize (((w7.setCell _ _).setCell _ _).setCell _ _).setCell _ _ = w8 at *
     simp only [List.set] at KZ
     obtain ⟨yZ0,yZ1,yZ2,yZ3,yZz⟩:=blk4 KZ
     refine bodyPost_ret (v:=.tuple #[.agg #[.int .i64 0,.int .i64 0,.int .i64 0,.int .i64 0],.int .i64 11]) (by simp [results,Tryz.results63,go_sem,yZ0,yZ1,yZ2,yZ3]) rfl ⟨by rw [EV.out]; rfl,HB.out⟩
    | true =>
     obtain ⟨KA,KB,KZ,HB⟩:=ent3 w #[.int .i64 ax,.int .i64 ay,.int .i64 a1,.int .i64 a2] 25 #[.int .i64 bx,.int .i64 (by'),.int .i64 b1,.int .i64 b2] 25 #[.int .i64 0,.int .i64 0,.int .i64 0,.int .i64 0] 25
     go_enter Tryz.func63,Tryz.ntmps63
     go_wp2_with fail
     generalize ((w.alloc _).alloc _).alloc _ = w0 at *
     refine (VA.out _).mono ?_
     rintro e1 w1 ⟨rfl,hb1⟩
     refine up3 hb1 HB KA KB KZ ?_
     clear hb1 HB KA KB KZ
     intro HB KA KB KZ
     obtain ⟨yB0,yB1,yB2,yB3,yBz⟩:=blk4 KB
     go_wp2_with fail
     refine (VB.out _).mono ?_
     rintro e2 w2 ⟨rfl,hb2⟩
     refine up3 hb2 HB KA KB KZ ?_
     clear hb2 yB0 yB1 yB2 yB3 yBz HB KA KB KZ
     intro HB KA KB KZ
     go_upto_region 5 with (fail)
     obtain ⟨KC,hb3⟩:=alB w2 #[.int .i64 0,.int .i64 0,.int .i64 0,.int .i64 0] 25
     have hnC:=HB.out.size
     have nzC_A:=KA.out.lt
     have nzC_B:=KB.out.lt
     have nzC_Z:=KZ.out.lt
     refine up3 hb3 HB KA KB KZ ?_
     clear hb3 HB KA KB KZ
     intro HB KA KB KZ
     generalize w2.alloc _ = w3 at *
     generalize w2.heap.size = bC at *
     have neC_A:bC≠w.heap.size:=by omega
     have neC_B:bC≠(w.heap.size + 1):=by omega
     have neC_Z:bC≠(w.heap.size + 1 + 1):=by omega
     clear nzC_A nzC_B nzC_Z
     obtain ⟨yA0,yA1,yA2,yA3,yAz⟩:=blk4 KA
     obtain ⟨yB0,yB1,yB2,yB3,yBz⟩:=blk4 KB
     go_wp2_with fail
     refine (OX.out _).mono ?_
     rintro e4 w4 ⟨rfl,hb4⟩
     refine up4 hb4 HB KA KB KZ KC ?_
     clear hb4 yA0 yA1 yA2 yA3 yAz yB0 yB1 yB2 yB3 yBz HB KA KB KZ KC
     intro HB KA KB KZ KC
     obtain ⟨yC0,yC1,yC2,yC3,yCz,yCf0,yCf1,yCf2,yCf3⟩:=blf4 KC
     go_upto_region 6 with (fail)
     replace KC:=kst (kst KC 0 (.int .i64 mx)) 2 (.int .i64 wx)
     refine ot3 (st2 w4 bC 0 (.int .i64 mx) 2 (.int .i64 wx)) HB KA KB KZ (by omega) (by omega) (by omega) (by omega) ?_
     clear HB KA KB KZ
     intro HB KA KB KZ
     clear yC0 yC1 yC2 yC3 yCz yCf0 yCf1 yCf2 yCf3
     generalize (w4.setCell _ _).setCell _ _ = w5 at *
     simp only [List.set] at KC
     obtain ⟨yA0,yA1,yA2,yA3,yAz⟩:=blk4 KA
     obtain ⟨yB0,yB1,yB2,yB3,yBz⟩:=blk4 KB
     go_wp2_with fail
     refine (OY.out _).mono ?_
     rintro e6 w6 ⟨rfl,hb6⟩
     refine up4 hb6 HB KA KB KZ KC ?_
     clear hb6 yA0 yA1 yA2 yA3 yAz yB0 yB1 yB2 yB3 yBz HB KA KB KZ KC
     intro HB KA KB KZ KC
     obtain ⟨yC0,yC1,yC2,yC3,yCz,yCf0,yCf1,yCf2,yCf3⟩:=blf4 KC
     go_upto_region 7 with (fail)
     replace KC:=kst (kst KC 1 (.int .i64 my)) 3 (.int .i64 wy)
     refine ot3 (st2 w6 bC 1 (.int .i64 my) 3 (.int .i64 wy)) HB KA KB KZ (by omega) (by omega) (by omega) (by omega) ?_
     clear HB KA KB KZ
     intro HB KA KB KZ
     clear yC0 yC1 yC2 yC3 yCz yCf0 yCf1 yCf2 yCf3
     generalize (w6.setCell _ _).setCell _ _ = w7 at *
     simp only [List.set] at KC
     obtain ⟨yZ0,yZ1,yZ2,yZ3,yZz,yZf0,yZf1,yZf2,yZf3⟩:=blf4 KZ
     go_wp2
     replace KZ:=kst (kst (kst (kst KZ 0 (.int .i64 0)) 1 (.int .i64 0)) 2 (.int .i64 0)) 3 (.int .i64 0)
     refine ot3 (st4 w7 (w.heap.size + 1 + 1) 0 (.int .i64 0) 1 (.int .i64 0) 2 (.int .i64 0) 3 (.int .i64 0)) HB KA KB KC (by omega) (by omega) (by omega) (by omega) ?_
     clear HB KA KB KC
     intro HB KA KB KC
     clear yZ0 yZ1 yZ2 yZ3 yZz yZf0 yZf1 yZf2 yZf3
     generalize (((w7.setCell _ _).setCell _ _).setCell _ _).setCell _ _ = w8 at *
     simp only [List.set] at KZ
     obtain ⟨yZ0,yZ1,yZ2,yZ3,yZz⟩:=blk4 KZ
     refine bodyPost_ret (v:=.tuple #[.agg #[.int .i64 0,.int .i64 0,.int .i64 0,.int .i64 0],.int .i64 11]) (by simp [results,Tryz.results63,go_sem,yZ0,yZ1,yZ2,yZ3]) rfl ⟨by rw [EV.out]; rfl,HB.out⟩
   | true =>
    cases oy with
    | false =>
     have EV:=Lib.hid (EN (.inr rfl))
     clear EN EX
     obtain ⟨KA,KB,KZ,HB⟩:=ent3 w #[.int .i64 ax,.int .i64 ay,.int .i64 a1,.int .i64 a2] 25 #[.int .i64 bx,.int .i64 (by'),.int .i64 b1,.int .i64 b2] 25 #[.int .i64 0,.int .i64 0,.int .i64 0,.int .i64 0] 25
     go_enter Tryz.func63,Tryz.ntmps63
     go_wp2_with fail
     generalize ((w.alloc _).alloc _).alloc _ = w0 at *
     refine (VA.out _).mono ?_
     rintro e1 w1 ⟨rfl,hb1⟩
     refine up3 hb1 HB KA KB KZ ?_
     clear hb1 HB KA KB KZ
     intro HB KA KB KZ
     obtain ⟨yB0,yB1,yB2,yB3,yBz⟩:=blk4 KB
     go_wp2_with fail
     refine (VB.out _).mono ?_
     rintro e2 w2 ⟨rfl,hb2⟩
     refine up3 hb2 HB KA KB KZ ?_
     clear hb2 yB0 yB1 yB2 yB3 yBz HB KA KB KZ
     intro HB KA KB KZ
     go_upto_region 5 with (fail)
     obtain ⟨KC,hb3⟩:=alB w2 #[.int .i64 0,.int .i64 0,.int .i64 0,.int .i64 0] 25
     have hnC:=HB.out.size
     have nzC_A:=KA.out.lt
     have nzC_B:=KB.out.lt
     have nzC_Z:=KZ.out.lt
     refine up3 hb3 HB KA KB KZ ?_
     clear hb3 HB KA KB KZ
     intro HB KA KB KZ
     generalize w2.alloc _ = w3 at *
     generalize w2.heap.size = bC at *
     have neC_A:bC≠w.heap.size:=by omega
     have neC_B:bC≠(w.heap.size + 1):=by omega
     have neC_Z:bC≠(w.heap.size + 1 + 1):=by omega
     clear nzC_A nzC_B nzC_Z
     obtain ⟨yA0,yA1,yA2,yA3,yAz⟩:=blk4 KA
     obtain ⟨yB0,yB1,yB2,yB3,yBz⟩:=blk4 KB
     go_wp2_with fail
     refine (OX.out _).mono ?_
     rintro e4 w4 ⟨rfl,hb4⟩
     refine up4 hb4 HB KA KB KZ KC ?_
     clear hb4 yA0 yA1 yA2 yA3 yAz yB0 yB1 yB2 yB3 yBz HB KA KB KZ KC
     intro HB KA KB KZ KC
     obtain ⟨yC0,yC1,yC2,yC3,yCz,yCf0,yCf1,yCf2,yCf3⟩:=blf4 KC
     go_upto_region 6 with (fail)
     replace KC:=kst (kst KC 0 (.int .i64 mx)) 2 (.int .i64 wx)
     refine ot3 (st2 w4 bC 0 (.int .i64 mx) 2 (.int .i64 wx)) HB KA KB KZ (by omega) (by omega) (by omega) (by omega) ?_
     clear HB KA KB KZ
     intro HB KA KB KZ
     clear yC0 yC1 yC2 yC3 yCz yCf0 yCf1 yCf2 yCf3
     generalize (w4.setCell _ _).setCell _ _ = w5 at *
     simp only [List.set] at KC
     obtain ⟨yA0,yA1,yA2,yA3,yAz⟩:=blk4 KA
     obtain ⟨yB0,yB1,yB2,yB3,yBz⟩:=blk4 KB
     go_wp2_with fail
     refine (OY.out _).mono ?_
     rintro e6 w6 ⟨rfl,hb6⟩
     refine up4 hb6 HB KA KB KZ KC ?_
     clear hb6 yA0 yA1 yA2 yA3 yAz yB0 yB1 yB2 yB3 yBz HB KA KB KZ KC
     intro HB KA KB KZ KC
     obtain ⟨yC0,yC1,yC2,yC3,yCz,yCf0,yCf1,yCf2,yCf3⟩:=blf4 KC
     go_upto_region 7 with (fail)
     replace KC:=kst (kst KC 1 (.int .i64 my)) 3 (.int .i64 wy)
     refine ot3 (st2 w6 bC 1 (.int .i64 my) 3 (.int .i64 wy)) HB KA KB KZ (by omega) (by omega) (by omega) (by omega) ?_
     clear HB KA KB KZ
     intro HB KA KB KZ
     clear yC0 yC1 yC2 yC3 yCz yCf0 yCf1 yCf2 yCf3
     generalize (w6.setCell _ _).setCell _ _ = w7 at *
     simp only [List.set] at KC
     obtain ⟨yZ0,yZ1,yZ2,yZ3,yZz,yZf0,yZf1,yZf2,yZf3⟩:=blf4 KZ
     go_wp2
     replace KZ:=kst (kst (kst (kst KZ 0 (.int .i64 0)) 1 (.int .i64 0)) 2 (.int .i64 0)) 3 (.int .i64 0)
     refine ot3 (st4 w7 (w.heap.size + 1 + 1) 0 (.int .i64 0) 1 (.int .i64 0) 2 (.int .i64 0) 3 (.int .i64 0)) HB KA KB KC (by omega) (by omega) (by omega) (by omega) ?_
     clear HB KA KB KC
     intro HB KA KB KC
     clear yZ0 yZ1 yZ2 yZ3 yZz yZf0 yZf1 yZf2 yZf3
     generalize (((w7.setCell _ _).setCell _ _).setCell _ _).setCell _ _ = w8 at *
     simp only [List.set] at KZ
     obtain ⟨yZ0,yZ1,yZ2,yZ3,yZz⟩:=blk4 KZ
     refine bodyPost_ret (v:=.tuple #[.agg #[.int .i64 0,.int .i64 0,.int .i64 0,.int .i64 0],.int .i64 11]) (by simp [results,Tryz.results63,go_sem,yZ0,yZ1,yZ2,yZ3]) rfl ⟨by rw [EV.out]; rfl,HB.out⟩
    | true =>
     have EV:=Lib.hid (EX rfl rfl)
     clear EN EX
     obtain ⟨KA,KB,KZ,HB⟩:=ent3 w #[.int .i64 ax,.int .i64 ay,.int .i64 a1,.int .i64 a2] 25 #[.int .i64 bx,.int .i64 (by'),.int .i64 b1,.int .i64 b2] 25 #[.int .i64 0,.int .i64 0,.int .i64 0,.int .i64 0] 25
     go_enter Tryz.func63,Tryz.ntmps63
     go_wp2_with fail
     generalize ((w.alloc _).alloc _).alloc _ = w0 at *
     refine (VA.out _).mono ?_
     rintro e1 w1 ⟨rfl,hb1⟩
     refine up3 hb1 HB KA KB KZ ?_
     clear hb1 HB KA KB KZ
     intro HB KA KB KZ
     obtain ⟨yB0,yB1,yB2,yB3,yBz⟩:=blk4 KB
     go_wp2_with fail
     refine (VB.out _).mono ?_
     rintro e2 w2 ⟨rfl,hb2⟩
     refine up3 hb2 HB KA KB KZ ?_
     clear hb2 yB0 yB1 yB2 yB3 yBz HB KA KB KZ
     intro HB KA KB KZ
     go_upto_region 5 with (fail)
     obtain ⟨KC,hb3⟩:=alB w2 #[.int .i64 0,.int .i64 0,.int .i64 0,.int .i64 0] 25
     have hnC:=HB.out.size
     have nzC_A:=KA.out.lt
     have nzC_B:=KB.out.lt
     have nzC_Z:=KZ.out.lt
     refine up3 hb3 HB KA KB KZ ?_
     clear hb3 HB KA KB KZ
     intro HB KA KB KZ
     generalize w2.alloc _ = w3 at *
     generalize w2.heap.size = bC at *
     have neC_A:bC≠w.heap.size:=by omega
     have neC_B:bC≠(w.heap.size + 1):=by omega
     have neC_Z:bC≠(w.heap.size + 1 + 1):=by omega
     clear nzC_A nzC_B nzC_Z
     obtain ⟨yA0,yA1,yA2,yA3,yAz⟩:=blk4 KA
     obtain ⟨yB0,yB1,yB2,yB3,yBz⟩:=blk4 KB
     go_wp2_with fail
     refine (OX.out _).mono ?_
     rintro e4 w4 ⟨rfl,hb4⟩
     refine up4 hb4 HB KA KB KZ KC ?_
     clear hb4 yA0 yA1 yA2 yA3 yAz yB0 yB1 yB2 yB3 yBz HB KA KB KZ KC
     intro HB KA KB KZ KC
     obtain ⟨yC0,yC1,yC2,yC3,yCz,yCf0,yCf1,yCf2,yCf3⟩:=blf4 KC
     go_upto_region 6 with (fail)
     replace KC:=kst (kst KC 0 (.int .i64 mx)) 2 (.int .i64 wx)
     refine ot3 (st2 w4 bC 0 (.int .i64 mx) 2 (.int .i64 wx)) HB KA KB KZ (by omega) (by omega) (by omega) (by omega) ?_
     clear HB KA KB KZ
     intro HB KA KB KZ
     clear yC0 yC1 yC2 yC3 yCz yCf0 yCf1 yCf2 yCf3
     generalize (w4.setCell _ _).setCell _ _ = w5 at *
     simp only [List.set] at KC
     obtain ⟨yA0,yA1,yA2,yA3,yAz⟩:=blk4 KA
     obtain ⟨yB0,yB1,yB2,yB3,yBz⟩:=blk4 KB
     go_wp2_with fail
     refine (OY.out _).mono ?_
     rintro e6 w6 ⟨rfl,hb6⟩
     refine up4 hb6 HB KA KB KZ KC ?_
     clear hb6 yA0 yA1 yA2 yA3 yAz yB0 yB1 yB2 yB3 yBz HB KA KB KZ KC
     intro HB KA KB KZ KC
     obtain ⟨yC0,yC1,yC2,yC3,yCz,yCf0,yCf1,yCf2,yCf3⟩:=blf4 KC
     go_upto_region 7 with (fail)
     replace KC:=kst (kst KC 1 (.int .i64 my)) 3 (.int .i64 wy)
     refine ot3 (st2 w6 bC 1 (.int .i64 my) 3 (.int .i64 wy)) HB KA KB KZ (by omega) (by omega) (by omega) (by omega) ?_
     clear HB KA KB KZ
     intro HB KA KB KZ
     clear yC0 yC1 yC2 yC3 yCz yCf0 yCf1 yCf2 yCf3
     generalize (w6.setCell _ _).setCell _ _ = w7 at *
     simp only [List.set] at KC
     obtain ⟨yZ0,yZ1,yZ2,yZ3,yZz,yZf0,yZf1,yZf2,yZf3⟩:=blf4 KZ
     obtain ⟨yC0,yC1,yC2,yC3,yCz⟩:=blk4 KC
     go_wp2
     replace KZ:=kst (kst (kst (kst KZ 0 (.int .i64 mx)) 1 (.int .i64 my)) 2 (.int .i64 wx)) 3 (.int .i64 wy)
     refine ot3 (st4 w7 (w.heap.size + 1 + 1) 0 (.int .i64 mx) 1 (.int .i64 my) 2 (.int .i64 wx) 3 (.int .i64 wy)) HB KA KB KC (by omega) (by omega) (by omega) (by omega) ?_
     clear HB KA KB KC
     intro HB KA KB KC
     clear yZ0 yZ1 yZ2 yZ3 yZz yZf0 yZf1 yZf2 yZf3 yC0 yC1 yC2 yC3 yCz
     generalize (((w7.setCell _ _).setCell _ _).setCell _ _).setCell _ _ = w8 at *
     simp only [List.set] at KZ
     obtain ⟨yZ0,yZ1,yZ2,yZ3,yZz⟩:=blk4 KZ
     refine bodyPost_ret (v:=.tuple #[.agg #[.int .i64 mx,.int .i64 my,.int .i64 wx,.int .i64 wy],.int .i64 0]) (by simp [results,Tryz.results63,go_sem,yZ0,yZ1,yZ2,yZ3]) rfl ⟨by rw [EV.out],HB.out⟩
end Go.Proofs.YtajmjkliblippaaGreatDoor
