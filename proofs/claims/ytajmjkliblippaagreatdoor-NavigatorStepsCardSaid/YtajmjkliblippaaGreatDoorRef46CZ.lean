/-
  The reference's fix of layer 46.
-/
import Derived.Test.YtajmjkliblippaaGreatDoorQ24
import Derived.Test.YtajmjkliblippaaGreatDoorQ26
import Derived.Test.YtajmjkliblippaaGreatDoorQ36
import Derived.Test.YtajmjkliblippaaGreatDoorQ37
import Derived.Test.YtajmjkliblippaaGreatDoorRef46BZ
set_option linter.unusedVariables false
namespace Go.Proofs.YtajmjkliblippaaGreatDoor
open Go.RowKit
theorem woL_zero {l:List Ms} (h:OkL l):woL l 0 = l:=by
 unfold woL
 refine List.filter_eq_self.2 fun m hm=>?_
 have:=(h.ok m hm).s0
 unfold notS
 simp only [ne_eq,decide_eq_true_eq]
 omega
set_option maxHeartbeats 40000000
set_option maxRecDepth 100000
theorem rfix_any (a:Bx4) (l:List Ms) (v:Value) (w:World) (h:LstAt l v w):Calls Tryz.prog 37 #[.agg #[.int .i64 a.cx,.int .i64 a.cy,.int .i64 a.x,.int .i64 a.y],v] w fun e w'=>e = .returned (.tuple #[.agg #[.int .i64 (fixF l a).1.1.cx,.int .i64 (fixF l a).1.1.cy,.int .i64 (fixF l a).1.1.x,.int .i64 (fixF l a).1.1.y],.int .i64 (fixF l a).1.2,.bool (fixF l a).2])∧Below w.heap.size w w':=by
 have EV0:fixF l a = if (S44.fltF l).2 = 0 then (if (levF (woL l (S44.fltF l).1)).2 = 0 then (((mrgF a (toB (levF (woL l (S44.fltF l).1)).1)).1,(S44.fltF l).1),decide ((mrgF a (toB (levF (woL l (S44.fltF l).1)).1)).2 = 0)) else ((bx0,0),false)) else ((bx0,0),false):=rfl
 have FL:=Lib.hid fun w h=>S44.fltref_any l v w h
 unfold S44.FlP at FL
 have WL:=Lib.hid fun (h:(S44.fltF l).2 = 0)=>show l.length≤18 from Nat.le_trans (okL_of (flt_chk2 h)).len (by omega)
 have WO:=Lib.hid fun (h:(S44.fltF l).2 = 0) (hk:(S44.fltF l).1 = 0)=>show woL l (S44.fltF l).1 = l by rw [hk]; exact woL_zero (okL_of (flt_chk2 h))
 generalize fixF l a = q at *
 generalize S44.fltF l = R at *
 obtain ⟨k,e⟩:=R
 simp only at FL WL EV0 WO
 have LV:=Lib.hid fun u w h=>rlev_any (woL l k) u w h
 generalize levF (woL l k) = R at *
 obtain ⟨⟨c0,c1,c2,c3⟩,el⟩:=R
 unfold toB at EV0
 unfold boxV at LV
 simp only at LV EV0
 have MG:=Lib.hid fun w=>rmerge_any a ⟨c0,c1,c2,c3⟩ w
 have EV1:=Lib.hid EV0
 clear EV0
 have EV0:=EV1
 clear EV1
 obtain ⟨ax,ay,a1,a2⟩:=a
 simp only at MG
 obtain ⟨KP,KZ,HB⟩:=ent2 w #[.int .i64 ax,.int .i64 ay,.int .i64 a1,.int .i64 a2] 25 #[.int .i64 0,.int .i64 0,.int .i64 0,.int .i64 0] 25
 have HL:=Lib.hid (h.below (((Below.refl w.heap.size w).alloc (Nat.le_refl _) (.cells #[.int .i64 ax,.int .i64 ay,.int .i64 a1,.int .i64 a2] 25)).alloc (by simp) (.cells #[.int .i64 0,.int .i64 0,.int .i64 0,.int .i64 0] 25)))
 go_enter Tryz.func37,Tryz.ntmps37
 go_wp2_with fail
 generalize (w.alloc _).alloc _ = w0 at *
 refine (FL.out _ HL.out).mono ?_
 rintro e1 w1 ⟨rfl,hb1⟩
 refine up2 hb1 HB KP KZ ?_
 clear HB KP KZ
 intro HB KP KZ
 replace HL:=Lib.hid (HL.out.below hb1)
 clear hb1
 by_cases he:e = 0
 ·subst he
  have LN:=WL.out rfl
  replace EV0:=Lib.hid (EV0.out.trans (if_pos rfl))
  clear WL
  by_cases hk:k = 0
  ·have gk:(k != 0) = false:=by simpa using hk
   have LV2:=Lib.hid fun w h=>LV.out v w (by rw [WO.out rfl hk]; exact h)
   clear LV WO LN hk
   go_wp2_with fail
   refine (LV2.out _ HL.out).mono ?_
   rintro e2 w2 ⟨rfl,hb2⟩
   refine up2 hb2 HB KP KZ ?_
   clear HB KP KZ
   intro HB KP KZ
   replace HL:=Lib.hid (HL.out.below hb2)
   clear hb2
   clear LV2
   go_upto_region 7 with (fail)
   obtain ⟨KL,hb3⟩:=alB w2 #[.int .i64 c0,.int .i64 c1,.int .i64 c2,.int .i64 c3] 25
   have hnL:=HB.out.size
   have nzL_P:=KP.out.lt
   have nzL_Z:=KZ.out.lt
   refine up2 hb3 HB KP KZ ?_
   clear HB KP KZ
   intro HB KP KZ
   replace HL:=Lib.hid (HL.out.below hb3)
   clear hb3
   generalize w2.alloc _ = w3 at *
   generalize w2.heap.size = bL at *
   have neL_P:bL≠w.heap.size:=by omega
   have neL_Z:bL≠(w.heap.size + 1):=by omega
   clear nzL_P nzL_Z
   by_cases hl:el = 0
   ·subst hl
    replace EV0:=Lib.hid (EV0.out.trans (if_pos rfl))
    have MG2:=MG.out
    generalize mrgF ⟨ax,ay,a1,a2⟩ ⟨c0,c1,c2,c3⟩ = R at *
    obtain ⟨⟨d0,d1,d2,d3⟩,em⟩:=R
    simp only at MG2
    have MG3:=Lib.hid MG2
    clear MG MG2
    obtain ⟨yP0,yP1,yP2,yP3,yPz⟩:=blk4 KP
    obtain ⟨yL0,yL1,yL2,yL3,yLz⟩:=blk4 KL
    go_wp2_with fail
    refine (MG3.out _).mono ?_
    rintro e4 w4 ⟨rfl,hb4⟩
    refine up3 hb4 HB KP KZ KL ?_
    clear HB KP KZ KL
    intro HB KP KZ KL
    replace HL:=Lib.hid (HL.out.below hb4)
    clear yP0 yP1 yP2 yP3 yPz yL0 yL1 yL2 yL3 yLz
    clear hb4
    clear MG3
    go_upto_region 10 with (fail)
    obtain ⟨KC,hb5⟩:=alB w4 #[.int .i64 d0,.int .i64 d1,.int .i64 d2,.int .i64 d3] 25
    have hnC:=HB.out.size
    have nzC_P:=KP.out.lt
    have nzC_Z:=KZ.out.lt
    have nzC_L:=KL.out.lt
    refine up3 hb5 HB KP KZ KL ?_
    clear HB KP KZ KL
    intro HB KP KZ KL
    replace HL:=Lib.hid (HL.out.below hb5)
    clear hb5
    generalize w4.alloc _ = w5 at *
    generalize w4.heap.size = bC at *
    have neC_P:bC≠w.heap.size:=by omega
    have neC_Z:bC≠(w.heap.size + 1):=by omega
    have neC_L:bC≠bL:=by omega
    clear nzC_P nzC_Z nzC_L
    have EV:=EV0
    clear EV0
    obtain ⟨yZ0,yZ1,yZ2,yZ3,yZz,yZf0,yZf1,yZf2,yZf3⟩:=blf4 KZ
    obtain ⟨yC0,yC1,yC2,yC3,yCz⟩:=blk4 KC
    go_wp2
    replace KZ:=kst (kst (kst (kst KZ 0 (.int .i64 d0)) 1 (.int .i64 d1)) 2 (.int .i64 d2)) 3 (.int .i64 d3)
    refine ot3 (st4 w5 (w.heap.size + 1) 0 (.int .i64 d0) 1 (.int .i64 d1) 2 (.int .i64 d2) 3 (.int .i64 d3)) HB KP KL KC (by omega) (by omega) (by omega) (by omega) ?_
    clear HB KP KL KC
    intro HB KP KL KC
    clear yZ0 yZ1 yZ2 yZ3 yZz yZf0 yZf1 yZf2 yZf3 yC0 yC1 yC2 yC3 yCz
    generalize (((w5.setCell _ _).setCell _ _).setCell _ _).setCell _ _ = w6 at *
    simp only [List.set] at KZ
    obtain ⟨yZ0,yZ1,yZ2,yZ3,yZz⟩:=blk4 KZ
    refine bodyPost_ret (v:=.tuple #[.agg #[.int .i64 d0,.int .i64 d1,.int .i64 d2,.int .i64 d3],.int .i64 k,.bool (em == 0)]) (by simp [results,Tryz.results37,go_sem,yZ0,yZ1,yZ2,yZ3]) rfl ⟨by rw [EV.out]; rfl,HB.out⟩
   ·have EV:=Lib.hid (EV0.out.trans (if_neg hl))
    have gl:(el != 0) = true:=by simpa using hl
    clear EV0 hl MG
    obtain ⟨yZ0,yZ1,yZ2,yZ3,yZz,yZf0,yZf1,yZf2,yZf3⟩:=blf4 KZ
    go_wp2
    replace KZ:=kst (kst (kst (kst KZ 0 (.int .i64 0)) 1 (.int .i64 0)) 2 (.int .i64 0)) 3 (.int .i64 0)
    refine ot2 (st4 w3 (w.heap.size + 1) 0 (.int .i64 0) 1 (.int .i64 0) 2 (.int .i64 0) 3 (.int .i64 0)) HB KP KL (by omega) (by omega) (by omega) ?_
    clear HB KP KL
    intro HB KP KL
    clear yZ0 yZ1 yZ2 yZ3 yZz yZf0 yZf1 yZf2 yZf3
    generalize (((w3.setCell _ _).setCell _ _).setCell _ _).setCell _ _ = w4 at *
    simp only [List.set] at KZ
    obtain ⟨yZ0,yZ1,yZ2,yZ3,yZz⟩:=blk4 KZ
    refine bodyPost_ret (v:=.tuple #[.agg #[.int .i64 0,.int .i64 0,.int .i64 0,.int .i64 0],.int .i64 0,.bool false]) (by simp [results,Tryz.results37,go_sem,yZ0,yZ1,yZ2,yZ3]) rfl ⟨by rw [EV.out]; rfl,HB.out⟩
  ·have gk:(k != 0) = true:=by simpa using hk
   clear WO hk
   go_wp2_with fail
   refine (woref_any l k v _ HL.out LN).mono ?_
   rintro e34 w34 ⟨⟨u2,rfl,ho2⟩,hb34⟩
   refine up2 hb34 HB KP KZ ?_
   clear HB KP KZ
   intro HB KP KZ
   replace HL:=Lib.hid (HL.out.below hb34)
   clear hb34
   have OL2:=Lib.hid ho2.lst
   clear ho2 LN
   have LV2:=Lib.hid fun w h=>LV.out u2 w h
   clear LV
   go_wp2_with fail
   refine (LV2.out _ OL2.out).mono ?_
   rintro e35 w35 ⟨rfl,hb35⟩
   refine up2 hb35 HB KP KZ ?_
   clear HB KP KZ
   intro HB KP KZ
   replace OL2:=Lib.hid (OL2.out.below hb35)
   clear hb35
   clear LV2
   go_upto_region 7 with (fail)
   obtain ⟨KL,hb36⟩:=alB w35 #[.int .i64 c0,.int .i64 c1,.int .i64 c2,.int .i64 c3] 25
   have hnL:=HB.out.size
   have nzL_P:=KP.out.lt
   have nzL_Z:=KZ.out.lt
   refine up2 hb36 HB KP KZ ?_
   clear HB KP KZ
   intro HB KP KZ
   replace OL2:=Lib.hid (OL2.out.below hb36)
   clear hb36
   generalize w35.alloc _ = w36 at *
   generalize w35.heap.size = bL at *
   have neL_P:bL≠w.heap.size:=by omega
   have neL_Z:bL≠(w.heap.size + 1):=by omega
   clear nzL_P nzL_Z
   by_cases hl:el = 0
   ·subst hl
    replace EV0:=Lib.hid (EV0.out.trans (if_pos rfl))
    have MG2:=MG.out
    generalize mrgF ⟨ax,ay,a1,a2⟩ ⟨c0,c1,c2,c3⟩ = R at *
    obtain ⟨⟨d0,d1,d2,d3⟩,em⟩:=R
    simp only at MG2
    have MG3:=Lib.hid MG2
    clear MG MG2
    obtain ⟨yP0,yP1,yP2,yP3,yPz⟩:=blk4 KP
    obtain ⟨yL0,yL1,yL2,yL3,yLz⟩:=blk4 KL
    go_wp2_with fail
    refine (MG3.out _).mono ?_
    rintro e37 w37 ⟨rfl,hb37⟩
    refine up3 hb37 HB KP KZ KL ?_
    clear HB KP KZ KL
    intro HB KP KZ KL
    replace OL2:=Lib.hid (OL2.out.below hb37)
    clear yP0 yP1 yP2 yP3 yPz yL0 yL1 yL2 yL3 yLz
    clear hb37
    clear MG3
    go_upto_region 10 with (fail)
    obtain ⟨KC,hb38⟩:=alB w37 #[.int .i64 d0,.int .i64 d1,.int .i64 d2,.int .i64 d3] 25
    have hnC:=HB.out.size
    have nzC_P:=KP.out.lt
    have nzC_Z:=KZ.out.lt
    have nzC_L:=KL.out.lt
    refine up3 hb38 HB KP KZ KL ?_
    clear HB KP KZ KL
    intro HB KP KZ KL
    replace OL2:=Lib.hid (OL2.out.below hb38)
    clear hb38
    generalize w37.alloc _ = w38 at *
    generalize w37.heap.size = bC at *
    have neC_P:bC≠w.heap.size:=by omega
    have neC_Z:bC≠(w.heap.size + 1):=by omega
    have neC_L:bC≠bL:=by omega
    clear nzC_P nzC_Z nzC_L
    have EV:=EV0
    clear EV0
    obtain ⟨yZ0,yZ1,yZ2,yZ3,yZz,yZf0,yZf1,yZf2,yZf3⟩:=blf4 KZ
    obtain ⟨yC0,yC1,yC2,yC3,yCz⟩:=blk4 KC
    go_wp2
    replace KZ:=kst (kst (kst (kst KZ 0 (.int .i64 d0)) 1 (.int .i64 d1)) 2 (.int .i64 d2)) 3 (.int .i64 d3)
    refine ot3 (st4 w38 (w.heap.size + 1) 0 (.int .i64 d0) 1 (.int .i64 d1) 2 (.int .i64 d2) 3 (.int .i64 d3)) HB KP KL KC (by omega) (by omega) (by omega) (by omega) ?_
    clear HB KP KL KC
    intro HB KP KL KC
    clear yZ0 yZ1 yZ2 yZ3 yZz yZf0 yZf1 yZf2 yZf3 yC0 yC1 yC2 yC3 yCz
    generalize (((w38.setCell _ _).setCell _ _).setCell _ _).setCell _ _ = w39 at *
    simp only [List.set] at KZ
    obtain ⟨yZ0,yZ1,yZ2,yZ3,yZz⟩:=blk4 KZ
    refine bodyPost_ret (v:=.tuple #[.agg #[.int .i64 d0,.int .i64 d1,.int .i64 d2,.int .i64 d3],.int .i64 k,.bool (em == 0)]) (by simp [results,Tryz.results37,go_sem,yZ0,yZ1,yZ2,yZ3]) rfl ⟨by rw [EV.out]; rfl,HB.out⟩
   ·have EV:=Lib.hid (EV0.out.trans (if_neg hl))
    have gl:(el != 0) = true:=by simpa using hl
    clear EV0 hl MG
    obtain ⟨yZ0,yZ1,yZ2,yZ3,yZz,yZf0,yZf1,yZf2,yZf3⟩:=blf4 KZ
    go_wp2
    replace KZ:=kst (kst (kst (kst KZ 0 (.int .i64 0)) 1 (.int .i64 0)) 2 (.int .i64 0)) 3 (.int .i64 0)
    refine ot2 (st4 w36 (w.heap.size + 1) 0 (.int .i64 0) 1 (.int .i64 0) 2 (.int .i64 0) 3 (.int .i64 0)) HB KP KL (by omega) (by omega) (by omega) ?_
    clear HB KP KL
    intro HB KP KL
    clear yZ0 yZ1 yZ2 yZ3 yZz yZf0 yZf1 yZf2 yZf3
    generalize (((w36.setCell _ _).setCell _ _).setCell _ _).setCell _ _ = w37 at *
    simp only [List.set] at KZ
    obtain ⟨yZ0,yZ1,yZ2,yZ3,yZz⟩:=blk4 KZ
    refine bodyPost_ret (v:=.tuple #[.agg #[.int .i64 0,.int .i64 0,.int .i64 0,.int .i64 0],.int .i64 0,.bool false]) (by simp [results,Tryz.results37,go_sem,yZ0,yZ1,yZ2,yZ3]) rfl ⟨by rw [EV.out]; rfl,HB.out⟩
 ·have EV:=Lib.hid (EV0.out.trans (if_neg he))
  have ge:(e != 0) = true:=by simpa using he
  clear EV0 he WL LV WO
  obtain ⟨yZ0,yZ1,yZ2,yZ3,yZz,yZf0,yZf1,yZf2,yZf3⟩:=blf4 KZ
  go_wp2
  replace KZ:=kst (kst (kst (kst KZ 0 (.int .i64 0)) 1 (.int .i64 0)) 2 (.int .i64 0)) 3 (.int .i64 0)
  refine ot1 (st4 w1 (w.heap.size + 1) 0 (.int .i64 0) 1 (.int .i64 0) 2 (.int .i64 0) 3 (.int .i64 0)) HB KP (by omega) (by omega) ?_
  clear HB KP
  intro HB KP
  clear yZ0 yZ1 yZ2 yZ3 yZz yZf0 yZf1 yZf2 yZf3
  generalize (((w1.setCell _ _).setCell _ _).setCell _ _).setCell _ _ = w2 at *
  simp only [List.set] at KZ
  obtain ⟨yZ0,yZ1,yZ2,yZ3,yZz⟩:=blk4 KZ
  refine bodyPost_ret (v:=.tuple #[.agg #[.int .i64 0,.int .i64 0,.int .i64 0,.int .i64 0],.int .i64 0,.bool false]) (by simp [results,Tryz.results37,go_sem,yZ0,yZ1,yZ2,yZ3]) rfl ⟨by rw [EV.out]; rfl,HB.out⟩
end Go.Proofs.YtajmjkliblippaaGreatDoor
