/-
  The walk of the law NavigatorSteps.
-/
import Derived.Test.YtajmjkliblippaaGreatDoorRef46EZ
import Derived.Test.YtajmjkliblippaaGreatDoorAwake46Z
import Derived.Test.YtajmjkliblippaaGreatDoorSafe46Z
set_option linter.unusedVariables false
namespace Go.Proofs.YtajmjkliblippaaGreatDoor.navigatorSteps
open Go.ChangeShapes Go.WideShapes Go.ChangeAt Go.RowKit
set_option maxHeartbeats 40000000
set_option maxRecDepth 100000
theorem walk (cx cy x y t m tk:Int) (v:Value) (ve vn dr rq:Int) (L:List Rp) (w:World) (hE:Env w) (h:RlG L v w) (hK:∀ i,i < L.length→0≤(nthR L i).k∧(nthR L i).k≤255) :
 Calls Tryz.prog 4 #[.agg #[.int .i64 cx,.int .i64 cy,.int .i64 x,.int .i64 y,.int .i64 t,.int .i64 m],.agg #[.int .i64 tk,v,.int .i64 ve,.int .i64 vn,.int .i64 dr,.int .i64 rq]] w fun e w'=>e = .returned (.bool true)∧Below w.heap.size w w':=by
 have HE:=Lib.hid hE
 have RL0:=Lib.hid h
 have KK0:=kd_take 10 hK
 have TL0:(L.take 10).length≤10:=by rw [List.length_take]; omega
 obtain ⟨T,hT⟩:∃ z,L.take 10 = z:=⟨_,rfl⟩
 rw [hT] at KK0 TL0
 have KK:=Lib.hid KK0
 have TL:=Lib.hid TL0
 have HTK:=Lib.hid hT
 clear KK0 TL0 hT hE h hK
 obtain ⟨KS,KI,HB⟩:=ent2 w #[.int .i64 cx,.int .i64 cy,.int .i64 x,.int .i64 y,.int .i64 t,.int .i64 m] 27 #[.int .i64 tk,v,.int .i64 ve,.int .i64 vn,.int .i64 dr,.int .i64 rq] 38
 go_enter Tryz.func4,Tryz.ntmps4
 go_wp2_with fail
 generalize (w.alloc _).alloc _ = w0 at *
 refine (awake_any _ (HE.out.below HB.out)).mono ?_
 rintro e1 w1 ⟨rfl,hb1⟩
 refine up2 hb1 HB KS KI ?_
 clear hb1 HB KS KI
 intro HB KS KI
 obtain ⟨yI0,yI1,yI2,yI3,yI4,yI5,yIz⟩:=blk6 KI
 go_wp2_with fail
 refine (cut_any tk ve vn dr rq L v _ (RL0.out.below HB.out)).mono ?_
 rintro e2 w2 ⟨⟨v1,rfl,hr⟩,hb2⟩
 have hr:=hr w RL0.out
 rw [HTK.out] at hr
 obtain ⟨p1,c1,rfl⟩:=rg_form hr
 have RL:=Lib.hid hr
 clear hr
 refine up2 hb2 HB KS KI ?_
 clear hb2 yI0 yI1 yI2 yI3 yI4 yI5 yIz HB KS KI
 intro HB KS KI
 obtain ⟨yI0,yI1,yI2,yI3,yI4,yI5,yIz,yIf0,yIf1,yIf2,yIf3,yIf4,yIf5⟩:=blf6 KI
 go_upto_region 4 with (fail)
 replace KI:=kst (kst (kst (kst (kst (kst KI 0 (.int .i64 tk)) 1 (.slice p1 T.length c1)) 2 (.int .i64 ve)) 3 (.int .i64 vn)) 4 (.int .i64 dr)) 5 (.int .i64 rq)
 refine ot1 (st6 w2 (w.heap.size + 1) 0 (.int .i64 tk) 1 (.slice p1 T.length c1) 2 (.int .i64 ve) 3 (.int .i64 vn) 4 (.int .i64 dr) 5 (.int .i64 rq)) HB KS (by omega) (by omega) ?_
 clear HB KS
 intro HB KS
 clear yI0 yI1 yI2 yI3 yI4 yI5 yIz yIf0 yIf1 yIf2 yIf3 yIf4 yIf5
 generalize (((((w2.setCell _ _).setCell _ _).setCell _ _).setCell _ _).setCell _ _).setCell _ _ = w3 at *
 simp only [List.set] at KI
 obtain ⟨yS0,yS1,yS2,yS3,yS4,yS5,ySz⟩:=blk6 KS
 obtain ⟨yI0,yI1,yI2,yI3,yI4,yI5,yIz⟩:=blk6 KI
 by_cases he:stpE2 ⟨cx,cy,x,y⟩ t m tk ve vn dr rq T.length = 0
 ·have SG:=fun w h=>step_okR ⟨cx,cy,x,y⟩ t m tk ve vn dr rq T (.slice p1 T.length c1) w h KK.out he
  have SR:=fun w h=>rstep_ok ⟨cx,cy,x,y⟩ t m tk ve vn dr rq T (.slice p1 T.length c1) w h KK.out he
  clear he
  generalize stpC ⟨cx,cy,x,y⟩ t m tk ve vn dr T = cy at *
  obtain ⟨⟨nx,ny,n1,n2⟩,ms,ex⟩:=cy
  simp only at SG SR
  generalize useB n1 n2 rq = us at *
  have SG:=Lib.hid SG
  have SR:=Lib.hid SR
  go_wp2_with fail
  refine (SG.out _ (RL.out.below HB.out)).mono ?_
  rintro e4 w4 ⟨rfl,hb4⟩
  refine up2 hb4 HB KS KI ?_
  clear hb4 yS0 yS1 yS2 yS3 yS4 yS5 ySz yI0 yI1 yI2 yI3 yI4 yI5 yIz HB KS KI
  intro HB KS KI
  clear SG
  go_upto_region 5 with (fail)
  have KN:=Lib.hid ((Blk.of (vs:=#[.int .i64 nx,.int .i64 ny,.int .i64 n1,.int .i64 n2,.int .i64 tk,.int .i64 ms]) (t:=27) (w:=w4) (b:=w4.heap.size) rfl).alloc (.cells #[.int .i64 nx,.int .i64 ny,.int .i64 n1,.int .i64 n2,.bool us,.int .i64 ex] 41))
  have KE:=Lib.hid (Blk.of (vs:=#[.int .i64 nx,.int .i64 ny,.int .i64 n1,.int .i64 n2,.bool us,.int .i64 ex]) (t:=41) (w:=w4.alloc (.cells #[.int .i64 nx,.int .i64 ny,.int .i64 n1,.int .i64 n2,.int .i64 tk,.int .i64 ms] 27)) (b:=w4.heap.size + 1) (by simp))
  have hb5:Below w4.heap.size w4 ((w4.alloc (.cells #[.int .i64 nx,.int .i64 ny,.int .i64 n1,.int .i64 n2,.int .i64 tk,.int .i64 ms] 27)).alloc (.cells #[.int .i64 nx,.int .i64 ny,.int .i64 n1,.int .i64 n2,.bool us,.int .i64 ex] 41)):=((Below.refl _ _).alloc (Nat.le_refl _) _).alloc (by simp) _
  have hnN:=HB.out.size
  have nzN_S:=KS.out.lt
  have nzN_I:=KI.out.lt
  refine up2 hb5 HB KS KI ?_
  clear hb5 HB KS KI
  intro HB KS KI
  generalize (w4.alloc _).alloc _ = w5 at *
  generalize w4.heap.size = bN at *
  have neN_S:bN≠w.heap.size:=by omega
  have neE_S:bN + 1≠w.heap.size:=by omega
  have neN_I:bN≠(w.heap.size + 1):=by omega
  have neE_I:bN + 1≠(w.heap.size + 1):=by omega
  clear nzN_S nzN_I
  obtain ⟨yS0,yS1,yS2,yS3,yS4,yS5,ySz⟩:=blk6 KS
  obtain ⟨yI0,yI1,yI2,yI3,yI4,yI5,yIz⟩:=blk6 KI
  go_wp2_with fail
  refine (SR.out _ (RL.out.below HB.out)).mono ?_
  rintro e6 w6 ⟨rfl,hb6⟩
  refine up4 hb6 HB KS KI KN KE ?_
  clear hb6 yS0 yS1 yS2 yS3 yS4 yS5 ySz yI0 yI1 yI2 yI3 yI4 yI5 yIz HB KS KI KN KE
  intro HB KS KI KN KE
  clear SR
  go_upto_region 6 with (fail)
  have KP:=Lib.hid ((Blk.of (vs:=#[.int .i64 nx,.int .i64 ny,.int .i64 n1,.int .i64 n2,.int .i64 tk,.int .i64 ms]) (t:=27) (w:=w6) (b:=w6.heap.size) rfl).alloc (.cells #[.int .i64 nx,.int .i64 ny,.int .i64 n1,.int .i64 n2,.bool us,.int .i64 ex] 41))
  have KQ:=Lib.hid (Blk.of (vs:=#[.int .i64 nx,.int .i64 ny,.int .i64 n1,.int .i64 n2,.bool us,.int .i64 ex]) (t:=41) (w:=w6.alloc (.cells #[.int .i64 nx,.int .i64 ny,.int .i64 n1,.int .i64 n2,.int .i64 tk,.int .i64 ms] 27)) (b:=w6.heap.size + 1) (by simp))
  have hb7:Below w6.heap.size w6 ((w6.alloc (.cells #[.int .i64 nx,.int .i64 ny,.int .i64 n1,.int .i64 n2,.int .i64 tk,.int .i64 ms] 27)).alloc (.cells #[.int .i64 nx,.int .i64 ny,.int .i64 n1,.int .i64 n2,.bool us,.int .i64 ex] 41)):=((Below.refl _ _).alloc (Nat.le_refl _) _).alloc (by simp) _
  have hnP:=HB.out.size
  have nzP_S:=KS.out.lt
  have nzP_I:=KI.out.lt
  have nzP_N:=KN.out.lt
  have nzP_E:=KE.out.lt
  refine up4 hb7 HB KS KI KN KE ?_
  clear hb7 HB KS KI KN KE
  intro HB KS KI KN KE
  generalize (w6.alloc _).alloc _ = w7 at *
  generalize w6.heap.size = bP at *
  have neP_S:bP≠w.heap.size:=by omega
  have neQ_S:bP + 1≠w.heap.size:=by omega
  have neP_I:bP≠(w.heap.size + 1):=by omega
  have neQ_I:bP + 1≠(w.heap.size + 1):=by omega
  have neP_N:bP≠bN:=by omega
  have neQ_N:bP + 1≠bN:=by omega
  have neP_E:bP≠(bN + 1):=by omega
  have neQ_E:bP + 1≠(bN + 1):=by omega
  clear nzP_S nzP_I nzP_N nzP_E
  obtain ⟨yN0,yN1,yN2,yN3,yN4,yN5,yNz⟩:=blk6 KN
  obtain ⟨yE0,yE1,yE2,yE3,yE4,yE5,yEz⟩:=blk6 KE
  obtain ⟨yP0,yP1,yP2,yP3,yP4,yP5,yPz⟩:=blk6 KP
  obtain ⟨yQ0,yQ1,yQ2,yQ3,yQ4,yQ5,yQz⟩:=blk6 KQ
  go_wp2
  go_ret
  exact ⟨rfl,HB.out⟩
 ·have SB:=Lib.hid fun w h=>step_badR ⟨cx,cy,x,y⟩ t m tk ve vn dr rq T (.slice p1 T.length c1) w h (by have:=TL.out; omega) he
  have SR:=Lib.hid fun w h=>rstep_bad ⟨cx,cy,x,y⟩ t m tk ve vn dr rq T (.slice p1 T.length c1) w h (by have:=TL.out; omega) he
  clear he
  generalize stpE2 ⟨cx,cy,x,y⟩ t m tk ve vn dr rq T.length = e at *
  go_wp2_with fail
  refine (SB.out _ (RL.out.below HB.out)).mono ?_
  rintro e4 w4 ⟨rfl,hb4⟩
  refine up2 hb4 HB KS KI ?_
  clear hb4 yS0 yS1 yS2 yS3 yS4 yS5 ySz yI0 yI1 yI2 yI3 yI4 yI5 yIz HB KS KI
  intro HB KS KI
  clear SB
  go_upto_region 5 with (fail)
  have KN:=Lib.hid ((Blk.of (vs:=#[.int .i64 0,.int .i64 0,.int .i64 0,.int .i64 0,.int .i64 0,.int .i64 0]) (t:=27) (w:=w4) (b:=w4.heap.size) rfl).alloc (.cells #[.int .i64 0,.int .i64 0,.int .i64 0,.int .i64 0,.bool false,.int .i64 0] 41))
  have KE:=Lib.hid (Blk.of (vs:=#[.int .i64 0,.int .i64 0,.int .i64 0,.int .i64 0,.bool false,.int .i64 0]) (t:=41) (w:=w4.alloc (.cells #[.int .i64 0,.int .i64 0,.int .i64 0,.int .i64 0,.int .i64 0,.int .i64 0] 27)) (b:=w4.heap.size + 1) (by simp))
  have hb5:Below w4.heap.size w4 ((w4.alloc (.cells #[.int .i64 0,.int .i64 0,.int .i64 0,.int .i64 0,.int .i64 0,.int .i64 0] 27)).alloc (.cells #[.int .i64 0,.int .i64 0,.int .i64 0,.int .i64 0,.bool false,.int .i64 0] 41)):=((Below.refl _ _).alloc (Nat.le_refl _) _).alloc (by simp) _
  have hnN:=HB.out.size
  have nzN_S:=KS.out.lt
  have nzN_I:=KI.out.lt
  refine up2 hb5 HB KS KI ?_
  clear hb5 HB KS KI
  intro HB KS KI
  generalize (w4.alloc _).alloc _ = w5 at *
  generalize w4.heap.size = bN at *
  have neN_S:bN≠w.heap.size:=by omega
  have neE_S:bN + 1≠w.heap.size:=by omega
  have neN_I:bN≠(w.heap.size + 1):=by omega
  have neE_I:bN + 1≠(w.heap.size + 1):=by omega
  clear nzN_S nzN_I
  obtain ⟨yS0,yS1,yS2,yS3,yS4,yS5,ySz⟩:=blk6 KS
  obtain ⟨yI0,yI1,yI2,yI3,yI4,yI5,yIz⟩:=blk6 KI
  go_wp2_with fail
  refine (SR.out _ (RL.out.below HB.out)).mono ?_
  rintro e6 w6 ⟨rfl,hb6⟩
  refine up4 hb6 HB KS KI KN KE ?_
  clear hb6 yS0 yS1 yS2 yS3 yS4 yS5 ySz yI0 yI1 yI2 yI3 yI4 yI5 yIz HB KS KI KN KE
  intro HB KS KI KN KE
  clear SR
  go_upto_region 6 with (fail)
  have KP:=Lib.hid ((Blk.of (vs:=#[.int .i64 0,.int .i64 0,.int .i64 0,.int .i64 0,.int .i64 0,.int .i64 0]) (t:=27) (w:=w6) (b:=w6.heap.size) rfl).alloc (.cells #[.int .i64 0,.int .i64 0,.int .i64 0,.int .i64 0,.bool false,.int .i64 0] 41))
  have KQ:=Lib.hid (Blk.of (vs:=#[.int .i64 0,.int .i64 0,.int .i64 0,.int .i64 0,.bool false,.int .i64 0]) (t:=41) (w:=w6.alloc (.cells #[.int .i64 0,.int .i64 0,.int .i64 0,.int .i64 0,.int .i64 0,.int .i64 0] 27)) (b:=w6.heap.size + 1) (by simp))
  have hb7:Below w6.heap.size w6 ((w6.alloc (.cells #[.int .i64 0,.int .i64 0,.int .i64 0,.int .i64 0,.int .i64 0,.int .i64 0] 27)).alloc (.cells #[.int .i64 0,.int .i64 0,.int .i64 0,.int .i64 0,.bool false,.int .i64 0] 41)):=((Below.refl _ _).alloc (Nat.le_refl _) _).alloc (by simp) _
  have hnP:=HB.out.size
  have nzP_S:=KS.out.lt
  have nzP_I:=KI.out.lt
  have nzP_N:=KN.out.lt
  have nzP_E:=KE.out.lt
  refine up4 hb7 HB KS KI KN KE ?_
  clear hb7 HB KS KI KN KE
  intro HB KS KI KN KE
  generalize (w6.alloc _).alloc _ = w7 at *
  generalize w6.heap.size = bP at *
  have neP_S:bP≠w.heap.size:=by omega
  have neQ_S:bP + 1≠w.heap.size:=by omega
  have neP_I:bP≠(w.heap.size + 1):=by omega
  have neQ_I:bP + 1≠(w.heap.size + 1):=by omega
  have neP_N:bP≠bN:=by omega
  have neQ_N:bP + 1≠bN:=by omega
  have neP_E:bP≠(bN + 1):=by omega
  have neQ_E:bP + 1≠(bN + 1):=by omega
  clear nzP_S nzP_I nzP_N nzP_E
  obtain ⟨yN0,yN1,yN2,yN3,yN4,yN5,yNz⟩:=blk6 KN
  obtain ⟨yE0,yE1,yE2,yE3,yE4,yE5,yEz⟩:=blk6 KE
  obtain ⟨yP0,yP1,yP2,yP3,yP4,yP5,yPz⟩:=blk6 KP
  obtain ⟨yQ0,yQ1,yQ2,yQ3,yQ4,yQ5,yQz⟩:=blk6 KQ
  go_wp2
  go_ret
  exact ⟨rfl,HB.out⟩
end Go.Proofs.YtajmjkliblippaaGreatDoor.navigatorSteps
