/-
  Walks and laws of the layers below, gathered from several texts.
-/
import Derived.StillTailTactics
import Derived.Lib.Hide
import Derived.Test.YtajmjkliblippaaGreatDoorShelfQ
import Derived.WalkKit
import Derived.WalkSpells
import Derived.IntWalk
import Derived.BigQuiet
import Derived.Deep.QuietTactic
import Derived.Deep.LoopGhost
import Derived.LoopTactic
import Derived.Deep.Cut
import Derived.Deep.RegionHeld3
import Derived.Laws.Bits64b
import Derived.Laws.Bits64
import Derived.Lib.QuietBelow
import Derived.Laws.OwnMore
import Derived.Maps.AppendAt
import Derived.OwnWalk
import Derived.OneCell
import Derived.Lib.SmallJoins
import Derived.Deep.Onto
import Derived.Lib.SlicesCompact
import Derived.Lib.RowBridge
import Derived.Sort.OwnSortedInts
import Derived.Deep.DeepCutAuto
import Derived.Deep.RegionWith
import Derived.BigRegion
import Derived.Test.YtajmjkliblippaaGreatDoorQ3
import Derived.Test.YtajmjkliblippaaGreatDoorQ4
import Derived.Test.YtajmjkliblippaaGreatDoorQ8
import Derived.Test.YtajmjkliblippaaGreatDoorQ9
import Derived.Test.YtajmjkliblippaaGreatDoorQ10
import Derived.Test.YtajmjkliblippaaGreatDoorQ14
import Derived.Test.YtajmjkliblippaaGreatDoorQ15
import Derived.Test.YtajmjkliblippaaGreatDoorQ16
import Derived.Test.YtajmjkliblippaaGreatDoorQ17
import Derived.Test.YtajmjkliblippaaGreatDoorQ22
import Derived.Test.YtajmjkliblippaaGreatDoorQ24
import Derived.Test.YtajmjkliblippaaGreatDoorQ31
import Derived.Test.YtajmjkliblippaaGreatDoorQ32
set_option linter.unusedVariables false
namespace Go.Proofs.YtajmjkliblippaaGreatDoor
open Go.RowKit
theorem abs_term {w c d:Int} (hw:0≤w) (hd:0≤d):absZ (w * c * d) = w * absZ c * d:=by
 unfold absZ
 by_cases h:c < 0
 ·rw [if_pos h]
  by_cases z:w * c * d < 0
  ·rw [if_pos z,Int.mul_neg,Int.neg_mul]
  ·rw [if_neg z]
   have h1:=Int.mul_nonneg (Int.mul_nonneg hw (show 0≤-c by omega)) hd
   rw [Int.mul_neg,Int.neg_mul] at h1
   rw [Int.mul_neg,Int.neg_mul]
   omega
 ·rw [if_neg h]
  have h1:=Int.mul_nonneg (Int.mul_nonneg hw (show 0≤c by omega)) hd
  rw [if_neg (by omega)]
theorem absZ_both (x:Int):x≤absZ x∧-x≤absZ x:=by unfold absZ; split <;> omega
structure RvHalf (u v a b:Int) (m:Ms) (U U1:Int):Prop where
 s1:IntKind.i64.wrap (u * a) = u * a
 s2:IntKind.i64.wrap (v * b) = v * b
 s3:IntKind.i64.wrap (u * a - v * b) = u * a - v * b
 s4:IntKind.i64.wrap (m.w * (u * a - v * b)) = m.w * (u * a - v * b)
 mu:∀ w,Calls Tryz.prog 158 #[.int .i64 (m.w * (u * a - v * b)),.int .i64 m.d] w fun e w'=>e = .returned (wv (m.w * (u * a - v * b) * m.d))∧Below w.heap.size w w'
 ab:∀ w,Calls Tryz.prog 157 #[wv (m.w * (u * a - v * b) * m.d)] w fun e w'=>e = .returned (wv1 (m.w * absZ (u * a - v * b) * m.d))∧Below w.heap.size w w'
 pl:∀ w,Calls Tryz.prog 115 #[wv U,wv (m.w * absZ (u * a - v * b) * m.d)] w fun e w'=>e = .returned (wv U1)∧Below w.heap.size w w'
theorem rv_half {m:Ms} (o:OkM m) {u v a b U U1:Int} (hu0:-16777216≤u) (hu:u≤16777216) (hv0:-16777216≤v) (hv:v≤16777216) (ha0:-256≤a) (ha:a≤256) (hb0:-256≤b) (hb:b≤256)
 (hU0:0≤U) (hU:U≤9444732965739290427392) (e:U1 = U + m.w * absZ (u * a - v * b) * m.d):RvHalf u v a b m U U1:=by
 obtain ⟨t0,t1,t2,t3,t4,t5⟩:=noi_term o hu0 hu hv0 hv ha0 ha hb0 hb
 have p1:=mulb (X:=16777216) (Y:=256) (by omega) hu0 hu ha0 ha
 have p2:=mulb (X:=16777216) (Y:=256) (by omega) hv0 hv hb0 hb
 have d0:=o.d0
 have d1:=o.d1
 have w0:=o.w0
 have w1:=o.w1
 have p3:=mulb (X:=16) (Y:=8589934592) (x:=m.w) (y:=u * a - v * b) (by omega) (by omega) w1 (by omega) (by omega)
 have ea:=abs_term (c:=u * a - v * b) (show 0≤m.w by omega) d0
 have bb:=absZ_both (m.w * (u * a - v * b) * m.d)
 rw [ea] at bb
 refine ⟨IntWalk.i64_in _ (by omega),IntWalk.i64_in _ (by omega),IntWalk.i64_in _ (by omega),IntWalk.i64_in _ (by omega),fun w=>rmul_any _ _ w (by omega) (by omega) (by omega) (by omega),fun w=>?_,fun w=>?_⟩
 ·rw [← ea]
  exact rabs_any _ w ⟨by omega,by omega⟩ ⟨by omega,by omega⟩
 ·rw [e]
  exact rplus_any _ _ w ⟨by omega,by omega⟩ ⟨by omega,by omega⟩ ⟨by omega,by omega⟩
theorem rv_step {l:List Ms} (h:OkL l) {k:Nat} (q:k < l.length) :
 RvHalf (nYY l) (nXY l) (nth l k).a (nth l k).b (nth l k) (sumL (nxF l) (l.take k)) (sumL (nxF l) (l.take (k + 1)))∧RvHalf (nXX l) (nXY l) (nth l k).b (nth l k).a (nth l k) (sumL (nyF l) (l.take k)) (sumL (nyF l) (l.take (k + 1))):=by
 obtain ⟨⟨a0,a1⟩,⟨b0,b1⟩,⟨c0,c1⟩,_,_⟩:=nrm_bd h
 have o:=h.ok _ (nth_mem q)
 have N:=noi_part h k
 exact ⟨rv_half o c0 c1 b0 b1 o.a0 o.a1 o.b0 o.b1 N.1.1 N.1.2 (sum_take _ q),rv_half o a0 a1 b0 b1 o.b0 o.b1 o.a0 o.a1 N.2.1 N.2.2 (sum_take _ q)⟩
def RvR (l:List Ms) (p:Option Addr) (cap:Nat) (w:World) (bn:Nat) (u:Value) (wr:World):Prop:=∃ k:Nat,u = .int .i64 k∧k≤l.length∧Hid (Below w.heap.size w wr)∧Hid (Blk [.int .i64 (nXX l),.int .i64 (nXY l),.int .i64 (nYY l),.int .i64 (nXZ l),.int .i64 (nYZ l)] bn wr)∧Hid (Blk [.int .i64 (hiW (sumL (nxF l) (l.take k))),.int .u64 (loW (sumL (nxF l) (l.take k)))] w.heap.size wr)∧Hid (Blk [.int .i64 (hiW (sumL (nyF l) (l.take k))),.int .u64 (loW (sumL (nyF l) (l.take k)))] (w.heap.size + 1) wr)
set_option maxHeartbeats 40000000
set_option maxRecDepth 100000
theorem rnoise_any (l:List Ms) (v:Value) (w:World) (h:LstAt l v w) (hc:chkL l = 0) :
 Calls Tryz.prog 113 #[v] w fun e w'=>e = .returned (.tuple #[.agg #[.int .i64 (hiW (noiX l)),.int .u64 (loW (noiX l))],.agg #[.int .i64 (hiW (noiY l)),.int .u64 (loW (noiY l))]])∧Below w.heap.size w w':=by
 obtain ⟨p,cap,rfl⟩:=lst_form h
 have OL:=Lib.hid (okL_of hc)
 have NO:=Lib.hid fun w h=>rnormal_any l (.slice p l.length cap) w h hc
 clear hc
 obtain ⟨A,EA⟩:∃ x,nXX l = x:=⟨_,rfl⟩
 obtain ⟨B,EB⟩:∃ x,nXY l = x:=⟨_,rfl⟩
 obtain ⟨C,EC⟩:∃ x,nYY l = x:=⟨_,rfl⟩
 obtain ⟨D,ED⟩:∃ x,nXZ l = x:=⟨_,rfl⟩
 obtain ⟨E,EE⟩:∃ x,nYZ l = x:=⟨_,rfl⟩
 rw [EA,EB,EC,ED,EE] at NO
 have HA:=Lib.hid EA
 have HBB:=Lib.hid EB
 have HC:=Lib.hid EC
 have HD:=Lib.hid ED
 have HE:=Lib.hid EE
 clear EA EB EC ED EE
 have H0:=Lib.hid h
 obtain ⟨KX,KY,HB⟩:=ent2 w #[.int .i64 0,.int .u64 0] 112 #[.int .i64 0,.int .u64 0] 112
 go_enter Tryz.func113,Tryz.ntmps113
 clear h
 go_wp2_with fail
 generalize (w.alloc _).alloc _ = w0 at *
 refine (NO.out _ (H0.out.below HB.out)).mono ?_
 rintro e1 w1 ⟨rfl,hb1⟩
 refine up2 hb1 HB KX KY ?_
 clear hb1 HB KX KY
 intro HB KX KY
 go_wp2
 obtain ⟨KN,hb2⟩:=alB w1 #[.int .i64 A,.int .i64 B,.int .i64 C,.int .i64 D,.int .i64 E] 160
 have hnN:=HB.out.size
 have nzN_X:=KX.out.lt
 have nzN_Y:=KY.out.lt
 refine up2 hb2 HB KX KY ?_
 clear hb2 HB KX KY
 intro HB KX KY
 generalize w1.alloc _ = w2 at *
 generalize w1.heap.size = bN at *
 have neN_X:bN≠w.heap.size:=by omega
 have neN_Y:bN≠(w.heap.size + 1):=by omega
 clear nzN_X nzN_Y
 go_loopw [19] (RvR l p cap w bN) (fun i _=>l.length - (intOf i).toNat)
 case atStart=>exact ⟨0,rfl,Nat.zero_le _,HB,by rw [HA.out,HBB.out,HC.out,HD.out,HE.out]; exact KN,by rw [List.take_zero]; exact KX,by rw [List.take_zero]; exact KY⟩
 case round =>
  clear HB KN KX KY
  obtain ⟨k,rfl,hk,HB,KN,KX,KY⟩:=hrel
  rw [HA.out,HBB.out,HC.out,HD.out,HE.out] at KN
  by_cases q:k < l.length
  ·have q':decide (k < l.length) = true:=by simpa using q
   obtain ⟨b,o,rfl,hcap,hmax,MM⟩:=lst_at (H0.out.below HB.out) q
   have c0:=MM.c0 k q
   have c1:=MM.c1 k q
   have c2:=MM.c2 k q
   have c3:=MM.c3 k q
   have c4:=MM.c4 k q
   have c5:=MM.c5 k q
   have clt:=MM.lt
   obtain ⟨S1,S2⟩:=rv_step OL.out q
   clear MM
   rw [HC.out,HBB.out] at S1
   rw [HA.out,HBB.out] at S2
   generalize nth l k = m at *
   generalize sumL (nxF l) (l.take k) = U at *
   generalize sumL (nyF l) (l.take k) = V at *
   obtain ⟨U1,EU⟩:∃ x,sumL (nxF l) (l.take (k + 1)) = x:=⟨_,rfl⟩
   obtain ⟨V1,EV⟩:∃ x,sumL (nyF l) (l.take (k + 1)) = x:=⟨_,rfl⟩
   rw [EU] at S1
   rw [EV] at S2
   have HU:=Lib.hid EU
   have HV:=Lib.hid EV
   obtain ⟨s1,s2,s3,s4,mu1,ab1,pl1⟩:=S1
   obtain ⟨t1,t2,t3,t4,mu2,ab2,pl2⟩:=S2
   clear EU EV
   unfold wv at mu1 pl1 mu2 pl2
   unfold wv1 wv at ab1 ab2
   have MU1:=Lib.hid mu1
   have AB1:=Lib.hid ab1
   have PL1:=Lib.hid pl1
   have MU2:=Lib.hid mu2
   have AB2:=Lib.hid ab2
   have PL2:=Lib.hid pl2
   clear ab1 mu1 pl1 ab2 mu2 pl2
   generalize m.w * absZ (C * m.a - B * m.b) * m.d = p1 at *
   generalize m.w * absZ (A * m.b - B * m.a) * m.d = p2 at *
   obtain ⟨e1,hee1⟩:∃ x,m.w * (C * m.a - B * m.b) * m.d = x:=⟨_,rfl⟩
   rw [hee1] at MU1 AB1
   clear hee1
   obtain ⟨e2,hee2⟩:∃ x,m.w * (A * m.b - B * m.a) * m.d = x:=⟨_,rfl⟩
   rw [hee2] at MU2 AB2
   clear hee2
   obtain ⟨yN0,yN1,yN2,yN3,yN4,yNz⟩:=blk5 KN
   go_wp2_with fail
   obtain ⟨KM,hb51⟩:=alB wr #[.int .i64 m.s,.int .i64 m.a,.int .i64 m.b,.int .i64 m.z,.int .i64 m.d,.int .i64 m.w] 71
   have hnM:=HB.out.size
   have nzM_X:=KX.out.lt
   have nzM_Y:=KY.out.lt
   have nzM_N:=KN.out.lt
   refine up3 hb51 HB KX KY KN ?_
   clear hb51 yN0 yN1 yN2 yN3 yN4 yNz HB KX KY KN
   intro HB KX KY KN
   generalize wr.alloc _ = w51 at *
   generalize wr.heap.size = bM at *
   have neM_X:bM≠w.heap.size:=by omega
   have neM_Y:bM≠(w.heap.size + 1):=by omega
   have neM_N:bM≠bN:=by omega
   clear nzM_X nzM_Y nzM_N
   clear c0 c1 c2 c3 c4 c5 clt
   refine (MU1.out _).mono ?_
   rintro e52 w52 ⟨rfl,hb52⟩
   refine up4 hb52 HB KX KY KN KM ?_
   clear hb52 HB KX KY KN KM
   intro HB KX KY KN KM
   go_wp2_with fail
   refine (AB1.out _).mono ?_
   rintro e53 w53 ⟨rfl,hb53⟩
   refine up4 hb53 HB KX KY KN KM ?_
   clear hb53 HB KX KY KN KM
   intro HB KX KY KN KM
   clear s1 s2 s3 s4 MU1 AB1
   obtain ⟨yN0,yN1,yN2,yN3,yN4,yNz⟩:=blk5 KN
   obtain ⟨yM0,yM1,yM2,yM3,yM4,yM5,yMz⟩:=blk6 KM
   go_wp2_with fail
   obtain ⟨KP,hb54⟩:=alB w53 #[.int .i64 (hiW p1),.int .u64 (loW p1)] 112
   have hnP:=HB.out.size
   have nzP_X:=KX.out.lt
   have nzP_Y:=KY.out.lt
   have nzP_N:=KN.out.lt
   have nzP_M:=KM.out.lt
   refine up4 hb54 HB KX KY KN KM ?_
   clear hb54 yN0 yN1 yN2 yN3 yN4 yNz yM0 yM1 yM2 yM3 yM4 yM5 yMz HB KX KY KN KM
   intro HB KX KY KN KM
   generalize w53.alloc _ = w54 at *
   generalize w53.heap.size = bP at *
   have neP_X:bP≠w.heap.size:=by omega
   have neP_Y:bP≠(w.heap.size + 1):=by omega
   have neP_N:bP≠bN:=by omega
   have neP_M:bP≠bM:=by omega
   clear nzP_X nzP_Y nzP_N nzP_M
   refine (MU2.out _).mono ?_
   rintro e55 w55 ⟨rfl,hb55⟩
   refine up5 hb55 HB KX KY KN KM KP ?_
   clear hb55 HB KX KY KN KM KP
   intro HB KX KY KN KM KP
   go_wp2_with fail
   refine (AB2.out _).mono ?_
   rintro e56 w56 ⟨rfl,hb56⟩
   refine up5 hb56 HB KX KY KN KM KP ?_
   clear hb56 HB KX KY KN KM KP
   intro HB KX KY KN KM KP
   clear t1 t2 t3 t4 MU2 AB2
   go_wp2_with fail
   obtain ⟨KQ,hb57⟩:=alB w56 #[.int .i64 (hiW p2),.int .u64 (loW p2)] 112
   have hnQ:=HB.out.size
   have nzQ_X:=KX.out.lt
   have nzQ_Y:=KY.out.lt
   have nzQ_N:=KN.out.lt
   have nzQ_M:=KM.out.lt
   have nzQ_P:=KP.out.lt
   refine up5 hb57 HB KX KY KN KM KP ?_
   clear hb57 HB KX KY KN KM KP
   intro HB KX KY KN KM KP
   generalize w56.alloc _ = w57 at *
   generalize w56.heap.size = bQ at *
   have neQ_X:bQ≠w.heap.size:=by omega
   have neQ_Y:bQ≠(w.heap.size + 1):=by omega
   have neQ_N:bQ≠bN:=by omega
   have neQ_M:bQ≠bM:=by omega
   have neQ_P:bQ≠bP:=by omega
   clear nzQ_X nzQ_Y nzQ_N nzQ_M nzQ_P
   have gX_0:=fun d os=>cell_regrown (KX.out.c 0 _ rfl) d os
   have gX_1:=fun d os=>cell_regrown (KX.out.c 1 _ rfl) d os
   have gP_0:=fun d os=>cell_regrown (KP.out.c 0 _ rfl) d os
   have gP_1:=fun d os=>cell_regrown (KP.out.c 1 _ rfl) d os
   have gY_0:=fun d os=>cell_regrown (KY.out.c 0 _ rfl) d os
   have gY_1:=fun d os=>cell_regrown (KY.out.c 1 _ rfl) d os
   have gQ_0:=fun d os=>cell_regrown (KQ.out.c 0 _ rfl) d os
   have gQ_1:=fun d os=>cell_regrown (KQ.out.c 1 _ rfl) d os
   have rv0:=Lib.hid (fun d os=>Calls.regrown_of (PL1.out (Go.Sort.grow (redrawn w57 d) os)))
   have rv1:=Lib.hid (fun d os=>Calls.regrown_of (PL2.out (Go.Sort.grow (redrawn w57 d) os)))
   refine wp_region_quiet_below_tail 6 (by kernel_rfl) (by kernel_rfl) ?_
   simp only [List.take_succ_cons,List.take_zero,List.drop_succ_cons,List.drop_zero]
   repeat (quiet_step (first | with_reducible exact rv0.out _ _ | with_reducible exact rv1.out _ _))
   refine wpQuiet_nil ?_
   intro w58 hw58
   have hb58:Below w57.heap.size w57 w58:=by
    obtain ⟨⟨dq,osq⟩,hw2⟩:=hw58
    rw [hw2]; exact below_regrown _ dq osq
   clear gX_0 gX_1 gP_0 gP_1 gY_0 gY_1 gQ_0 gQ_1 rv0 rv1 hw58
   refine up6 hb58 HB KX KY KN KM KP KQ ?_
   clear hb58 HB KX KY KN KM KP KQ
   intro HB KX KY KN KM KP KQ
   obtain ⟨yX0,yX1,yXz,yXf0,yXf1⟩:=blf2 KX
   obtain ⟨yY0,yY1,yYz,yYf0,yYf1⟩:=blf2 KY
   go_wp2
   replace KX:=kst (kst KX 0 (.int .i64 (hiW U1))) 1 (.int .u64 (loW U1))
   refine ot5 (st2 w58 w.heap.size 0 (.int .i64 (hiW U1)) 1 (.int .u64 (loW U1))) HB KY KN KM KP KQ (by omega) (by omega) (by omega) (by omega) (by omega) (by omega) ?_
   clear HB KY KN KM KP KQ
   intro HB KY KN KM KP KQ
   clear yX0 yX1 yXz yXf0 yXf1 yY0 yY1 yYz yYf0 yYf1
   simp only [List.set] at KX
   replace KY:=kst (kst KY 0 (.int .i64 (hiW V1))) 1 (.int .u64 (loW V1))
   refine ot5 (st2 ((w58.setCell ⟨w.heap.size,0,none⟩ (.int .i64 (hiW U1))).setCell ⟨w.heap.size,1,none⟩ (.int .u64 (loW U1))) (w.heap.size + 1) 0 (.int .i64 (hiW V1)) 1 (.int .u64 (loW V1))) HB KX KN KM KP KQ (by omega) (by omega) (by omega) (by omega) (by omega) (by omega) ?_
   clear HB KX KN KM KP KQ
   intro HB KX KN KM KP KQ
   generalize (((w58.setCell _ _).setCell _ _).setCell _ _).setCell _ _ = w60 at *
   simp only [List.set] at KY
   exact ⟨⟨k + 1,by go_num,by omega,HB,by rw [HA.out,HBB.out,HC.out,HD.out,HE.out]; exact KN,by rw [HU.out]; exact KX,by rw [HV.out]; exact KY⟩,by simp [intOf]; omega⟩
  ·obtain rfl:k = l.length:=by omega
   rw [List.take_length] at KX KY
   rw [← noiX_is] at KX
   rw [← noiY_is] at KY
   obtain ⟨U,EU⟩:∃ x,noiX l = x:=⟨_,rfl⟩
   obtain ⟨V,EV⟩:∃ x,noiY l = x:=⟨_,rfl⟩
   rw [EU] at KX
   rw [EV] at KY
   have HU:=Lib.hid EU
   have HV:=Lib.hid EV
   clear EU EV
   obtain ⟨yX0,yX1,yXz,yXf0,yXf1⟩:=blf2 KX
   obtain ⟨yY0,yY1,yYz,yYf0,yYf1⟩:=blf2 KY
   go_wp2_with fail
   go_region
   replace KX:=kst (kst KX 0 (.int .i64 (hiW U))) 1 (.int .u64 (loW U))
   refine ot2 (st2 wr w.heap.size 0 (.int .i64 (hiW U)) 1 (.int .u64 (loW U))) HB KY KN (by omega) (by omega) (by omega) ?_
   clear HB KY KN
   intro HB KY KN
   clear yX0 yX1 yXz yXf0 yXf1 yY0 yY1 yYz yYf0 yYf1
   simp only [List.set] at KX
   replace KY:=kst (kst KY 0 (.int .i64 (hiW V))) 1 (.int .u64 (loW V))
   refine ot2 (st2 ((wr.setCell ⟨w.heap.size,0,none⟩ (.int .i64 (hiW U))).setCell ⟨w.heap.size,1,none⟩ (.int .u64 (loW U))) (w.heap.size + 1) 0 (.int .i64 (hiW V)) 1 (.int .u64 (loW V))) HB KX KN (by omega) (by omega) (by omega) ?_
   clear HB KX KN
   intro HB KX KN
   simp only [List.set] at KY
   replace KX:=Lib.hid (blk_drew1 KX.out)
   replace KY:=Lib.hid (blk_drew1 KY.out)
   replace KN:=Lib.hid (blk_drew1 KN.out)
   replace HB:=Lib.hid (below_drew1 HB.out)
   generalize (((((wr.setCell ⟨w.heap.size,0,none⟩ (.int .i64 (hiW U))).setCell ⟨w.heap.size,1,none⟩ (.int .u64 (loW U))).setCell ⟨(w.heap.size + 1),0,none⟩ (.int .i64 (hiW V))).setCell ⟨(w.heap.size + 1),1,none⟩ (.int .u64 (loW V)))).drew = w53 at *
   obtain ⟨yX0,yX1,yXz⟩:=blk2 KX
   obtain ⟨yY0,yY1,yYz⟩:=blk2 KY
   go_wp2
   refine bodyPost_ret (v:=.tuple #[.agg #[.int .i64 (hiW U),.int .u64 (loW U)],.agg #[.int .i64 (hiW V),.int .u64 (loW V)]]) (by simp [results,Tryz.results113,go_sem,yX0,yX1,yY0,yY1]) rfl ⟨by rw [HU.out,HV.out],HB.out⟩
end Go.Proofs.YtajmjkliblippaaGreatDoor
namespace Go.Proofs.YtajmjkliblippaaGreatDoor
open Go.RowKit
theorem oi_at {B:Nat} {w:World} {g cap:Nat} {l:List Int} (h:OI B w (.slice (some ⟨g,0,none⟩) l.length cap) l):B≤g∧g < w.heap.size∧l.length≤cap∧(∀ i,i < l.length→w.cell? ⟨g,i,none⟩ = some (.int .i64 (l.getD i 0)))∧∀ j,w.frozen? ⟨g,j,none⟩ = false:=by
 rcases oi_cases h with ⟨e,_⟩ | ⟨g',cap',e,h2,h3,h4,h5⟩
 ·cases e
 ·cases e
  exact ⟨h4,h5.lt,h2,h5.c,fun j=>World.ownsRow.frozenAt h j⟩
theorem inC_set (l:List Int) (j:Nat) (x:Int):inC (l.set j x) = (inC l).set j (.int .i64 x):=by
 unfold inC
 rw [List.map_set]
def SRa (l:List Ms) (w:World) (v s:Value) (wr:World):Prop:=∃ k:Nat,s = .int .i64 k∧k≤l.length∧∃ g cap,v = .slice (some ⟨g,0,none⟩) (refK l k).length cap∧Hid (Below w.heap.size w wr)∧Hid (OI w.heap.size wr (.slice (some ⟨g,0,none⟩) (refK l k).length cap) (refK l k))
def SRb (w:World) (out:List Int) (m:Ms) (bm g cap:Nat) (s:Value) (wr:World):Prop:=∃ i:Nat,s = .int .i64 i∧i≤out.length∧Hid (∀ j,j < i→out.getD j 0 < m.s)∧Hid (Below w.heap.size w wr)∧Hid (OI w.heap.size wr (.slice (some ⟨g,0,none⟩) out.length cap) out)∧Hid (CopyAt m bm wr)
def SRc (w:World) (out:List Int) (i:Nat) (m:Ms) (bm g N cap:Nat) (s:Value) (wr:World):Prop:=∃ j:Nat,s = .int .i64 j∧i≤j∧j≤out.length∧Hid (Below w.heap.size w wr)∧Hid (OI w.heap.size wr (.slice (some ⟨g,0,none⟩) N cap) (shS out j))∧Hid (CopyAt m bm wr)
set_option maxHeartbeats 100000000
set_option maxRecDepth 100000
theorem srcref_some (l:List Ms) (b o cap:Nat) (w:World) (h:MsAt l b o w) (hc:l.length≤cap) (hm:cap≤9223372036854775807) (hl:l.length≤1000) :
 Calls Tryz.prog 110 #[.slice (some ⟨b,o,none⟩) l.length cap] w fun e w'=>(∃ u,e = .returned u∧OI w.heap.size w' u (srcL l))∧Below w.heap.size w w':=by
 have H:=Lib.hid h
 have hlt:=h.lt
 clear h
 go_enter Tryz.func110,Tryz.ntmps110
 go_wp2_with fail
 go_loopw [3,11] (SRa l w) (fun _ i _=>l.length - (intOf i).toNat)
 case atStart=>exact ⟨0,rfl,Nat.zero_le _,_,0,rfl,Lib.hid ((Below.refl _ _).alloc (Nat.le_refl _) _),Lib.hid (World.ownsRow_lit w #[] 0 (Nat.le_refl _) (by decide) rfl)⟩
 case round =>
  obtain ⟨k,rfl,hk,g,cp,rfl,HB,HO⟩:=hrel
  by_cases q:k < l.length
  ·have q':decide (k < l.length) = true:=by simpa using q
   have M:=H.out.keep HB.out hlt
   have c0:=M.c0 k q
   have c1:=M.c1 k q
   have c2:=M.c2 k q
   have c3:=M.c3 k q
   have c4:=M.c4 k q
   have c5:=M.c5 k q
   have RK:=Lib.hid (refK_succ q)
   have lk:=Nat.le_trans (refK_len (l:=l) (k:=k)) hl
   clear M
   generalize nth l k = m at *
   generalize refK l k = out at *
   have CO:=Lib.hid (copy_new m wr 71)
   have HB1:=Lib.hid (HB.out.alloc HB.out.size (.cells #[.int .i64 m.s,.int .i64 m.a,.int .i64 m.b,.int .i64 m.z,.int .i64 m.d,.int .i64 m.w] 71))
   have HO1:=Lib.hid (HO.out.below ((Below.refl _ _).alloc (Nat.le_refl _) (.cells #[.int .i64 m.s,.int .i64 m.a,.int .i64 m.b,.int .i64 m.z,.int .i64 m.d,.int .i64 m.w] 71)))
   have NG:=Lib.hid (show g≠wr.heap.size from fun e=>by have:=(oi_at HO.out).2.1; omega)
   clear HB HO
   go_wp2_with fail
   generalize wr.heap.size = bm at *
   generalize wr.alloc _ = wo at *
   clear c0 c1 c2 c3 c4 c5
   go_loopw [6] (SRb w out m bm g cp) (fun i _=>out.length - (intOf i).toNat)
   case atStart=>exact ⟨0,rfl,Nat.zero_le _,Lib.hid (fun j hj=>absurd hj (by omega)),HB1,HO1,CO⟩
   case round =>
    obtain ⟨i,rfl,hi,HJ,HB,HO,HM⟩:=hrel
    have cm:=HM.out
    have y0:=cm.c0
    have yz:=cm.lt
    clear cm
    obtain ⟨a1,a2,a3,a4,-⟩:=oi_at HO.out
    have key:(decide (i < out.length) = true∧i < out.length∧decide (out.getD i 0 < m.s) = true)∨((decide (i < out.length) = true∧decide (out.getD i 0 < m.s) = false∧((i:Int) == (out.length:Int)) = false∧(out.getD i 0 != m.s) = false)∧insI out m.s = out∧i < out.length)∨(((decide (i < out.length) = true∧decide (out.getD i 0 < m.s) = false∧((i:Int) == (out.length:Int)) = false∧(out.getD i 0 != m.s) = true∧i < out.length)∨(decide (i < out.length) = false∧((i:Int) == (out.length:Int)) = true∧i = out.length))∧insI out m.s = out.take i ++ m.s :: out.drop i):=by
     by_cases z1:i < out.length
     ·by_cases z2:out.getD i 0 < m.s
      ·exact .inl ⟨by simpa using z1,z1,by simpa using z2⟩
      ·have IA:=ins_at m.s out i HJ.out hi (.inr z2)
       by_cases z3:out.getD i 0 = m.s
       ·rw [if_neg (by rintro (e | e); omega; exact e z3)] at IA
        exact .inr (.inl ⟨⟨by simpa using z1,by simpa using z2,by rw [beq_eq_false_iff_ne]; omega,by rw [z3]; simp⟩,IA,z1⟩)
       ·rw [if_pos (.inr z3)] at IA
        exact .inr (.inr ⟨.inl ⟨by simpa using z1,by simpa using z2,by rw [beq_eq_false_iff_ne]; omega,by simpa using z3,z1⟩,IA⟩)
     ·obtain rfl:i = out.length:=by omega
      have IA:=ins_at m.s out out.length HJ.out (Nat.le_refl _) (.inl rfl)
      rw [if_pos (.inl rfl)] at IA
      exact .inr (.inr ⟨.inr ⟨by simp,by simp,rfl⟩,IA⟩)
    rcases key with ⟨k1,z1,k2⟩ | ⟨⟨k1,k2,k3,k4⟩,IA,z1⟩ | ⟨key,IA⟩
    ·have d0:=a4 i z1
     clear a4
     have k2s:=Lib.hid k2
     generalize hx:out.getD i 0 = x at *
     have HX:=Lib.hid hx
     clear hx
     go_wp2_with fail
     go_quiet (fail)
     go_wp2
     go_roundw
     case rel =>
      have hb:=below_drewN (Below.refl wr.heap.size wr) nq
      exact ⟨i + 1,by go_num,by omega,Lib.hid (fun j hj=>(Nat.lt_or_ge j i).elim (fun qq=>HJ.out j qq) (fun qq=>by rw [show j = i by omega,HX.out]; simpa using k2s.out)),Lib.hid (HB.out.trans (hb.mono HB.out.size)),Lib.hid (HO.out.below hb),Lib.hid (HM.out.below hb)⟩
     case measure=>simp [intOf]; omega
    ·have d0:=a4 i z1
     clear a4
     have HIA:=Lib.hid IA
     generalize out.getD i 0 = x at *
     clear IA
     go_wp2_with fail
     go_quiet (fail)
     generalize hnq:nq = nq1 at *
     go_wp2_with fail
     go_quiet (fail)
     go_wp2
     go_roundw
     case rel =>
      have hb:=(below_drewN (Below.refl wr.heap.size wr) (nq1 + nq))
      exact ⟨k + 1,by go_num,by omega,g,cp,by rw [RK.out,HIA.out],Lib.hid (HB.out.trans (hb.mono HB.out.size)),by rw [RK.out,HIA.out]; exact Lib.hid (HO.out.below hb)⟩
     case measure=>simp [intOf]; omega
    ·have HIA:=Lib.hid IA
     clear IA
     rcases key with ⟨k1,k2,k3,k4,z1⟩ | ⟨k1,k3,z1⟩
     ·have d0:=a4 i z1
      clear a4
      generalize out.getD i 0 = x at *
      go_wp2_with fail
      go_quiet (fail)
      generalize hnq:nq = nq1 at *
      go_wp2_with fail
      go_quiet (fail)
      have hbq:Below wr.heap.size wr (wr.drewN (nq1 + nq)):=below_drewN (Below.refl wr.heap.size wr) _
      have HBq:=Lib.hid (HB.out.trans (hbq.mono HB.out.size))
      have HOq:=Lib.hid (HO.out.below hbq)
      have HMq:=Lib.hid (HM.out.below hbq)
      go_wp2_with (at_builtin; refine Halt.mk ?_)
      unfold Halt
      have HWS:Hid (wr.heap.size = (wr.drewN (nq1 + nq)).heap.size):=Lib.hid rfl
      generalize wr.drewN (nq1 + nq) = wq at *
      clear HB HO HM hbq y0 yz a1 a2 a3
      refine wpList_oi rfl (.tmp 43) (.tmp 44) rfl w.heap.size (.slice (some ⟨g,0,none⟩) out.length cp) out rfl wq HOq.out _ 0 1 (by rw [← HWS.out]; rfl) (by omega) HBq.out.size ?_
      intro u2 w5 ho5 hg5 hat5
      have HBa:=Lib.hid ((Below.refl wq.heap.size wq).alloc (Nat.le_refl _) (.cells #[.int .i64 0] 3))
      have HB5:Hid (Below w.heap.size w w5):=Lib.hid (below_grown (HBq.out.trans (HBa.out.mono HBq.out.size)) hg5 (by simp; have:=HBq.out.size; omega) (fun k hk=>(World.ownsRow.lt HOq.out k hk).1))
      have HM5:Hid (CopyAt m bm w5):=Lib.hid ((HMq.out.below HBa.out).same (hg5.block bm (by rw [World.size_alloc]; have:=HMq.out.lt; omega) (fun e=>NG.out (Option.some.inj e).symm)) hg5.size)
      obtain ⟨g5,cap5,hu2⟩:=Go.Joins.ownsRow_form ho5 (show 0 < (out ++ [0]).length by rw [List.length_append,List.length_singleton]; omega)
      rw [List.length_append,List.length_singleton] at hu2
      subst hu2
      have NG5:=Lib.hid (show g5≠bm from by rcases hat5 with h | h; exact fun e=>NG.out ((Option.some.inj h).symm.trans e); intro e; have h2:g5 = wq.heap.size + 1:=Option.some.inj h; have:=HMq.out.lt; omega)
      have HO5:Hid (OI w.heap.size w5 (.slice (some ⟨g5,0,none⟩) (out.length + 1) cap5) (shS out out.length)):=Lib.hid (by rw [shS_top]; exact ho5)
      clear hg5 hat5 ho5
      go_wp2_with fail
      go_loopw [7] (SRc w out i m bm g5 (out.length + 1) cap5) (fun j _=>(intOf j).toNat)
      case atStart=>exact ⟨out.length,by go_num,by omega,Nat.le_refl _,HB5,HO5,HM5⟩
      case round =>
       obtain ⟨j,rfl,hij,hj,HB,HO,HM⟩:=hrel
       have OA:=HO.out
       rw [← shS_len out j hj] at OA
       obtain ⟨a1,a2,a3,a4,a5⟩:=oi_at OA
       rw [shS_len out j hj] at a4
       by_cases r:i < j
       ·obtain ⟨j,rfl⟩:∃ j',j = j' + 1:=⟨j - 1,by omega⟩
        have r':decide ((i:Int) < (j:Int) + 1) = true:=by simpa using (show (i:Int) < (j:Int) + 1 by omega)
        have x0:=a4 j (by omega)
        rw [shS_get out j (by omega)] at x0
        have x1:=a4 (j + 1) (by omega)
        have f1:=a5 (j + 1)
        have z1:j + 1 < out.length + 1:=by omega
        have z2:j < out.length + 1:=by omega
        have SS:=Lib.hid (shS_set out j (by omega))
        have SL:=Lib.hid (shS_len out j (by omega))
        clear a4 a5 OA
        generalize out.getD j 0 = x at *
        generalize (shS out (j + 1)).getD (j + 1) 0 = x' at *
        go_wp2_with fail
        go_roundw
        case rel =>
         have S1:=World.ownsRow.stored (show wr.ownsRow w.heap.size 3 1 (.slice (some ⟨g5,0,none⟩) (out.length + 1) cap5) (out.length + 1) (inC (shS out (j + 1))) by have:=HO.out; unfold OI at this; rw [shS_len out (j + 1) hj] at this; exact this) (j + 1) (.int .i64 x)
         refine ⟨j,by go_num,by omega,by omega,Lib.hid (below_grown HB.out S1.2 HB.out.size (fun k hk=>by cases hk; exact a1)),Lib.hid ?_,Lib.hid (HM.out.same (S1.2.block bm HM.out.lt (fun e=>NG5.out (Option.some.inj e).symm)) S1.2.size)⟩
         unfold OI
         rw [SL.out,← SS.out,inC_set]
         exact S1.1
        case measure=>simp [intOf] <;> omega
       ·obtain rfl:j = i:=by omega
        have r':decide ((j:Int) < (j:Int)) = false:=by simp
        have cm:=HM.out
        have y0:=cm.c0
        have yz:=cm.lt
        have x1:=a4 j (by omega)
        have f1:=a5 j
        have z1:j < out.length + 1:=by omega
        have SI:=Lib.hid (shS_ins m.s out j hj)
        clear a4 a5 OA cm
        generalize (shS out j).getD j 0 = x' at *
        go_wp2_with fail
        go_roundw
        case rel =>
         have S1:=World.ownsRow.stored (show wr.ownsRow w.heap.size 3 1 (.slice (some ⟨g5,0,none⟩) (out.length + 1) cap5) (out.length + 1) (inC (shS out j)) by have:=HO.out; unfold OI at this; rw [shS_len out j hj] at this; exact this) j (.int .i64 m.s)
         have LN:(insI out m.s).length = out.length + 1:=by rw [HIA.out,← SI.out,List.length_set,shS_len out j hj]
         refine ⟨k + 1,by go_num,by omega,g5,cap5,by rw [RK.out,LN],Lib.hid (below_grown HB.out S1.2 HB.out.size (fun k hk=>by cases hk; exact a1)),Lib.hid ?_⟩
         rw [RK.out,LN]
         unfold OI
         rw [LN,HIA.out,← SI.out,inC_set]
         exact S1.1
        case measure=>simp [intOf]; omega
     ·clear a4 z1
      go_wp2_with fail
      go_quiet (fail)
      generalize hnq:nq = nq1 at *
      go_wp2_with fail
      go_quiet (fail)
      have hbq:Below wr.heap.size wr (wr.drewN (nq1 + nq)):=below_drewN (Below.refl wr.heap.size wr) _
      have HBq:=Lib.hid (HB.out.trans (hbq.mono HB.out.size))
      have HOq:=Lib.hid (HO.out.below hbq)
      have HMq:=Lib.hid (HM.out.below hbq)
      go_wp2_with (at_builtin; refine Halt.mk ?_)
      unfold Halt
      have HWS:Hid (wr.heap.size = (wr.drewN (nq1 + nq)).heap.size):=Lib.hid rfl
      generalize wr.drewN (nq1 + nq) = wq at *
      clear HB HO HM hbq y0 yz a1 a2 a3
      refine wpList_oi rfl (.tmp 43) (.tmp 44) rfl w.heap.size (.slice (some ⟨g,0,none⟩) out.length cp) out rfl wq HOq.out _ 0 1 (by rw [← HWS.out]; rfl) (by omega) HBq.out.size ?_
      intro u2 w5 ho5 hg5 hat5
      have HBa:=Lib.hid ((Below.refl wq.heap.size wq).alloc (Nat.le_refl _) (.cells #[.int .i64 0] 3))
      have HB5:Hid (Below w.heap.size w w5):=Lib.hid (below_grown (HBq.out.trans (HBa.out.mono HBq.out.size)) hg5 (by simp; have:=HBq.out.size; omega) (fun k hk=>(World.ownsRow.lt HOq.out k hk).1))
      have HM5:Hid (CopyAt m bm w5):=Lib.hid ((HMq.out.below HBa.out).same (hg5.block bm (by rw [World.size_alloc]; have:=HMq.out.lt; omega) (fun e=>NG.out (Option.some.inj e).symm)) hg5.size)
      obtain ⟨g5,cap5,hu2⟩:=Go.Joins.ownsRow_form ho5 (show 0 < (out ++ [0]).length by rw [List.length_append,List.length_singleton]; omega)
      rw [List.length_append,List.length_singleton] at hu2
      subst hu2
      have NG5:=Lib.hid (show g5≠bm from by rcases hat5 with h | h; exact fun e=>NG.out ((Option.some.inj h).symm.trans e); intro e; have h2:g5 = wq.heap.size + 1:=Option.some.inj h; have:=HMq.out.lt; omega)
      have HO5:Hid (OI w.heap.size w5 (.slice (some ⟨g5,0,none⟩) (out.length + 1) cap5) (shS out out.length)):=Lib.hid (by rw [shS_top]; exact ho5)
      clear hg5 hat5 ho5
      go_wp2_with fail
      go_loopw [7] (SRc w out i m bm g5 (out.length + 1) cap5) (fun j _=>(intOf j).toNat)
      case atStart=>exact ⟨out.length,by go_num,by omega,Nat.le_refl _,HB5,HO5,HM5⟩
      case round =>
       obtain ⟨j,rfl,hij,hj,HB,HO,HM⟩:=hrel
       have OA:=HO.out
       rw [← shS_len out j hj] at OA
       obtain ⟨a1,a2,a3,a4,a5⟩:=oi_at OA
       rw [shS_len out j hj] at a4
       by_cases r:i < j
       ·obtain ⟨j,rfl⟩:∃ j',j = j' + 1:=⟨j - 1,by omega⟩
        have r':decide ((i:Int) < (j:Int) + 1) = true:=by simpa using (show (i:Int) < (j:Int) + 1 by omega)
        have x0:=a4 j (by omega)
        rw [shS_get out j (by omega)] at x0
        have x1:=a4 (j + 1) (by omega)
        have f1:=a5 (j + 1)
        have z1:j + 1 < out.length + 1:=by omega
        have z2:j < out.length + 1:=by omega
        have SS:=Lib.hid (shS_set out j (by omega))
        have SL:=Lib.hid (shS_len out j (by omega))
        clear a4 a5 OA
        generalize out.getD j 0 = x at *
        generalize (shS out (j + 1)).getD (j + 1) 0 = x' at *
        go_wp2_with fail
        go_roundw
        case rel =>
         have S1:=World.ownsRow.stored (show wr.ownsRow w.heap.size 3 1 (.slice (some ⟨g5,0,none⟩) (out.length + 1) cap5) (out.length + 1) (inC (shS out (j + 1))) by have:=HO.out; unfold OI at this; rw [shS_len out (j + 1) hj] at this; exact this) (j + 1) (.int .i64 x)
         refine ⟨j,by go_num,by omega,by omega,Lib.hid (below_grown HB.out S1.2 HB.out.size (fun k hk=>by cases hk; exact a1)),Lib.hid ?_,Lib.hid (HM.out.same (S1.2.block bm HM.out.lt (fun e=>NG5.out (Option.some.inj e).symm)) S1.2.size)⟩
         unfold OI
         rw [SL.out,← SS.out,inC_set]
         exact S1.1
        case measure=>simp [intOf] <;> omega
       ·obtain rfl:j = i:=by omega
        have r':decide ((j:Int) < (j:Int)) = false:=by simp
        have cm:=HM.out
        have y0:=cm.c0
        have yz:=cm.lt
        have x1:=a4 j (by omega)
        have f1:=a5 j
        have z1:j < out.length + 1:=by omega
        have SI:=Lib.hid (shS_ins m.s out j hj)
        clear a4 a5 OA cm
        generalize (shS out j).getD j 0 = x' at *
        go_wp2_with fail
        go_roundw
        case rel =>
         have S1:=World.ownsRow.stored (show wr.ownsRow w.heap.size 3 1 (.slice (some ⟨g5,0,none⟩) (out.length + 1) cap5) (out.length + 1) (inC (shS out j)) by have:=HO.out; unfold OI at this; rw [shS_len out j hj] at this; exact this) j (.int .i64 m.s)
         have LN:(insI out m.s).length = out.length + 1:=by rw [HIA.out,← SI.out,List.length_set,shS_len out j hj]
         refine ⟨k + 1,by go_num,by omega,g5,cap5,by rw [RK.out,LN],Lib.hid (below_grown HB.out S1.2 HB.out.size (fun k hk=>by cases hk; exact a1)),Lib.hid ?_⟩
         rw [RK.out,LN]
         unfold OI
         rw [LN,HIA.out,← SI.out,inC_set]
         exact S1.1
        case measure=>simp [intOf]; omega
  ·obtain rfl:k = l.length:=by omega
   go_wp2
   go_ret
   exact ⟨⟨_,rfl,by rw [← refK_eq]; exact HO.out⟩,HB.out⟩
end Go.Proofs.YtajmjkliblippaaGreatDoor
namespace Go.Proofs.YtajmjkliblippaaGreatDoor
open Go.RowKit
theorem srcref_nil (w:World) :
 Calls Tryz.prog 110 #[.slice none 0 0] w fun e w'=>(∃ u,e = .returned u∧OI w.heap.size w' u (srcL []))∧Below w.heap.size w w':=by
 go_enter Tryz.func110,Tryz.ntmps110
 go_wp2
 go_loop [3,11] (fun u v=>u = .slice (some ⟨w.heap.size,0,none⟩) 0 0∧v = .int .i64 0) (fun _ _=>0)
 case atStart=>exact ⟨rfl,rfl⟩
 case round =>
  obtain ⟨rfl,rfl⟩:=hrel
  go_wp2
  go_ret
  have e:srcL [] = []:=by unfold srcL srtL; rw [List.map_nil,List.mergeSort_nil]; rfl
  exact ⟨⟨_,rfl,by rw [e]; exact World.ownsRow_lit w #[] 0 (Nat.le_refl _) (by decide) rfl⟩,(Below.refl _ _).alloc (Nat.le_refl _) _⟩
theorem srcref_any (l:List Ms) (v:Value) (w:World) (h:LstAt l v w) (hl:l.length≤1000) :
 Calls Tryz.prog 110 #[v] w fun e w'=>(∃ u,e = .returned u∧OI w.heap.size w' u (srcL l))∧Below w.heap.size w w':=by
 rcases h with ⟨rfl,rfl⟩ | ⟨b,o,cap,rfl,h2,h3,h4⟩
 ·exact srcref_nil w
 ·exact srcref_some l b o cap w h4 h2 h3 hl
end Go.Proofs.YtajmjkliblippaaGreatDoor
namespace Go.Proofs.YtajmjkliblippaaGreatDoor.S41
open Go.RowKit Tr Sq
set_option maxHeartbeats 4000000
set_option maxRecDepth 100000
theorem rows_pos_ref (s x y v b wt t cx cy bx b2:Int) (w:World) (hk:checkI s 1 x y v b wt t = 0) (hx:wrap64 (256 * x) = 256 * x) (hy:wrap64 (256 * y) = 256 * y) (hb2:wrap64 (256 * b) = 256 * b) (hv:boxV cx cy bx b2 = true):Calls Tryz.prog 36 #[.agg #[.int .i64 s,.int .u8 1,.int .i64 x,.int .i64 y,.int .i64 v,.int .i64 b,.int .i64 wt,.int .i64 t],.agg #[.int .i64 cx,.int .i64 cy,.int .i64 bx,.int .i64 b2]] w fun e w'=>∃ u,e = .returned (.tuple #[u,.int .i64 0])∧RowsIs w [⟨s,256,0,256 * x,256 * b,wt⟩,⟨s,0,256,256 * y,256 * b,wt⟩] u w'∧Below w.heap.size w w':=by
 have HX:=Lib.hid hx
 have HY:=Lib.hid hy
 have HB:=Lib.hid hb2
 clear hx hy hb2
 have C1:=Lib.hid (fun w=>check_ref s 1 x y v b wt t w (by decide) (by decide))
 have V1:=Lib.hid (fun w=>boxv_ref cx cy bx b2 w)
 rw [hk] at C1
 rw [hv] at V1
 clear hk hv
 go_enter Tryz.func36,Tryz.ntmps36
 go_wp2_with fail
 refine (C1.out _).mono ?_
 rintro e w1 ⟨rfl,hb⟩
 obtain ⟨hc,hf⟩:=bcell hb
 have hz0:w.heap.size < w1.heap.size:=by have:=hb.size; simp at this; omega
 have hz1:w.heap.size + 1 < w1.heap.size:=by have:=hb.size; simp at this; omega
 have hA:Below w.heap.size w w1:=(((Below.refl _ _).alloc (Nat.le_refl _) _).alloc (by simp) _).trans (hb.mono (by simp; omega))
 go_wp2_with fail
 refine (V1.out _).mono ?_
 rintro e w2 ⟨rfl,hb2⟩
 obtain ⟨hc2,hf2⟩:=bcell hb2
 have hz2:w.heap.size < w2.heap.size:=Nat.lt_of_lt_of_le hz0 hb2.size
 have hz3:w.heap.size + 1 < w2.heap.size:=Nat.lt_of_lt_of_le hz1 hb2.size
 have hB:=Lib.hid (hA.trans (hb2.mono hA.size))
 go_upto_region 10 with fail
 generalize wrap64 (256 * b) = M at *
 have R0:RepIs w2 w.heap.size s 1 x y v b wt t:=by unfold RepIs; refine ⟨?_,?_,?_,?_,?_,?_,?_,?_⟩ <;> go_simp
 have R2:=R0.keep (((Below.refl w2.heap.size w2).alloc (Nat.le_refl _) (.cells #[.int .i64 s,.int .i64 0,.int .i64 0,.int .i64 0,.int .i64 M,.int .i64 wt] 71)).alloc (by simp) (.cells #[.int .i64 s,.int .i64 0,.int .i64 0,.int .i64 0,.int .i64 M,.int .i64 wt] 71)) hz2
 obtain ⟨P,Q⟩:=two_six w2 ⟨s,0,0,0,M,wt⟩ 71
 have hB7:=Lib.hid ((hB.out.alloc hB.out.size (.cells #[.int .i64 s,.int .i64 0,.int .i64 0,.int .i64 0,.int .i64 M,.int .i64 wt] 71)).alloc (by have:=hB.out.size; simp; omega) (.cells #[.int .i64 s,.int .i64 0,.int .i64 0,.int .i64 0,.int .i64 M,.int .i64 wt] 71))
 have hp1:w2.heap.size < ((w2.alloc (.cells #[.int .i64 s,.int .i64 0,.int .i64 0,.int .i64 0,.int .i64 M,.int .i64 wt] 71)).alloc (.cells #[.int .i64 s,.int .i64 0,.int .i64 0,.int .i64 0,.int .i64 M,.int .i64 wt] 71)).heap.size:=by simp; omega
 have hq1:w2.heap.size + 1 < ((w2.alloc (.cells #[.int .i64 s,.int .i64 0,.int .i64 0,.int .i64 0,.int .i64 M,.int .i64 wt] 71)).alloc (.cells #[.int .i64 s,.int .i64 0,.int .i64 0,.int .i64 0,.int .i64 M,.int .i64 wt] 71)).heap.size:=by simp
 clear R0 hb hc hf hz0 hz1 hA hb2 hc2 hf2 hB hz3
 generalize hWc:(w2.alloc (.cells #[.int .i64 s,.int .i64 0,.int .i64 0,.int .i64 0,.int .i64 M,.int .i64 wt] 71)).alloc (.cells #[.int .i64 s,.int .i64 0,.int .i64 0,.int .i64 0,.int .i64 M,.int .i64 wt] 71) = wc at *
 clear hWc
 obtain ⟨q,hq⟩:∃ q,q = w2.heap.size + 1:=⟨_,rfl⟩
 rw [← hq] at hq1 Q ⊢
 generalize hp:w2.heap.size = p at *
 have hne:p≠q:=by omega
 have e1:w.heap.size≠p:=by omega
 have e2:w.heap.size≠q:=by omega
 have l1:w.heap.size≤p:=by omega
 have l2:w.heap.size≤q:=by omega
 clear hq hp hz2
 have HR:=Lib.hid R2
 have HP:=Lib.hid P
 have HQ:=Lib.hid Q
 obtain ⟨r0,r1,r2,r3,r4,r5,r6,r7⟩:=R2
 obtain ⟨⟨m0,m1,m2,m3,m4,m5⟩,f0,f1,f2,f3,f4,f5⟩:=P
 clear Q
 go_upto_region 10 with fail
 go_cut [] (fun wx=>wx = ((wc.setCell ⟨p,1,none⟩ (.int .i64 256)).setCell ⟨p,3,none⟩ (.int .i64 (IntKind.i64.wrap (256 * x)))).drew)
 case first =>
  go_region_with (go_simp)
  all_goals (go_wp2_with fail; go_meet)
  all_goals exact rfl
 case rest =>
  subst hcut
  have hne':q≠p:=fun h=>hne h.symm
  obtain ⟨⟨n0,n1,n2,n3,n4,n5⟩,k0,k1,k2,k3,k4,k5⟩:=HQ.out
  have R2:RepIs (((wc.setCell ⟨p,1,none⟩ (.int .i64 256)).setCell ⟨p,3,none⟩ (.int .i64 (IntKind.i64.wrap (256 * x)))).drew) w.heap.size s 1 x y v b wt t:=by
   unfold RepIs; refine ⟨?_,?_,?_,?_,?_,?_,?_,?_⟩ <;> go_simp
  have P2:Six (((wc.setCell ⟨p,1,none⟩ (.int .i64 256)).setCell ⟨p,3,none⟩ (.int .i64 (IntKind.i64.wrap (256 * x)))).drew) p ⟨s,256,0,IntKind.i64.wrap (256 * x),M,wt⟩:=by
   unfold Six; refine ⟨⟨?_,?_,?_,?_,?_,?_⟩,?_,?_,?_,?_,?_,?_⟩ <;> go_simp
  have Q2:Six (((wc.setCell ⟨p,1,none⟩ (.int .i64 256)).setCell ⟨p,3,none⟩ (.int .i64 (IntKind.i64.wrap (256 * x)))).drew) q ⟨s,0,0,0,M,wt⟩:=by
   unfold Six; refine ⟨⟨?_,?_,?_,?_,?_,?_⟩,?_,?_,?_,?_,?_,?_⟩ <;> go_simp
  have hB8:=Lib.hid (((hB7.out.setCell (p:=⟨p,1,none⟩) l1 (.int .i64 256)).setCell (p:=⟨p,3,none⟩) l1 (.int .i64 (IntKind.i64.wrap (256 * x)))).drew)
  have o1:p < (((wc.setCell ⟨p,1,none⟩ (.int .i64 256)).setCell ⟨p,3,none⟩ (.int .i64 (IntKind.i64.wrap (256 * x)))).drew).heap.size:=by simpa using hp1
  have o2:q < (((wc.setCell ⟨p,1,none⟩ (.int .i64 256)).setCell ⟨p,3,none⟩ (.int .i64 (IntKind.i64.wrap (256 * x)))).drew).heap.size:=by simpa using hq1
  clear r0 r1 r2 r3 r4 r5 r6 r7 m0 m1 m2 m3 m4 m5 f0 f1 f2 f3 f4 f5 n0 n1 n2 n3 n4 n5 k0 k1 k2 k3 k4 k5 HR HP HQ hB7 hp1 hq1
  generalize ((wc.setCell ⟨p,1,none⟩ (.int .i64 256)).setCell ⟨p,3,none⟩ (.int .i64 (IntKind.i64.wrap (256 * x)))).drew = w8 at *
  have HR:=Lib.hid R2
  have HP:=Lib.hid P2
  have HQ:=Lib.hid Q2
  obtain ⟨r0,r1,r2,r3,r4,r5,r6,r7⟩:=R2
  obtain ⟨⟨m0,m1,m2,m3,m4,m5⟩,f0,f1,f2,f3,f4,f5⟩:=Q2
  clear P2
  go_upto_region 11 with fail
  go_cut [] (fun wx=>wx = ((w8.setCell ⟨q,2,none⟩ (.int .i64 256)).setCell ⟨q,3,none⟩ (.int .i64 (IntKind.i64.wrap (256 * y)))).drew)
  case first =>
   go_region_with (go_simp)
   all_goals (go_wp2_with fail; go_meet)
   all_goals exact rfl
  case rest =>
   subst hcut
   obtain ⟨⟨n0,n1,n2,n3,n4,n5⟩,k0,k1,k2,k3,k4,k5⟩:=HP.out
   have P2:Six (((w8.setCell ⟨q,2,none⟩ (.int .i64 256)).setCell ⟨q,3,none⟩ (.int .i64 (IntKind.i64.wrap (256 * y)))).drew) p ⟨s,256,0,IntKind.i64.wrap (256 * x),M,wt⟩:=by
    unfold Six; refine ⟨⟨?_,?_,?_,?_,?_,?_⟩,?_,?_,?_,?_,?_,?_⟩ <;> go_simp
   have Q2:Six (((w8.setCell ⟨q,2,none⟩ (.int .i64 256)).setCell ⟨q,3,none⟩ (.int .i64 (IntKind.i64.wrap (256 * y)))).drew) q ⟨s,0,256,IntKind.i64.wrap (256 * y),M,wt⟩:=by
    unfold Six; refine ⟨⟨?_,?_,?_,?_,?_,?_⟩,?_,?_,?_,?_,?_,?_⟩ <;> go_simp
   have hB9:=Lib.hid (((hB8.out.setCell (p:=⟨q,2,none⟩) l2 (.int .i64 256)).setCell (p:=⟨q,3,none⟩) l2 (.int .i64 (IntKind.i64.wrap (256 * y)))).drew)
   clear r0 r1 r2 r3 r4 r5 r6 r7 m0 m1 m2 m3 m4 m5 f0 f1 f2 f3 f4 f5 n0 n1 n2 n3 n4 n5 k0 k1 k2 k3 k4 k5 HR HP HQ hB8 o1 o2
   generalize ((w8.setCell ⟨q,2,none⟩ (.int .i64 256)).setCell ⟨q,3,none⟩ (.int .i64 (IntKind.i64.wrap (256 * y)))).drew = w9 at *
   obtain ⟨⟨m0,m1,m2,m3,m4,m5⟩,-⟩:=P2
   obtain ⟨⟨n0,n1,n2,n3,n4,n5⟩,-⟩:=Q2
   go_wp2
   go_ret2
   refine ⟨_,rfl,.inr ⟨w9.heap.size,by simp,rfl,hB9.out.size,?_⟩,hB9.out.alloc hB9.out.size _⟩
   rw [HX.out,HY.out,HB.out]
   show (w9.heap.push _)[w9.heap.size]? = _
   rw [Array.getElem?_push_size]
   rfl
end Go.Proofs.YtajmjkliblippaaGreatDoor.S41
namespace Go.Proofs.YtajmjkliblippaaGreatDoor.S41
open Go.RowKit Tr Sq
set_option maxHeartbeats 2000000
set_option maxRecDepth 100000
theorem rows_err1_ref (s k x y v b wt t cx cy bx b2:Int) (w:World) (k0:0≤k) (k1:k≤255) (h:checkI s k x y v b wt t≠0) :
 Calls Tryz.prog 36 #[.agg #[.int .i64 s,.int .u8 k,.int .i64 x,.int .i64 y,.int .i64 v,.int .i64 b,.int .i64 wt,.int .i64 t],.agg #[.int .i64 cx,.int .i64 cy,.int .i64 bx,.int .i64 b2]] w (RowsE w ([],checkI s k x y v b wt t)):=by
 have C0:=fun w=>check_ref s k x y v b wt t w k0 k1
 have g1:(checkI s k x y v b wt t == 0) = false:=by simpa using h
 have g1':(checkI s k x y v b wt t != 0) = true:=by simpa using h
 clear h
 generalize checkI s k x y v b wt t = en at *
 have C:=Lib.hid C0
 clear C0
 go_enter Tryz.func36,Tryz.ntmps36
 go_wp2_with fail
 refine (C.out _).mono ?_
 rintro e w1 ⟨rfl,hb⟩
 go_wp2
 go_ret2
 exact ⟨_,rfl,.inl ⟨rfl,rfl⟩,below_two hb⟩
theorem rows_err2_ref (s k x y v b wt t cx cy bx b2:Int) (w:World) (k0:0≤k) (k1:k≤255) (h:checkI s k x y v b wt t = 0) (hv:boxV cx cy bx b2 = false) :
 Calls Tryz.prog 36 #[.agg #[.int .i64 s,.int .u8 k,.int .i64 x,.int .i64 y,.int .i64 v,.int .i64 b,.int .i64 wt,.int .i64 t],.agg #[.int .i64 cx,.int .i64 cy,.int .i64 bx,.int .i64 b2]] w (RowsE w ([],1)):=by
 have C0:=fun w=>check_ref s k x y v b wt t w k0 k1
 have V0:=fun w=>boxv_ref cx cy bx b2 w
 rw [h] at C0
 rw [hv] at V0
 have C:=Lib.hid C0
 have V:=Lib.hid V0
 clear C0 V0 h hv
 go_enter Tryz.func36,Tryz.ntmps36
 go_wp2_with fail
 refine (C.out _).mono ?_
 rintro e w1 ⟨rfl,hb⟩
 obtain ⟨hc,hf⟩:=bcell hb
 have hz1:w.heap.size + 1 < w1.heap.size:=by have:=hb.size; simp at this; omega
 go_wp2_with fail
 refine (V.out _).mono ?_
 rintro e w2 ⟨rfl,hb2⟩
 have HB:=Lib.hid ((below_two hb).trans (hb2.mono (below_two hb).size))
 clear hb hb2 hc hf
 go_wp2
 go_ret2
 exact ⟨_,rfl,.inl ⟨rfl,rfl⟩,HB.out⟩
set_option maxHeartbeats 200000
set_option maxRecDepth 512
theorem rows_ref (s k x y v b wt t cx cy bx b2:Int) (w:World) (k0:0≤k) (k1:k≤255) :
 Calls Tryz.prog 36 #[.agg #[.int .i64 s,.int .u8 k,.int .i64 x,.int .i64 y,.int .i64 v,.int .i64 b,.int .i64 wt,.int .i64 t],.agg #[.int .i64 cx,.int .i64 cy,.int .i64 bx,.int .i64 b2]] w (RowsE w (rowsF s k x y v b wt t cx cy bx b2)):=by
 by_cases h:checkI s k x y v b wt t = 0
 ·cases hv:boxV cx cy bx b2 with
  | false =>
   have e:rowsF s k x y v b wt t cx cy bx b2 = ([],1):=by unfold rowsF; rw [if_pos h,if_neg (by rw [hv]; decide)]
   rw [e]
   exact rows_err2_ref s k x y v b wt t cx cy bx b2 w k0 k1 h hv
  | true =>
   obtain ⟨-,hk,⟨x0,x1,y0,y1⟩,-,-,-,-⟩:=check_bd h
   obtain ⟨hA,hR⟩:=check_ok.1 h
   have hR':=okR_iff.1 hR
   have bx':=boxV_iff.1 hv
   have hp:(pvB x y && pvB cx cy) = true:=by
    rw [Bool.and_eq_true]; exact ⟨(okA_iff.1 hA).2.2.2.1 |> pvB_iff.2,pvB_iff.2 bx'.1⟩
   obtain ⟨K0,K1⟩:=rad_bd hv
   obtain ⟨D0,D1⟩:=dist_bd x y cx cy
   rcases hk with rfl | rfl | rfl
   ·have e:rowsF s 1 x y v b wt t cx cy bx b2 = ([⟨s,256,0,256 * x,256 * b,wt⟩,⟨s,0,256,256 * y,256 * b,wt⟩],0):=by unfold rowsF; rw [if_pos h,if_pos hv,if_pos rfl]
    rw [e]
    have hb':0≤b∧b≤600000:=hR'.2.1
    exact rows_pos_ref s x y v b wt t cx cy bx b2 w h (by unfold wrap64; omega) (by unfold wrap64; omega) (by unfold wrap64; omega) hv
   ·by_cases hg:distI x y cx cy < 6000∨distI x y cx cy < 4 * radI cx cy bx b2
    ·have e:rowsF s 2 x y v b wt t cx cy bx b2 = ([],10):=by unfold rowsF; rw [if_pos h,if_pos hv,if_neg (by decide),if_pos rfl,if_pos hg]
     rw [e]
     exact rows_rng_ref_no s x y v b wt t cx cy bx b2 _ _ w h hv rfl rfl ⟨x0,x1⟩ ⟨y0,y1⟩ (by omega) (by omega) hR'.2.2 hR'.2.1 K0 K1 D0 D1 hg
    ·have e:rowsF s 2 x y v b wt t cx cy bx b2 = ([rngM s x y v b wt cx cy (distI x y cx cy) (radI cx cy bx b2)],0):=by unfold rowsF; rw [if_pos h,if_pos hv,if_neg (by decide),if_pos rfl,if_neg hg]
     rw [e]
     obtain ⟨a,c⟩:=rngAB_bd hp rfl (by omega)
     obtain ⟨f0,f1⟩:=rngF_bd K0 K1 (show 6000≤distI x y cx cy by omega) (by omega)
     have pa:=mul_bd a.1 a.2 (show -2000000≤cx by omega) (by omega)
     have pb:=mul_bd c.1 c.2 (show -2000000≤cy by omega) (by omega)
     exact rows_rng_ref_ok s x y v b wt t cx cy bx b2 _ _ _ _ _ w h hv rfl rfl ⟨x0,x1⟩ ⟨y0,y1⟩ (by omega) (by omega) hR'.2.2 hR'.2.1 K0 K1 D0 D1 (by omega) (by omega) rfl rfl rfl a c ⟨f0,by omega⟩ (by omega) (by omega) (K_bd K0 K1)
   ·have e:rowsF s 3 x y v b wt t cx cy bx b2 = ([brgM s x y v b wt (distI x y cx cy) (radI cx cy bx b2)],0):=by unfold rowsF; rw [if_pos h,if_pos hv,if_neg (by decide),if_neg (by decide)]
    rw [e]
    obtain ⟨a,c⟩:=brgAB_bd v
    have hb':0≤b∧b≤3600000:=hR'.2.1
    obtain ⟨f0,f1⟩:=brgF_bd hb'.1 hb'.2 (show 0≤distI x y cx cy + 1 + radI cx cy bx b2 by omega) (by omega)
    have pa:=mul_bd a.1 a.2 (show -2000000≤x by omega) (by omega)
    have pb:=mul_bd c.1 c.2 (show -2000000≤y by omega) (by omega)
    obtain ⟨g0,g1⟩:=brgG_bd (show 0≤distI x y cx cy + 1 + radI cx cy bx b2 by omega) (by omega) (sin_pos hb'.1 hb'.2).1 (sin_pos hb'.1 hb'.2).2
    exact rows_brg_ref s x y v b wt t cx cy bx b2 _ _ _ _ _ w h hv rfl rfl ⟨x0,x1⟩ ⟨y0,y1⟩ hR'.2.2 hb' K0 K1 D0 D1 rfl rfl rfl a c ⟨f0,by omega⟩ (by omega) (by omega) (cosI_range v) (sinI_range v) (sin_pos hb'.1 hb'.2) ⟨g0,by omega⟩
 ·have e:rowsF s k x y v b wt t cx cy bx b2 = ([],checkI s k x y v b wt t):=by unfold rowsF; rw [if_neg h]
  rw [e]
  exact rows_err1_ref s k x y v b wt t cx cy bx b2 w k0 k1 h
end Go.Proofs.YtajmjkliblippaaGreatDoor.S41
