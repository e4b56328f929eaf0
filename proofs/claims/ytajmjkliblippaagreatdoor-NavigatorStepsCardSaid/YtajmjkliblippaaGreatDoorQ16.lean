/-
  Walks and laws of the layers below, gathered from several texts.
-/
import Derived.Lib.QuietBelow
import Derived.Test.YtajmjkliblippaaGreatDoorQ3
import Derived.Test.YtajmjkliblippaaGreatDoorQ15
set_option linter.unusedVariables false
namespace Go.Proofs.YtajmjkliblippaaGreatDoor
open Go.RowKit
theorem inc_hi {q:Int} (h0:0≤q) (h1:q < 85070591730234615865843651857942052864):IntKind.u64.wrap (hiW q + (loW q + 1 + 0) / 18446744073709551616) = hiW (q + 1):=by
 rw [IntKind.wrap_u64]; unfold hiW loW; omega
theorem inc_lo (q:Int):(loW q + 1 + 0) % 18446744073709551616 = loW (q + 1):=by unfold loW; omega
structure DivW (x d:Int) (neg rz:Bool) (q r c:Int):Prop where
 sx:∀ w,Calls Tryz.prog 240 #[.agg #[.int .i64 (hiW x),.int .u64 (loW x)]] w fun e w'=>e = .returned (.tuple #[.agg #[.int .u64 (hiW (absW x)),.int .u64 (loW (absW x))],.bool neg])∧Below w.heap.size w w'
 sy:∀ w,Calls Tryz.prog 240 #[.agg #[.int .i64 (hiW d),.int .u64 (loW d)]] w fun e w'=>e = .returned (.tuple #[.agg #[.int .u64 (hiW d),.int .u64 (loW d)],.bool false])∧Below w.heap.size w w'
 zd:∀ w,Calls Tryz.prog 241 #[.agg #[.int .u64 (hiW d),.int .u64 (loW d)]] w fun e w'=>e = .returned (.bool false)∧Below w.heap.size w w'
 ov:∀ w,Calls Tryz.prog 242 #[.agg #[.int .u64 (hiW (absW x)),.int .u64 (loW (absW x))],.agg #[.int .u64 (hiW d),.int .u64 (loW d)]] w fun e w'=>e = .returned (.tuple #[.agg #[.int .u64 (hiW q),.int .u64 (loW q)],.agg #[.int .u64 (hiW r),.int .u64 (loW r)]])∧Below w.heap.size w w'
 zr:∀ w,Calls Tryz.prog 241 #[.agg #[.int .u64 (hiW r),.int .u64 (loW r)]] w fun e w'=>e = .returned (.bool rz)∧Below w.heap.size w w'
 ls:∀ w,Calls Tryz.prog 244 #[.agg #[.int .u64 (hiW d),.int .u64 (loW d)],.agg #[.int .u64 (hiW r),.int .u64 (loW r)]] w fun e w'=>e = .returned (.agg #[.int .u64 (hiW (d - r)),.int .u64 (loW (d - r))])∧Below w.heap.size w w'
 cm:∀ w,Calls Tryz.prog 243 #[.agg #[.int .u64 (hiW r),.int .u64 (loW r)],.agg #[.int .u64 (hiW (d - r)),.int .u64 (loW (d - r))]] w fun e w'=>e = .returned (.int .i64 c)∧Below w.heap.size w w'
theorem div_world {x d q r:Int} (hx0:-85070591730234615865843651857942052864 < x) (hx:x < 85070591730234615865843651857942052864) (hd:0 < d) (hd1:d < 85070591730234615865843651857942052864) (hq:q = absW x / d) (hr:r = absW x % d) :
 DivW x d (decide (x < 0)) (decide (r = 0)) q r (cmpI r (d - r)):=by
 have ax0:=absW_nonneg x
 have ax1:absW x < 85070591730234615865843651857942052864:=by unfold absW; split <;> omega
 have ad:absW d = d:=by unfold absW; rw [if_neg (by omega)]
 have hr0:0≤r:=by rw [hr]; exact Int.emod_nonneg _ (by omega)
 have hr1:r < d:=by rw [hr]; exact Int.emod_lt_of_pos _ hd
 refine ⟨fun w=>wsplit_any x w ⟨by omega,by omega⟩,fun w=>?_,fun w=>?_,fun w=>?_,fun w=>wzero_any r w,fun w=>wless_any d r w hr0 (by omega) (by omega),fun w=>wcmp_any r (d - r) w⟩
 ·have:=wsplit_any d w ⟨by omega,by omega⟩
  rw [ad,decide_eq_false (by omega:¬ d < 0)] at this
  exact this
 ·have:=wzero_any d w
  rw [decide_eq_false (by omega:¬ d = 0)] at this
  exact this
 ·obtain ⟨N,hN⟩:=Int.eq_ofNat_of_zero_le ax0
  obtain ⟨D,rfl⟩:=Int.eq_ofNat_of_zero_le (show 0≤d by omega)
  have:=wover_any N D w (by omega) (by omega) (by omega)
  rw [Int.natCast_ediv,Int.natCast_emod,← hN,← hq,← hr] at this
  exact this
set_option maxHeartbeats 8000000
set_option maxRecDepth 100000
theorem div_path0 (x d q r v:Int) (c:Int) (w:World) (h:DivW x d false true q r c) (h0:0≤q) (h1:q < 85070591730234615865843651857942052864) (hv:v = sgn false q) :
 Calls Tryz.prog 222 #[wv x,wv d,.int .i64 1] w fun e w'=>e = .returned (.tuple #[wv v,.bool true])∧Below w.heap.size w w':=by
 have J:=Lib.hid fun w=>join_any q false w (by omega) (by omega)
 rw [← hv] at J
 clear hv
 unfold wv at J ⊢
 clear h0 h1
 have SX:=Lib.hid h.sx
 have SY:=Lib.hid h.sy
 have ZD:=Lib.hid h.zd
 have OV:=Lib.hid h.ov
 have ZR:=Lib.hid h.zr
 have LS:=Lib.hid h.ls
 have CM:=Lib.hid h.cm
 clear h
 obtain ⟨KX,KY,KZ,HB⟩:=ent3 w #[.int .i64 (hiW x),.int .u64 (loW x)] 112 #[.int .i64 (hiW d),.int .u64 (loW d)] 112 #[.int .i64 0,.int .u64 0] 112
 go_enter Tryz.func222,Tryz.ntmps222
 go_wp2_with fail
 generalize ((w.alloc _).alloc _).alloc _ = w0 at *
 refine (SX.out _).mono ?_
 rintro e1 w1 ⟨rfl,hb1⟩
 refine up3 hb1 HB KX KY KZ ?_
 clear hb1 HB KX KY KZ
 intro HB KX KY KZ
 obtain ⟨yY0,yY1,yYz⟩:=blk2 KY
 go_wp2_with fail
 obtain ⟨KS,hb2⟩:=alB w1 #[.int .u64 (hiW (absW x)),.int .u64 (loW (absW x))] 196
 have hnS:=HB.out.size
 have nzS_X:=KX.out.lt
 have nzS_Y:=KY.out.lt
 have nzS_Z:=KZ.out.lt
 refine up3 hb2 HB KX KY KZ ?_
 clear hb2 yY0 yY1 yYz HB KX KY KZ
 intro HB KX KY KZ
 generalize w1.alloc _ = w2 at *
 generalize w1.heap.size = bS at *
 have neS_X:bS≠w.heap.size:=by omega
 have neS_Y:bS≠(w.heap.size + 1):=by omega
 have neS_Z:bS≠(w.heap.size + 1 + 1):=by omega
 clear nzS_X nzS_Y nzS_Z
 refine (SY.out _).mono ?_
 rintro e3 w3 ⟨rfl,hb3⟩
 refine up4 hb3 HB KX KY KZ KS ?_
 clear hb3 HB KX KY KZ KS
 intro HB KX KY KZ KS
 go_wp2_with fail
 obtain ⟨KD,hb4⟩:=alB w3 #[.int .u64 (hiW d),.int .u64 (loW d)] 196
 have hnD:=HB.out.size
 have nzD_X:=KX.out.lt
 have nzD_Y:=KY.out.lt
 have nzD_Z:=KZ.out.lt
 have nzD_S:=KS.out.lt
 refine up4 hb4 HB KX KY KZ KS ?_
 clear hb4 HB KX KY KZ KS
 intro HB KX KY KZ KS
 generalize w3.alloc _ = w4 at *
 generalize w3.heap.size = bD at *
 have neD_X:bD≠w.heap.size:=by omega
 have neD_Y:bD≠(w.heap.size + 1):=by omega
 have neD_Z:bD≠(w.heap.size + 1 + 1):=by omega
 have neD_S:bD≠bS:=by omega
 clear nzD_X nzD_Y nzD_Z nzD_S
 refine (ZD.out _).mono ?_
 rintro e5 w5 ⟨rfl,hb5⟩
 refine up5 hb5 HB KX KY KZ KS KD ?_
 clear hb5 HB KX KY KZ KS KD
 intro HB KX KY KZ KS KD
 obtain ⟨yS0,yS1,ySz⟩:=blk2 KS
 obtain ⟨yD0,yD1,yDz⟩:=blk2 KD
 go_wp2_with fail
 refine (OV.out _).mono ?_
 rintro e6 w6 ⟨rfl,hb6⟩
 refine up5 hb6 HB KX KY KZ KS KD ?_
 clear hb6 yS0 yS1 ySz yD0 yD1 yDz HB KX KY KZ KS KD
 intro HB KX KY KZ KS KD
 go_wp2_with fail
 have KQ:=Lib.hid ((Blk.of (vs:=#[.int .u64 (hiW q),.int .u64 (loW q)]) (t:=196) (w:=w6) (b:=w6.heap.size) rfl).alloc (.cells #[.int .u64 (hiW r),.int .u64 (loW r)] 196))
 have KR:=Lib.hid (Blk.of (vs:=#[.int .u64 (hiW r),.int .u64 (loW r)]) (t:=196) (w:=w6.alloc (.cells #[.int .u64 (hiW q),.int .u64 (loW q)] 196)) (b:=w6.heap.size + 1) (by simp))
 have hb7:Below w6.heap.size w6 ((w6.alloc (.cells #[.int .u64 (hiW q),.int .u64 (loW q)] 196)).alloc (.cells #[.int .u64 (hiW r),.int .u64 (loW r)] 196)):=((Below.refl _ _).alloc (Nat.le_refl _) _).alloc (by simp) _
 have hnQ:=HB.out.size
 have nzQ_X:=KX.out.lt
 have nzQ_Y:=KY.out.lt
 have nzQ_Z:=KZ.out.lt
 have nzQ_S:=KS.out.lt
 have nzQ_D:=KD.out.lt
 refine up5 hb7 HB KX KY KZ KS KD ?_
 clear hb7 HB KX KY KZ KS KD
 intro HB KX KY KZ KS KD
 generalize (w6.alloc _).alloc _ = w7 at *
 generalize w6.heap.size = bQ at *
 have neQ_X:bQ≠w.heap.size:=by omega
 have neR_X:bQ + 1≠w.heap.size:=by omega
 have neQ_Y:bQ≠(w.heap.size + 1):=by omega
 have neR_Y:bQ + 1≠(w.heap.size + 1):=by omega
 have neQ_Z:bQ≠(w.heap.size + 1 + 1):=by omega
 have neR_Z:bQ + 1≠(w.heap.size + 1 + 1):=by omega
 have neQ_S:bQ≠bS:=by omega
 have neR_S:bQ + 1≠bS:=by omega
 have neQ_D:bQ≠bD:=by omega
 have neR_D:bQ + 1≠bD:=by omega
 clear nzQ_X nzQ_Y nzQ_Z nzQ_S nzQ_D
 refine (ZR.out _).mono ?_
 rintro e8 w8 ⟨rfl,hb8⟩
 refine up7 hb8 HB KX KY KZ KS KD KQ KR ?_
 clear hb8 HB KX KY KZ KS KD KQ KR
 intro HB KX KY KZ KS KD KQ KR
 obtain ⟨yQ0,yQ1,yQz,yQf0,yQf1⟩:=blf2 KQ
 go_wp2_with fail
 refine (J.out _).mono ?_
 rintro e9 w9 ⟨rfl,hb9⟩
 refine up7 hb9 HB KX KY KZ KS KD KQ KR ?_
 clear hb9 yQ0 yQ1 yQz yQf0 yQf1 HB KX KY KZ KS KD KQ KR
 intro HB KX KY KZ KS KD KQ KR
 obtain ⟨yZ0,yZ1,yZz,yZf0,yZf1⟩:=blf2 KZ
 go_wp2
 replace KZ:=kst (kst KZ 0 (.int .i64 (hiW v))) 1 (.int .u64 (loW v))
 refine ot6 (st2 w9 (w.heap.size + 1 + 1) 0 (.int .i64 (hiW v)) 1 (.int .u64 (loW v))) HB KX KY KS KD KQ KR (by omega) (by omega) (by omega) (by omega) (by omega) (by omega) (by omega) ?_
 clear HB KX KY KS KD KQ KR
 intro HB KX KY KS KD KQ KR
 clear yZ0 yZ1 yZz yZf0 yZf1
 generalize (w9.setCell _ _).setCell _ _ = w10 at *
 simp only [List.set] at KZ
 obtain ⟨yZ0,yZ1,yZz⟩:=blk2 KZ
 refine bodyPost_ret (v:=.tuple #[.agg #[.int .i64 (hiW v),.int .u64 (loW v)],.bool true]) (by simp [results,Tryz.results222,go_sem,yZ0,yZ1]) rfl ⟨rfl,HB.out⟩
theorem div_path1 (x d q r v:Int) (c:Int) (w:World) (h:DivW x d false false q r c) (h0:0≤q) (h1:q < 85070591730234615865843651857942052864) (hv:v = sgn false (q + 1)) :
 Calls Tryz.prog 222 #[wv x,wv d,.int .i64 1] w fun e w'=>e = .returned (.tuple #[wv v,.bool true])∧Below w.heap.size w w':=by
 have J:=Lib.hid fun w=>join_any (q + 1) false w (by omega) (by omega)
 rw [← hv] at J
 clear hv
 unfold wv at J ⊢
 have S1:=fun w=>add64 (loW q) 1 0 (by unfold loW; omega) (by omega) (by omega) (by omega) w
 have I1:=inc_hi h0 h1
 have I2:=inc_lo q
 rw [I2] at S1
 generalize (loW q + 1 + 0) / 18446744073709551616 = cc at *
 clear h0 h1
 have SX:=Lib.hid h.sx
 have SY:=Lib.hid h.sy
 have ZD:=Lib.hid h.zd
 have OV:=Lib.hid h.ov
 have ZR:=Lib.hid h.zr
 have LS:=Lib.hid h.ls
 have CM:=Lib.hid h.cm
 clear h
 obtain ⟨KX,KY,KZ,HB⟩:=ent3 w #[.int .i64 (hiW x),.int .u64 (loW x)] 112 #[.int .i64 (hiW d),.int .u64 (loW d)] 112 #[.int .i64 0,.int .u64 0] 112
 go_enter Tryz.func222,Tryz.ntmps222
 go_wp2_with fail
 generalize ((w.alloc _).alloc _).alloc _ = w0 at *
 refine (SX.out _).mono ?_
 rintro e1 w1 ⟨rfl,hb1⟩
 refine up3 hb1 HB KX KY KZ ?_
 clear hb1 HB KX KY KZ
 intro HB KX KY KZ
 obtain ⟨yY0,yY1,yYz⟩:=blk2 KY
 go_wp2_with fail
 obtain ⟨KS,hb2⟩:=alB w1 #[.int .u64 (hiW (absW x)),.int .u64 (loW (absW x))] 196
 have hnS:=HB.out.size
 have nzS_X:=KX.out.lt
 have nzS_Y:=KY.out.lt
 have nzS_Z:=KZ.out.lt
 refine up3 hb2 HB KX KY KZ ?_
 clear hb2 yY0 yY1 yYz HB KX KY KZ
 intro HB KX KY KZ
 generalize w1.alloc _ = w2 at *
 generalize w1.heap.size = bS at *
 have neS_X:bS≠w.heap.size:=by omega
 have neS_Y:bS≠(w.heap.size + 1):=by omega
 have neS_Z:bS≠(w.heap.size + 1 + 1):=by omega
 clear nzS_X nzS_Y nzS_Z
 refine (SY.out _).mono ?_
 rintro e3 w3 ⟨rfl,hb3⟩
 refine up4 hb3 HB KX KY KZ KS ?_
 clear hb3 HB KX KY KZ KS
 intro HB KX KY KZ KS
 go_wp2_with fail
 obtain ⟨KD,hb4⟩:=alB w3 #[.int .u64 (hiW d),.int .u64 (loW d)] 196
 have hnD:=HB.out.size
 have nzD_X:=KX.out.lt
 have nzD_Y:=KY.out.lt
 have nzD_Z:=KZ.out.lt
 have nzD_S:=KS.out.lt
 refine up4 hb4 HB KX KY KZ KS ?_
 clear hb4 HB KX KY KZ KS
 intro HB KX KY KZ KS
 generalize w3.alloc _ = w4 at *
 generalize w3.heap.size = bD at *
 have neD_X:bD≠w.heap.size:=by omega
 have neD_Y:bD≠(w.heap.size + 1):=by omega
 have neD_Z:bD≠(w.heap.size + 1 + 1):=by omega
 have neD_S:bD≠bS:=by omega
 clear nzD_X nzD_Y nzD_Z nzD_S
 refine (ZD.out _).mono ?_
 rintro e5 w5 ⟨rfl,hb5⟩
 refine up5 hb5 HB KX KY KZ KS KD ?_
 clear hb5 HB KX KY KZ KS KD
 intro HB KX KY KZ KS KD
 obtain ⟨yS0,yS1,ySz⟩:=blk2 KS
 obtain ⟨yD0,yD1,yDz⟩:=blk2 KD
 go_wp2_with fail
 refine (OV.out _).mono ?_
 rintro e6 w6 ⟨rfl,hb6⟩
 refine up5 hb6 HB KX KY KZ KS KD ?_
 clear hb6 yS0 yS1 ySz yD0 yD1 yDz HB KX KY KZ KS KD
 intro HB KX KY KZ KS KD
 go_wp2_with fail
 have KQ:=Lib.hid ((Blk.of (vs:=#[.int .u64 (hiW q),.int .u64 (loW q)]) (t:=196) (w:=w6) (b:=w6.heap.size) rfl).alloc (.cells #[.int .u64 (hiW r),.int .u64 (loW r)] 196))
 have KR:=Lib.hid (Blk.of (vs:=#[.int .u64 (hiW r),.int .u64 (loW r)]) (t:=196) (w:=w6.alloc (.cells #[.int .u64 (hiW q),.int .u64 (loW q)] 196)) (b:=w6.heap.size + 1) (by simp))
 have hb7:Below w6.heap.size w6 ((w6.alloc (.cells #[.int .u64 (hiW q),.int .u64 (loW q)] 196)).alloc (.cells #[.int .u64 (hiW r),.int .u64 (loW r)] 196)):=((Below.refl _ _).alloc (Nat.le_refl _) _).alloc (by simp) _
 have hnQ:=HB.out.size
 have nzQ_X:=KX.out.lt
 have nzQ_Y:=KY.out.lt
 have nzQ_Z:=KZ.out.lt
 have nzQ_S:=KS.out.lt
 have nzQ_D:=KD.out.lt
 refine up5 hb7 HB KX KY KZ KS KD ?_
 clear hb7 HB KX KY KZ KS KD
 intro HB KX KY KZ KS KD
 generalize (w6.alloc _).alloc _ = w7 at *
 generalize w6.heap.size = bQ at *
 have neQ_X:bQ≠w.heap.size:=by omega
 have neR_X:bQ + 1≠w.heap.size:=by omega
 have neQ_Y:bQ≠(w.heap.size + 1):=by omega
 have neR_Y:bQ + 1≠(w.heap.size + 1):=by omega
 have neQ_Z:bQ≠(w.heap.size + 1 + 1):=by omega
 have neR_Z:bQ + 1≠(w.heap.size + 1 + 1):=by omega
 have neQ_S:bQ≠bS:=by omega
 have neR_S:bQ + 1≠bS:=by omega
 have neQ_D:bQ≠bD:=by omega
 have neR_D:bQ + 1≠bD:=by omega
 clear nzQ_X nzQ_Y nzQ_Z nzQ_S nzQ_D
 refine (ZR.out _).mono ?_
 rintro e8 w8 ⟨rfl,hb8⟩
 refine up7 hb8 HB KX KY KZ KS KD KQ KR ?_
 clear hb8 HB KX KY KZ KS KD KQ KR
 intro HB KX KY KZ KS KD KQ KR
 obtain ⟨yQ0,yQ1,yQz,yQf0,yQf1⟩:=blf2 KQ
 go_wp2_with fail
 replace KQ:=kst (kst KQ 0 (.int .u64 (hiW (q + 1)))) 1 (.int .u64 (loW (q + 1)))
 refine ot6 (st2 w8 bQ 0 (.int .u64 (hiW (q + 1))) 1 (.int .u64 (loW (q + 1)))) HB KX KY KZ KS KD KR (by omega) (by omega) (by omega) (by omega) (by omega) (by omega) (by omega) ?_
 clear HB KX KY KZ KS KD KR
 intro HB KX KY KZ KS KD KR
 clear yQ0 yQ1 yQz yQf0 yQf1
 generalize (w8.setCell _ _).setCell _ _ = w9 at *
 simp only [List.set] at KQ
 refine (J.out _).mono ?_
 rintro e10 w10 ⟨rfl,hb10⟩
 refine up7 hb10 HB KX KY KZ KS KD KQ KR ?_
 clear hb10 HB KX KY KZ KS KD KQ KR
 intro HB KX KY KZ KS KD KQ KR
 obtain ⟨yZ0,yZ1,yZz,yZf0,yZf1⟩:=blf2 KZ
 go_wp2
 replace KZ:=kst (kst KZ 0 (.int .i64 (hiW v))) 1 (.int .u64 (loW v))
 refine ot6 (st2 w10 (w.heap.size + 1 + 1) 0 (.int .i64 (hiW v)) 1 (.int .u64 (loW v))) HB KX KY KS KD KQ KR (by omega) (by omega) (by omega) (by omega) (by omega) (by omega) (by omega) ?_
 clear HB KX KY KS KD KQ KR
 intro HB KX KY KS KD KQ KR
 clear yZ0 yZ1 yZz yZf0 yZf1
 generalize (w10.setCell _ _).setCell _ _ = w11 at *
 simp only [List.set] at KZ
 obtain ⟨yZ0,yZ1,yZz⟩:=blk2 KZ
 refine bodyPost_ret (v:=.tuple #[.agg #[.int .i64 (hiW v),.int .u64 (loW v)],.bool true]) (by simp [results,Tryz.results222,go_sem,yZ0,yZ1]) rfl ⟨rfl,HB.out⟩
theorem div_path2 (x d q r v:Int) (w:World) (h:DivW x d false true q r (-1)) (h0:0≤q) (h1:q < 85070591730234615865843651857942052864) (hv:v = sgn false q) :
 Calls Tryz.prog 222 #[wv x,wv d,.int .i64 0] w fun e w'=>e = .returned (.tuple #[wv v,.bool true])∧Below w.heap.size w w':=by
 have J:=Lib.hid fun w=>join_any q false w (by omega) (by omega)
 rw [← hv] at J
 clear hv
 unfold wv at J ⊢
 clear h0 h1
 have SX:=Lib.hid h.sx
 have SY:=Lib.hid h.sy
 have ZD:=Lib.hid h.zd
 have OV:=Lib.hid h.ov
 have ZR:=Lib.hid h.zr
 have LS:=Lib.hid h.ls
 have CM:=Lib.hid h.cm
 clear h
 obtain ⟨KX,KY,KZ,HB⟩:=ent3 w #[.int .i64 (hiW x),.int .u64 (loW x)] 112 #[.int .i64 (hiW d),.int .u64 (loW d)] 112 #[.int .i64 0,.int .u64 0] 112
 go_enter Tryz.func222,Tryz.ntmps222
 go_wp2_with fail
 generalize ((w.alloc _).alloc _).alloc _ = w0 at *
 refine (SX.out _).mono ?_
 rintro e1 w1 ⟨rfl,hb1⟩
 refine up3 hb1 HB KX KY KZ ?_
 clear hb1 HB KX KY KZ
 intro HB KX KY KZ
 obtain ⟨yY0,yY1,yYz⟩:=blk2 KY
 go_wp2_with fail
 obtain ⟨KS,hb2⟩:=alB w1 #[.int .u64 (hiW (absW x)),.int .u64 (loW (absW x))] 196
 have hnS:=HB.out.size
 have nzS_X:=KX.out.lt
 have nzS_Y:=KY.out.lt
 have nzS_Z:=KZ.out.lt
 refine up3 hb2 HB KX KY KZ ?_
 clear hb2 yY0 yY1 yYz HB KX KY KZ
 intro HB KX KY KZ
 generalize w1.alloc _ = w2 at *
 generalize w1.heap.size = bS at *
 have neS_X:bS≠w.heap.size:=by omega
 have neS_Y:bS≠(w.heap.size + 1):=by omega
 have neS_Z:bS≠(w.heap.size + 1 + 1):=by omega
 clear nzS_X nzS_Y nzS_Z
 refine (SY.out _).mono ?_
 rintro e3 w3 ⟨rfl,hb3⟩
 refine up4 hb3 HB KX KY KZ KS ?_
 clear hb3 HB KX KY KZ KS
 intro HB KX KY KZ KS
 go_wp2_with fail
 obtain ⟨KD,hb4⟩:=alB w3 #[.int .u64 (hiW d),.int .u64 (loW d)] 196
 have hnD:=HB.out.size
 have nzD_X:=KX.out.lt
 have nzD_Y:=KY.out.lt
 have nzD_Z:=KZ.out.lt
 have nzD_S:=KS.out.lt
 refine up4 hb4 HB KX KY KZ KS ?_
 clear hb4 HB KX KY KZ KS
 intro HB KX KY KZ KS
 generalize w3.alloc _ = w4 at *
 generalize w3.heap.size = bD at *
 have neD_X:bD≠w.heap.size:=by omega
 have neD_Y:bD≠(w.heap.size + 1):=by omega
 have neD_Z:bD≠(w.heap.size + 1 + 1):=by omega
 have neD_S:bD≠bS:=by omega
 clear nzD_X nzD_Y nzD_Z nzD_S
 refine (ZD.out _).mono ?_
 rintro e5 w5 ⟨rfl,hb5⟩
 refine up5 hb5 HB KX KY KZ KS KD ?_
 clear hb5 HB KX KY KZ KS KD
 intro HB KX KY KZ KS KD
 obtain ⟨yS0,yS1,ySz⟩:=blk2 KS
 obtain ⟨yD0,yD1,yDz⟩:=blk2 KD
 go_wp2_with fail
 refine (OV.out _).mono ?_
 rintro e6 w6 ⟨rfl,hb6⟩
 refine up5 hb6 HB KX KY KZ KS KD ?_
 clear hb6 yS0 yS1 ySz yD0 yD1 yDz HB KX KY KZ KS KD
 intro HB KX KY KZ KS KD
 go_wp2_with fail
 have KQ:=Lib.hid ((Blk.of (vs:=#[.int .u64 (hiW q),.int .u64 (loW q)]) (t:=196) (w:=w6) (b:=w6.heap.size) rfl).alloc (.cells #[.int .u64 (hiW r),.int .u64 (loW r)] 196))
 have KR:=Lib.hid (Blk.of (vs:=#[.int .u64 (hiW r),.int .u64 (loW r)]) (t:=196) (w:=w6.alloc (.cells #[.int .u64 (hiW q),.int .u64 (loW q)] 196)) (b:=w6.heap.size + 1) (by simp))
 have hb7:Below w6.heap.size w6 ((w6.alloc (.cells #[.int .u64 (hiW q),.int .u64 (loW q)] 196)).alloc (.cells #[.int .u64 (hiW r),.int .u64 (loW r)] 196)):=((Below.refl _ _).alloc (Nat.le_refl _) _).alloc (by simp) _
 have hnQ:=HB.out.size
 have nzQ_X:=KX.out.lt
 have nzQ_Y:=KY.out.lt
 have nzQ_Z:=KZ.out.lt
 have nzQ_S:=KS.out.lt
 have nzQ_D:=KD.out.lt
 refine up5 hb7 HB KX KY KZ KS KD ?_
 clear hb7 HB KX KY KZ KS KD
 intro HB KX KY KZ KS KD
 generalize (w6.alloc _).alloc _ = w7 at *
 generalize w6.heap.size = bQ at *
 have neQ_X:bQ≠w.heap.size:=by omega
 have neR_X:bQ + 1≠w.heap.size:=by omega
 have neQ_Y:bQ≠(w.heap.size + 1):=by omega
 have neR_Y:bQ + 1≠(w.heap.size + 1):=by omega
 have neQ_Z:bQ≠(w.heap.size + 1 + 1):=by omega
 have neR_Z:bQ + 1≠(w.heap.size + 1 + 1):=by omega
 have neQ_S:bQ≠bS:=by omega
 have neR_S:bQ + 1≠bS:=by omega
 have neQ_D:bQ≠bD:=by omega
 have neR_D:bQ + 1≠bD:=by omega
 clear nzQ_X nzQ_Y nzQ_Z nzQ_S nzQ_D
 refine (ZR.out _).mono ?_
 rintro e8 w8 ⟨rfl,hb8⟩
 refine up7 hb8 HB KX KY KZ KS KD KQ KR ?_
 clear hb8 HB KX KY KZ KS KD KQ KR
 intro HB KX KY KZ KS KD KQ KR
 go_wp2_with fail
 skip
 have gR_0:=fun d os=>cell_regrown (KR.out.c 0 _ rfl) d os
 have gR_1:=fun d os=>cell_regrown (KR.out.c 1 _ rfl) d os
 have gD_0:=fun d os=>cell_regrown (KD.out.c 0 _ rfl) d os
 have gD_1:=fun d os=>cell_regrown (KD.out.c 1 _ rfl) d os
 have rv0:=Lib.hid (fun d os=>Calls.regrown_of (LS.out (Go.Sort.grow (redrawn w8 d) os)))
 have rv1:=Lib.hid (fun d os=>Calls.regrown_of (CM.out (Go.Sort.grow (redrawn w8 d) os)))
 refine wp_region_quiet_below (by kernel_rfl) (by kernel_rfl) ?_
 repeat (quiet_step (first | with_reducible exact rv0.out _ _ | with_reducible exact rv1.out _ _))
 refine wpQuiet_nil ?_
 intro w9 hw9
 have hb9:Below w8.heap.size w8 w9:=by
  obtain ⟨⟨dq,osq⟩,hw2⟩:=hw9
  rw [hw2]; exact below_regrown _ dq osq
 clear gR_0 gR_1 gD_0 gD_1 rv0 rv1 hw9
 refine up7 hb9 HB KX KY KZ KS KD KQ KR ?_
 clear hb9 HB KX KY KZ KS KD KQ KR
 intro HB KX KY KZ KS KD KQ KR
 obtain ⟨yQ0,yQ1,yQz,yQf0,yQf1⟩:=blf2 KQ
 go_wp2_with fail
 refine (J.out _).mono ?_
 rintro e10 w10 ⟨rfl,hb10⟩
 refine up7 hb10 HB KX KY KZ KS KD KQ KR ?_
 clear hb10 yQ0 yQ1 yQz yQf0 yQf1 HB KX KY KZ KS KD KQ KR
 intro HB KX KY KZ KS KD KQ KR
 obtain ⟨yZ0,yZ1,yZz,yZf0,yZf1⟩:=blf2 KZ
 go_wp2
 replace KZ:=kst (kst KZ 0 (.int .i64 (hiW v))) 1 (.int .u64 (loW v))
 refine ot6 (st2 w10 (w.heap.size + 1 + 1) 0 (.int .i64 (hiW v)) 1 (.int .u64 (loW v))) HB KX KY KS KD KQ KR (by omega) (by omega) (by omega) (by omega) (by omega) (by omega) (by omega) ?_
 clear HB KX KY KS KD KQ KR
 intro HB KX KY KS KD KQ KR
 clear yZ0 yZ1 yZz yZf0 yZf1
 generalize (w10.setCell _ _).setCell _ _ = w11 at *
 simp only [List.set] at KZ
 obtain ⟨yZ0,yZ1,yZz⟩:=blk2 KZ
 refine bodyPost_ret (v:=.tuple #[.agg #[.int .i64 (hiW v),.int .u64 (loW v)],.bool true]) (by simp [results,Tryz.results222,go_sem,yZ0,yZ1]) rfl ⟨rfl,HB.out⟩
theorem div_path3 (x d q r v:Int) (w:World) (h:DivW x d false false q r (-1)) (h0:0≤q) (h1:q < 85070591730234615865843651857942052864) (hv:v = sgn false q) :
 Calls Tryz.prog 222 #[wv x,wv d,.int .i64 0] w fun e w'=>e = .returned (.tuple #[wv v,.bool true])∧Below w.heap.size w w':=by
 have J:=Lib.hid fun w=>join_any q false w (by omega) (by omega)
 rw [← hv] at J
 clear hv
 unfold wv at J ⊢
 clear h0 h1
 have SX:=Lib.hid h.sx
 have SY:=Lib.hid h.sy
 have ZD:=Lib.hid h.zd
 have OV:=Lib.hid h.ov
 have ZR:=Lib.hid h.zr
 have LS:=Lib.hid h.ls
 have CM:=Lib.hid h.cm
 clear h
 obtain ⟨KX,KY,KZ,HB⟩:=ent3 w #[.int .i64 (hiW x),.int .u64 (loW x)] 112 #[.int .i64 (hiW d),.int .u64 (loW d)] 112 #[.int .i64 0,.int .u64 0] 112
 go_enter Tryz.func222,Tryz.ntmps222
 go_wp2_with fail
 generalize ((w.alloc _).alloc _).alloc _ = w0 at *
 refine (SX.out _).mono ?_
 rintro e1 w1 ⟨rfl,hb1⟩
 refine up3 hb1 HB KX KY KZ ?_
 clear hb1 HB KX KY KZ
 intro HB KX KY KZ
 obtain ⟨yY0,yY1,yYz⟩:=blk2 KY
 go_wp2_with fail
 obtain ⟨KS,hb2⟩:=alB w1 #[.int .u64 (hiW (absW x)),.int .u64 (loW (absW x))] 196
 have hnS:=HB.out.size
 have nzS_X:=KX.out.lt
 have nzS_Y:=KY.out.lt
 have nzS_Z:=KZ.out.lt
 refine up3 hb2 HB KX KY KZ ?_
 clear hb2 yY0 yY1 yYz HB KX KY KZ
 intro HB KX KY KZ
 generalize w1.alloc _ = w2 at *
 generalize w1.heap.size = bS at *
 have neS_X:bS≠w.heap.size:=by omega
 have neS_Y:bS≠(w.heap.size + 1):=by omega
 have neS_Z:bS≠(w.heap.size + 1 + 1):=by omega
 clear nzS_X nzS_Y nzS_Z
 refine (SY.out _).mono ?_
 rintro e3 w3 ⟨rfl,hb3⟩
 refine up4 hb3 HB KX KY KZ KS ?_
 clear hb3 HB KX KY KZ KS
 intro HB KX KY KZ KS
 go_wp2_with fail
 obtain ⟨KD,hb4⟩:=alB w3 #[.int .u64 (hiW d),.int .u64 (loW d)] 196
 have hnD:=HB.out.size
 have nzD_X:=KX.out.lt
 have nzD_Y:=KY.out.lt
 have nzD_Z:=KZ.out.lt
 have nzD_S:=KS.out.lt
 refine up4 hb4 HB KX KY KZ KS ?_
 clear hb4 HB KX KY KZ KS
 intro HB KX KY KZ KS
 generalize w3.alloc _ = w4 at *
 generalize w3.heap.size = bD at *
 have neD_X:bD≠w.heap.size:=by omega
 have neD_Y:bD≠(w.heap.size + 1):=by omega
 have neD_Z:bD≠(w.heap.size + 1 + 1):=by omega
 have neD_S:bD≠bS:=by omega
 clear nzD_X nzD_Y nzD_Z nzD_S
 refine (ZD.out _).mono ?_
 rintro e5 w5 ⟨rfl,hb5⟩
 refine up5 hb5 HB KX KY KZ KS KD ?_
 clear hb5 HB KX KY KZ KS KD
 intro HB KX KY KZ KS KD
 obtain ⟨yS0,yS1,ySz⟩:=blk2 KS
 obtain ⟨yD0,yD1,yDz⟩:=blk2 KD
 go_wp2_with fail
 refine (OV.out _).mono ?_
 rintro e6 w6 ⟨rfl,hb6⟩
 refine up5 hb6 HB KX KY KZ KS KD ?_
 clear hb6 yS0 yS1 ySz yD0 yD1 yDz HB KX KY KZ KS KD
 intro HB KX KY KZ KS KD
 go_wp2_with fail
 have KQ:=Lib.hid ((Blk.of (vs:=#[.int .u64 (hiW q),.int .u64 (loW q)]) (t:=196) (w:=w6) (b:=w6.heap.size) rfl).alloc (.cells #[.int .u64 (hiW r),.int .u64 (loW r)] 196))
 have KR:=Lib.hid (Blk.of (vs:=#[.int .u64 (hiW r),.int .u64 (loW r)]) (t:=196) (w:=w6.alloc (.cells #[.int .u64 (hiW q),.int .u64 (loW q)] 196)) (b:=w6.heap.size + 1) (by simp))
 have hb7:Below w6.heap.size w6 ((w6.alloc (.cells #[.int .u64 (hiW q),.int .u64 (loW q)] 196)).alloc (.cells #[.int .u64 (hiW r),.int .u64 (loW r)] 196)):=((Below.refl _ _).alloc (Nat.le_refl _) _).alloc (by simp) _
 have hnQ:=HB.out.size
 have nzQ_X:=KX.out.lt
 have nzQ_Y:=KY.out.lt
 have nzQ_Z:=KZ.out.lt
 have nzQ_S:=KS.out.lt
 have nzQ_D:=KD.out.lt
 refine up5 hb7 HB KX KY KZ KS KD ?_
 clear hb7 HB KX KY KZ KS KD
 intro HB KX KY KZ KS KD
 generalize (w6.alloc _).alloc _ = w7 at *
 generalize w6.heap.size = bQ at *
 have neQ_X:bQ≠w.heap.size:=by omega
 have neR_X:bQ + 1≠w.heap.size:=by omega
 have neQ_Y:bQ≠(w.heap.size + 1):=by omega
 have neR_Y:bQ + 1≠(w.heap.size + 1):=by omega
 have neQ_Z:bQ≠(w.heap.size + 1 + 1):=by omega
 have neR_Z:bQ + 1≠(w.heap.size + 1 + 1):=by omega
 have neQ_S:bQ≠bS:=by omega
 have neR_S:bQ + 1≠bS:=by omega
 have neQ_D:bQ≠bD:=by omega
 have neR_D:bQ + 1≠bD:=by omega
 clear nzQ_X nzQ_Y nzQ_Z nzQ_S nzQ_D
 refine (ZR.out _).mono ?_
 rintro e8 w8 ⟨rfl,hb8⟩
 refine up7 hb8 HB KX KY KZ KS KD KQ KR ?_
 clear hb8 HB KX KY KZ KS KD KQ KR
 intro HB KX KY KZ KS KD KQ KR
 go_wp2_with fail
 skip
 have gR_0:=fun d os=>cell_regrown (KR.out.c 0 _ rfl) d os
 have gR_1:=fun d os=>cell_regrown (KR.out.c 1 _ rfl) d os
 have gD_0:=fun d os=>cell_regrown (KD.out.c 0 _ rfl) d os
 have gD_1:=fun d os=>cell_regrown (KD.out.c 1 _ rfl) d os
 have rv0:=Lib.hid (fun d os=>Calls.regrown_of (LS.out (Go.Sort.grow (redrawn w8 d) os)))
 have rv1:=Lib.hid (fun d os=>Calls.regrown_of (CM.out (Go.Sort.grow (redrawn w8 d) os)))
 refine wp_region_quiet_below (by kernel_rfl) (by kernel_rfl) ?_
 repeat (quiet_step (first | with_reducible exact rv0.out _ _ | with_reducible exact rv1.out _ _))
 refine wpQuiet_nil ?_
 intro w9 hw9
 have hb9:Below w8.heap.size w8 w9:=by
  obtain ⟨⟨dq,osq⟩,hw2⟩:=hw9
  rw [hw2]; exact below_regrown _ dq osq
 clear gR_0 gR_1 gD_0 gD_1 rv0 rv1 hw9
 refine up7 hb9 HB KX KY KZ KS KD KQ KR ?_
 clear hb9 HB KX KY KZ KS KD KQ KR
 intro HB KX KY KZ KS KD KQ KR
 obtain ⟨yQ0,yQ1,yQz,yQf0,yQf1⟩:=blf2 KQ
 go_wp2_with fail
 refine (J.out _).mono ?_
 rintro e10 w10 ⟨rfl,hb10⟩
 refine up7 hb10 HB KX KY KZ KS KD KQ KR ?_
 clear hb10 yQ0 yQ1 yQz yQf0 yQf1 HB KX KY KZ KS KD KQ KR
 intro HB KX KY KZ KS KD KQ KR
 obtain ⟨yZ0,yZ1,yZz,yZf0,yZf1⟩:=blf2 KZ
 go_wp2
 replace KZ:=kst (kst KZ 0 (.int .i64 (hiW v))) 1 (.int .u64 (loW v))
 refine ot6 (st2 w10 (w.heap.size + 1 + 1) 0 (.int .i64 (hiW v)) 1 (.int .u64 (loW v))) HB KX KY KS KD KQ KR (by omega) (by omega) (by omega) (by omega) (by omega) (by omega) (by omega) ?_
 clear HB KX KY KS KD KQ KR
 intro HB KX KY KS KD KQ KR
 clear yZ0 yZ1 yZz yZf0 yZf1
 generalize (w10.setCell _ _).setCell _ _ = w11 at *
 simp only [List.set] at KZ
 obtain ⟨yZ0,yZ1,yZz⟩:=blk2 KZ
 refine bodyPost_ret (v:=.tuple #[.agg #[.int .i64 (hiW v),.int .u64 (loW v)],.bool true]) (by simp [results,Tryz.results222,go_sem,yZ0,yZ1]) rfl ⟨rfl,HB.out⟩
theorem div_path4 (x d q r v:Int) (w:World) (h:DivW x d false false q r 0) (h0:0≤q) (h1:q < 85070591730234615865843651857942052864) (hv:v = sgn false (q + 1)) :
 Calls Tryz.prog 222 #[wv x,wv d,.int .i64 0] w fun e w'=>e = .returned (.tuple #[wv v,.bool true])∧Below w.heap.size w w':=by
 have J:=Lib.hid fun w=>join_any (q + 1) false w (by omega) (by omega)
 rw [← hv] at J
 clear hv
 unfold wv at J ⊢
 have S1:=fun w=>add64 (loW q) 1 0 (by unfold loW; omega) (by omega) (by omega) (by omega) w
 have I1:=inc_hi h0 h1
 have I2:=inc_lo q
 rw [I2] at S1
 generalize (loW q + 1 + 0) / 18446744073709551616 = cc at *
 clear h0 h1
 have SX:=Lib.hid h.sx
 have SY:=Lib.hid h.sy
 have ZD:=Lib.hid h.zd
 have OV:=Lib.hid h.ov
 have ZR:=Lib.hid h.zr
 have LS:=Lib.hid h.ls
 have CM:=Lib.hid h.cm
 clear h
 obtain ⟨KX,KY,KZ,HB⟩:=ent3 w #[.int .i64 (hiW x),.int .u64 (loW x)] 112 #[.int .i64 (hiW d),.int .u64 (loW d)] 112 #[.int .i64 0,.int .u64 0] 112
 go_enter Tryz.func222,Tryz.ntmps222
 go_wp2_with fail
 generalize ((w.alloc _).alloc _).alloc _ = w0 at *
 refine (SX.out _).mono ?_
 rintro e1 w1 ⟨rfl,hb1⟩
 refine up3 hb1 HB KX KY KZ ?_
 clear hb1 HB KX KY KZ
 intro HB KX KY KZ
 obtain ⟨yY0,yY1,yYz⟩:=blk2 KY
 go_wp2_with fail
 obtain ⟨KS,hb2⟩:=alB w1 #[.int .u64 (hiW (absW x)),.int .u64 (loW (absW x))] 196
 have hnS:=HB.out.size
 have nzS_X:=KX.out.lt
 have nzS_Y:=KY.out.lt
 have nzS_Z:=KZ.out.lt
 refine up3 hb2 HB KX KY KZ ?_
 clear hb2 yY0 yY1 yYz HB KX KY KZ
 intro HB KX KY KZ
 generalize w1.alloc _ = w2 at *
 generalize w1.heap.size = bS at *
 have neS_X:bS≠w.heap.size:=by omega
 have neS_Y:bS≠(w.heap.size + 1):=by omega
 have neS_Z:bS≠(w.heap.size + 1 + 1):=by omega
 clear nzS_X nzS_Y nzS_Z
 refine (SY.out _).mono ?_
 rintro e3 w3 ⟨rfl,hb3⟩
 refine up4 hb3 HB KX KY KZ KS ?_
 clear hb3 HB KX KY KZ KS
 intro HB KX KY KZ KS
 go_wp2_with fail
 obtain ⟨KD,hb4⟩:=alB w3 #[.int .u64 (hiW d),.int .u64 (loW d)] 196
 have hnD:=HB.out.size
 have nzD_X:=KX.out.lt
 have nzD_Y:=KY.out.lt
 have nzD_Z:=KZ.out.lt
 have nzD_S:=KS.out.lt
 refine up4 hb4 HB KX KY KZ KS ?_
 clear hb4 HB KX KY KZ KS
 intro HB KX KY KZ KS
 generalize w3.alloc _ = w4 at *
 generalize w3.heap.size = bD at *
 have neD_X:bD≠w.heap.size:=by omega
 have neD_Y:bD≠(w.heap.size + 1):=by omega
 have neD_Z:bD≠(w.heap.size + 1 + 1):=by omega
 have neD_S:bD≠bS:=by omega
 clear nzD_X nzD_Y nzD_Z nzD_S
 refine (ZD.out _).mono ?_
 rintro e5 w5 ⟨rfl,hb5⟩
 refine up5 hb5 HB KX KY KZ KS KD ?_
 clear hb5 HB KX KY KZ KS KD
 intro HB KX KY KZ KS KD
 obtain ⟨yS0,yS1,ySz⟩:=blk2 KS
 obtain ⟨yD0,yD1,yDz⟩:=blk2 KD
 go_wp2_with fail
 refine (OV.out _).mono ?_
 rintro e6 w6 ⟨rfl,hb6⟩
 refine up5 hb6 HB KX KY KZ KS KD ?_
 clear hb6 yS0 yS1 ySz yD0 yD1 yDz HB KX KY KZ KS KD
 intro HB KX KY KZ KS KD
 go_wp2_with fail
 have KQ:=Lib.hid ((Blk.of (vs:=#[.int .u64 (hiW q),.int .u64 (loW q)]) (t:=196) (w:=w6) (b:=w6.heap.size) rfl).alloc (.cells #[.int .u64 (hiW r),.int .u64 (loW r)] 196))
 have KR:=Lib.hid (Blk.of (vs:=#[.int .u64 (hiW r),.int .u64 (loW r)]) (t:=196) (w:=w6.alloc (.cells #[.int .u64 (hiW q),.int .u64 (loW q)] 196)) (b:=w6.heap.size + 1) (by simp))
 have hb7:Below w6.heap.size w6 ((w6.alloc (.cells #[.int .u64 (hiW q),.int .u64 (loW q)] 196)).alloc (.cells #[.int .u64 (hiW r),.int .u64 (loW r)] 196)):=((Below.refl _ _).alloc (Nat.le_refl _) _).alloc (by simp) _
 have hnQ:=HB.out.size
 have nzQ_X:=KX.out.lt
 have nzQ_Y:=KY.out.lt
 have nzQ_Z:=KZ.out.lt
 have nzQ_S:=KS.out.lt
 have nzQ_D:=KD.out.lt
 refine up5 hb7 HB KX KY KZ KS KD ?_
 clear hb7 HB KX KY KZ KS KD
 intro HB KX KY KZ KS KD
 generalize (w6.alloc _).alloc _ = w7 at *
 generalize w6.heap.size = bQ at *
 have neQ_X:bQ≠w.heap.size:=by omega
 have neR_X:bQ + 1≠w.heap.size:=by omega
 have neQ_Y:bQ≠(w.heap.size + 1):=by omega
 have neR_Y:bQ + 1≠(w.heap.size + 1):=by omega
 have neQ_Z:bQ≠(w.heap.size + 1 + 1):=by omega
 have neR_Z:bQ + 1≠(w.heap.size + 1 + 1):=by omega
 have neQ_S:bQ≠bS:=by omega
 have neR_S:bQ + 1≠bS:=by omega
 have neQ_D:bQ≠bD:=by omega
 have neR_D:bQ + 1≠bD:=by omega
 clear nzQ_X nzQ_Y nzQ_Z nzQ_S nzQ_D
 refine (ZR.out _).mono ?_
 rintro e8 w8 ⟨rfl,hb8⟩
 refine up7 hb8 HB KX KY KZ KS KD KQ KR ?_
 clear hb8 HB KX KY KZ KS KD KQ KR
 intro HB KX KY KZ KS KD KQ KR
 go_wp2_with fail
 skip
 have gR_0:=fun d os=>cell_regrown (KR.out.c 0 _ rfl) d os
 have gR_1:=fun d os=>cell_regrown (KR.out.c 1 _ rfl) d os
 have gD_0:=fun d os=>cell_regrown (KD.out.c 0 _ rfl) d os
 have gD_1:=fun d os=>cell_regrown (KD.out.c 1 _ rfl) d os
 have rv0:=Lib.hid (fun d os=>Calls.regrown_of (LS.out (Go.Sort.grow (redrawn w8 d) os)))
 have rv1:=Lib.hid (fun d os=>Calls.regrown_of (CM.out (Go.Sort.grow (redrawn w8 d) os)))
 refine wp_region_quiet_below (by kernel_rfl) (by kernel_rfl) ?_
 repeat (quiet_step (first | with_reducible exact rv0.out _ _ | with_reducible exact rv1.out _ _))
 refine wpQuiet_nil ?_
 intro w9 hw9
 have hb9:Below w8.heap.size w8 w9:=by
  obtain ⟨⟨dq,osq⟩,hw2⟩:=hw9
  rw [hw2]; exact below_regrown _ dq osq
 clear gR_0 gR_1 gD_0 gD_1 rv0 rv1 hw9
 refine up7 hb9 HB KX KY KZ KS KD KQ KR ?_
 clear hb9 HB KX KY KZ KS KD KQ KR
 intro HB KX KY KZ KS KD KQ KR
 obtain ⟨yQ0,yQ1,yQz,yQf0,yQf1⟩:=blf2 KQ
 go_wp2_with fail
 replace KQ:=kst (kst KQ 0 (.int .u64 (hiW (q + 1)))) 1 (.int .u64 (loW (q + 1)))
 refine ot6 (st2 w9 bQ 0 (.int .u64 (hiW (q + 1))) 1 (.int .u64 (loW (q + 1)))) HB KX KY KZ KS KD KR (by omega) (by omega) (by omega) (by omega) (by omega) (by omega) (by omega) ?_
 clear HB KX KY KZ KS KD KR
 intro HB KX KY KZ KS KD KR
 clear yQ0 yQ1 yQz yQf0 yQf1
 generalize (w9.setCell _ _).setCell _ _ = w10 at *
 simp only [List.set] at KQ
 refine (J.out _).mono ?_
 rintro e11 w11 ⟨rfl,hb11⟩
 refine up7 hb11 HB KX KY KZ KS KD KQ KR ?_
 clear hb11 HB KX KY KZ KS KD KQ KR
 intro HB KX KY KZ KS KD KQ KR
 obtain ⟨yZ0,yZ1,yZz,yZf0,yZf1⟩:=blf2 KZ
 go_wp2
 replace KZ:=kst (kst KZ 0 (.int .i64 (hiW v))) 1 (.int .u64 (loW v))
 refine ot6 (st2 w11 (w.heap.size + 1 + 1) 0 (.int .i64 (hiW v)) 1 (.int .u64 (loW v))) HB KX KY KS KD KQ KR (by omega) (by omega) (by omega) (by omega) (by omega) (by omega) (by omega) ?_
 clear HB KX KY KS KD KQ KR
 intro HB KX KY KS KD KQ KR
 clear yZ0 yZ1 yZz yZf0 yZf1
 generalize (w11.setCell _ _).setCell _ _ = w12 at *
 simp only [List.set] at KZ
 obtain ⟨yZ0,yZ1,yZz⟩:=blk2 KZ
 refine bodyPost_ret (v:=.tuple #[.agg #[.int .i64 (hiW v),.int .u64 (loW v)],.bool true]) (by simp [results,Tryz.results222,go_sem,yZ0,yZ1]) rfl ⟨rfl,HB.out⟩
theorem div_path5 (x d q r v:Int) (w:World) (h:DivW x d false false q r 1) (h0:0≤q) (h1:q < 85070591730234615865843651857942052864) (hv:v = sgn false (q + 1)) :
 Calls Tryz.prog 222 #[wv x,wv d,.int .i64 0] w fun e w'=>e = .returned (.tuple #[wv v,.bool true])∧Below w.heap.size w w':=by
 have J:=Lib.hid fun w=>join_any (q + 1) false w (by omega) (by omega)
 rw [← hv] at J
 clear hv
 unfold wv at J ⊢
 have S1:=fun w=>add64 (loW q) 1 0 (by unfold loW; omega) (by omega) (by omega) (by omega) w
 have I1:=inc_hi h0 h1
 have I2:=inc_lo q
 rw [I2] at S1
 generalize (loW q + 1 + 0) / 18446744073709551616 = cc at *
 clear h0 h1
 have SX:=Lib.hid h.sx
 have SY:=Lib.hid h.sy
 have ZD:=Lib.hid h.zd
 have OV:=Lib.hid h.ov
 have ZR:=Lib.hid h.zr
 have LS:=Lib.hid h.ls
 have CM:=Lib.hid h.cm
 clear h
 obtain ⟨KX,KY,KZ,HB⟩:=ent3 w #[.int .i64 (hiW x),.int .u64 (loW x)] 112 #[.int .i64 (hiW d),.int .u64 (loW d)] 112 #[.int .i64 0,.int .u64 0] 112
 go_enter Tryz.func222,Tryz.ntmps222
 go_wp2_with fail
 generalize ((w.alloc _).alloc _).alloc _ = w0 at *
 refine (SX.out _).mono ?_
 rintro e1 w1 ⟨rfl,hb1⟩
 refine up3 hb1 HB KX KY KZ ?_
 clear hb1 HB KX KY KZ
 intro HB KX KY KZ
 obtain ⟨yY0,yY1,yYz⟩:=blk2 KY
 go_wp2_with fail
 obtain ⟨KS,hb2⟩:=alB w1 #[.int .u64 (hiW (absW x)),.int .u64 (loW (absW x))] 196
 have hnS:=HB.out.size
 have nzS_X:=KX.out.lt
 have nzS_Y:=KY.out.lt
 have nzS_Z:=KZ.out.lt
 refine up3 hb2 HB KX KY KZ ?_
 clear hb2 yY0 yY1 yYz HB KX KY KZ
 intro HB KX KY KZ
 generalize w1.alloc _ = w2 at *
 generalize w1.heap.size = bS at *
 have neS_X:bS≠w.heap.size:=by omega
 have neS_Y:bS≠(w.heap.size + 1):=by omega
 have neS_Z:bS≠(w.heap.size + 1 + 1):=by omega
 clear nzS_X nzS_Y nzS_Z
 refine (SY.out _).mono ?_
 rintro e3 w3 ⟨rfl,hb3⟩
 refine up4 hb3 HB KX KY KZ KS ?_
 clear hb3 HB KX KY KZ KS
 intro HB KX KY KZ KS
 go_wp2_with fail
 obtain ⟨KD,hb4⟩:=alB w3 #[.int .u64 (hiW d),.int .u64 (loW d)] 196
 have hnD:=HB.out.size
 have nzD_X:=KX.out.lt
 have nzD_Y:=KY.out.lt
 have nzD_Z:=KZ.out.lt
 have nzD_S:=KS.out.lt
 refine up4 hb4 HB KX KY KZ KS ?_
 clear hb4 HB KX KY KZ KS
 intro HB KX KY KZ KS
 generalize w3.alloc _ = w4 at *
 generalize w3.heap.size = bD at *
 have neD_X:bD≠w.heap.size:=by omega
 have neD_Y:bD≠(w.heap.size + 1):=by omega
 have neD_Z:bD≠(w.heap.size + 1 + 1):=by omega
 have neD_S:bD≠bS:=by omega
 clear nzD_X nzD_Y nzD_Z nzD_S
 refine (ZD.out _).mono ?_
 rintro e5 w5 ⟨rfl,hb5⟩
 refine up5 hb5 HB KX KY KZ KS KD ?_
 clear hb5 HB KX KY KZ KS KD
 intro HB KX KY KZ KS KD
 obtain ⟨yS0,yS1,ySz⟩:=blk2 KS
 obtain ⟨yD0,yD1,yDz⟩:=blk2 KD
 go_wp2_with fail
 refine (OV.out _).mono ?_
 rintro e6 w6 ⟨rfl,hb6⟩
 refine up5 hb6 HB KX KY KZ KS KD ?_
 clear hb6 yS0 yS1 ySz yD0 yD1 yDz HB KX KY KZ KS KD
 intro HB KX KY KZ KS KD
 go_wp2_with fail
 have KQ:=Lib.hid ((Blk.of (vs:=#[.int .u64 (hiW q),.int .u64 (loW q)]) (t:=196) (w:=w6) (b:=w6.heap.size) rfl).alloc (.cells #[.int .u64 (hiW r),.int .u64 (loW r)] 196))
 have KR:=Lib.hid (Blk.of (vs:=#[.int .u64 (hiW r),.int .u64 (loW r)]) (t:=196) (w:=w6.alloc (.cells #[.int .u64 (hiW q),.int .u64 (loW q)] 196)) (b:=w6.heap.size + 1) (by simp))
 have hb7:Below w6.heap.size w6 ((w6.alloc (.cells #[.int .u64 (hiW q),.int .u64 (loW q)] 196)).alloc (.cells #[.int .u64 (hiW r),.int .u64 (loW r)] 196)):=((Below.refl _ _).alloc (Nat.le_refl _) _).alloc (by simp) _
 have hnQ:=HB.out.size
 have nzQ_X:=KX.out.lt
 have nzQ_Y:=KY.out.lt
 have nzQ_Z:=KZ.out.lt
 have nzQ_S:=KS.out.lt
 have nzQ_D:=KD.out.lt
 refine up5 hb7 HB KX KY KZ KS KD ?_
 clear hb7 HB KX KY KZ KS KD
 intro HB KX KY KZ KS KD
 generalize (w6.alloc _).alloc _ = w7 at *
 generalize w6.heap.size = bQ at *
 have neQ_X:bQ≠w.heap.size:=by omega
 have neR_X:bQ + 1≠w.heap.size:=by omega
 have neQ_Y:bQ≠(w.heap.size + 1):=by omega
 have neR_Y:bQ + 1≠(w.heap.size + 1):=by omega
 have neQ_Z:bQ≠(w.heap.size + 1 + 1):=by omega
 have neR_Z:bQ + 1≠(w.heap.size + 1 + 1):=by omega
 have neQ_S:bQ≠bS:=by omega
 have neR_S:bQ + 1≠bS:=by omega
 have neQ_D:bQ≠bD:=by omega
 have neR_D:bQ + 1≠bD:=by omega
 clear nzQ_X nzQ_Y nzQ_Z nzQ_S nzQ_D
 refine (ZR.out _).mono ?_
 rintro e8 w8 ⟨rfl,hb8⟩
 refine up7 hb8 HB KX KY KZ KS KD KQ KR ?_
 clear hb8 HB KX KY KZ KS KD KQ KR
 intro HB KX KY KZ KS KD KQ KR
 go_wp2_with fail
 skip
 have gR_0:=fun d os=>cell_regrown (KR.out.c 0 _ rfl) d os
 have gR_1:=fun d os=>cell_regrown (KR.out.c 1 _ rfl) d os
 have gD_0:=fun d os=>cell_regrown (KD.out.c 0 _ rfl) d os
 have gD_1:=fun d os=>cell_regrown (KD.out.c 1 _ rfl) d os
 have rv0:=Lib.hid (fun d os=>Calls.regrown_of (LS.out (Go.Sort.grow (redrawn w8 d) os)))
 have rv1:=Lib.hid (fun d os=>Calls.regrown_of (CM.out (Go.Sort.grow (redrawn w8 d) os)))
 refine wp_region_quiet_below (by kernel_rfl) (by kernel_rfl) ?_
 repeat (quiet_step (first | with_reducible exact rv0.out _ _ | with_reducible exact rv1.out _ _))
 refine wpQuiet_nil ?_
 intro w9 hw9
 have hb9:Below w8.heap.size w8 w9:=by
  obtain ⟨⟨dq,osq⟩,hw2⟩:=hw9
  rw [hw2]; exact below_regrown _ dq osq
 clear gR_0 gR_1 gD_0 gD_1 rv0 rv1 hw9
 refine up7 hb9 HB KX KY KZ KS KD KQ KR ?_
 clear hb9 HB KX KY KZ KS KD KQ KR
 intro HB KX KY KZ KS KD KQ KR
 obtain ⟨yQ0,yQ1,yQz,yQf0,yQf1⟩:=blf2 KQ
 go_wp2_with fail
 replace KQ:=kst (kst KQ 0 (.int .u64 (hiW (q + 1)))) 1 (.int .u64 (loW (q + 1)))
 refine ot6 (st2 w9 bQ 0 (.int .u64 (hiW (q + 1))) 1 (.int .u64 (loW (q + 1)))) HB KX KY KZ KS KD KR (by omega) (by omega) (by omega) (by omega) (by omega) (by omega) (by omega) ?_
 clear HB KX KY KZ KS KD KR
 intro HB KX KY KZ KS KD KR
 clear yQ0 yQ1 yQz yQf0 yQf1
 generalize (w9.setCell _ _).setCell _ _ = w10 at *
 simp only [List.set] at KQ
 refine (J.out _).mono ?_
 rintro e11 w11 ⟨rfl,hb11⟩
 refine up7 hb11 HB KX KY KZ KS KD KQ KR ?_
 clear hb11 HB KX KY KZ KS KD KQ KR
 intro HB KX KY KZ KS KD KQ KR
 obtain ⟨yZ0,yZ1,yZz,yZf0,yZf1⟩:=blf2 KZ
 go_wp2
 replace KZ:=kst (kst KZ 0 (.int .i64 (hiW v))) 1 (.int .u64 (loW v))
 refine ot6 (st2 w11 (w.heap.size + 1 + 1) 0 (.int .i64 (hiW v)) 1 (.int .u64 (loW v))) HB KX KY KS KD KQ KR (by omega) (by omega) (by omega) (by omega) (by omega) (by omega) (by omega) ?_
 clear HB KX KY KS KD KQ KR
 intro HB KX KY KS KD KQ KR
 clear yZ0 yZ1 yZz yZf0 yZf1
 generalize (w11.setCell _ _).setCell _ _ = w12 at *
 simp only [List.set] at KZ
 obtain ⟨yZ0,yZ1,yZz⟩:=blk2 KZ
 refine bodyPost_ret (v:=.tuple #[.agg #[.int .i64 (hiW v),.int .u64 (loW v)],.bool true]) (by simp [results,Tryz.results222,go_sem,yZ0,yZ1]) rfl ⟨rfl,HB.out⟩
theorem div_path6 (x d q r v:Int) (w:World) (h:DivW x d true true q r (-1)) (h0:0≤q) (h1:q < 85070591730234615865843651857942052864) (hv:v = sgn true q) :
 Calls Tryz.prog 222 #[wv x,wv d,.int .i64 0] w fun e w'=>e = .returned (.tuple #[wv v,.bool true])∧Below w.heap.size w w':=by
 have J:=Lib.hid fun w=>join_any q true w (by omega) (by omega)
 rw [← hv] at J
 clear hv
 unfold wv at J ⊢
 clear h0 h1
 have SX:=Lib.hid h.sx
 have SY:=Lib.hid h.sy
 have ZD:=Lib.hid h.zd
 have OV:=Lib.hid h.ov
 have ZR:=Lib.hid h.zr
 have LS:=Lib.hid h.ls
 have CM:=Lib.hid h.cm
 clear h
 obtain ⟨KX,KY,KZ,HB⟩:=ent3 w #[.int .i64 (hiW x),.int .u64 (loW x)] 112 #[.int .i64 (hiW d),.int .u64 (loW d)] 112 #[.int .i64 0,.int .u64 0] 112
 go_enter Tryz.func222,Tryz.ntmps222
 go_wp2_with fail
 generalize ((w.alloc _).alloc _).alloc _ = w0 at *
 refine (SX.out _).mono ?_
 rintro e1 w1 ⟨rfl,hb1⟩
 refine up3 hb1 HB KX KY KZ ?_
 clear hb1 HB KX KY KZ
 intro HB KX KY KZ
 obtain ⟨yY0,yY1,yYz⟩:=blk2 KY
 go_wp2_with fail
 obtain ⟨KS,hb2⟩:=alB w1 #[.int .u64 (hiW (absW x)),.int .u64 (loW (absW x))] 196
 have hnS:=HB.out.size
 have nzS_X:=KX.out.lt
 have nzS_Y:=KY.out.lt
 have nzS_Z:=KZ.out.lt
 refine up3 hb2 HB KX KY KZ ?_
 clear hb2 yY0 yY1 yYz HB KX KY KZ
 intro HB KX KY KZ
 generalize w1.alloc _ = w2 at *
 generalize w1.heap.size = bS at *
 have neS_X:bS≠w.heap.size:=by omega
 have neS_Y:bS≠(w.heap.size + 1):=by omega
 have neS_Z:bS≠(w.heap.size + 1 + 1):=by omega
 clear nzS_X nzS_Y nzS_Z
 refine (SY.out _).mono ?_
 rintro e3 w3 ⟨rfl,hb3⟩
 refine up4 hb3 HB KX KY KZ KS ?_
 clear hb3 HB KX KY KZ KS
 intro HB KX KY KZ KS
 go_wp2_with fail
 obtain ⟨KD,hb4⟩:=alB w3 #[.int .u64 (hiW d),.int .u64 (loW d)] 196
 have hnD:=HB.out.size
 have nzD_X:=KX.out.lt
 have nzD_Y:=KY.out.lt
 have nzD_Z:=KZ.out.lt
 have nzD_S:=KS.out.lt
 refine up4 hb4 HB KX KY KZ KS ?_
 clear hb4 HB KX KY KZ KS
 intro HB KX KY KZ KS
 generalize w3.alloc _ = w4 at *
 generalize w3.heap.size = bD at *
 have neD_X:bD≠w.heap.size:=by omega
 have neD_Y:bD≠(w.heap.size + 1):=by omega
 have neD_Z:bD≠(w.heap.size + 1 + 1):=by omega
 have neD_S:bD≠bS:=by omega
 clear nzD_X nzD_Y nzD_Z nzD_S
 refine (ZD.out _).mono ?_
 rintro e5 w5 ⟨rfl,hb5⟩
 refine up5 hb5 HB KX KY KZ KS KD ?_
 clear hb5 HB KX KY KZ KS KD
 intro HB KX KY KZ KS KD
 obtain ⟨yS0,yS1,ySz⟩:=blk2 KS
 obtain ⟨yD0,yD1,yDz⟩:=blk2 KD
 go_wp2_with fail
 refine (OV.out _).mono ?_
 rintro e6 w6 ⟨rfl,hb6⟩
 refine up5 hb6 HB KX KY KZ KS KD ?_
 clear hb6 yS0 yS1 ySz yD0 yD1 yDz HB KX KY KZ KS KD
 intro HB KX KY KZ KS KD
 go_wp2_with fail
 have KQ:=Lib.hid ((Blk.of (vs:=#[.int .u64 (hiW q),.int .u64 (loW q)]) (t:=196) (w:=w6) (b:=w6.heap.size) rfl).alloc (.cells #[.int .u64 (hiW r),.int .u64 (loW r)] 196))
 have KR:=Lib.hid (Blk.of (vs:=#[.int .u64 (hiW r),.int .u64 (loW r)]) (t:=196) (w:=w6.alloc (.cells #[.int .u64 (hiW q),.int .u64 (loW q)] 196)) (b:=w6.heap.size + 1) (by simp))
 have hb7:Below w6.heap.size w6 ((w6.alloc (.cells #[.int .u64 (hiW q),.int .u64 (loW q)] 196)).alloc (.cells #[.int .u64 (hiW r),.int .u64 (loW r)] 196)):=((Below.refl _ _).alloc (Nat.le_refl _) _).alloc (by simp) _
 have hnQ:=HB.out.size
 have nzQ_X:=KX.out.lt
 have nzQ_Y:=KY.out.lt
 have nzQ_Z:=KZ.out.lt
 have nzQ_S:=KS.out.lt
 have nzQ_D:=KD.out.lt
 refine up5 hb7 HB KX KY KZ KS KD ?_
 clear hb7 HB KX KY KZ KS KD
 intro HB KX KY KZ KS KD
 generalize (w6.alloc _).alloc _ = w7 at *
 generalize w6.heap.size = bQ at *
 have neQ_X:bQ≠w.heap.size:=by omega
 have neR_X:bQ + 1≠w.heap.size:=by omega
 have neQ_Y:bQ≠(w.heap.size + 1):=by omega
 have neR_Y:bQ + 1≠(w.heap.size + 1):=by omega
 have neQ_Z:bQ≠(w.heap.size + 1 + 1):=by omega
 have neR_Z:bQ + 1≠(w.heap.size + 1 + 1):=by omega
 have neQ_S:bQ≠bS:=by omega
 have neR_S:bQ + 1≠bS:=by omega
 have neQ_D:bQ≠bD:=by omega
 have neR_D:bQ + 1≠bD:=by omega
 clear nzQ_X nzQ_Y nzQ_Z nzQ_S nzQ_D
 refine (ZR.out _).mono ?_
 rintro e8 w8 ⟨rfl,hb8⟩
 refine up7 hb8 HB KX KY KZ KS KD KQ KR ?_
 clear hb8 HB KX KY KZ KS KD KQ KR
 intro HB KX KY KZ KS KD KQ KR
 go_wp2_with fail
 skip
 have gR_0:=fun d os=>cell_regrown (KR.out.c 0 _ rfl) d os
 have gR_1:=fun d os=>cell_regrown (KR.out.c 1 _ rfl) d os
 have gD_0:=fun d os=>cell_regrown (KD.out.c 0 _ rfl) d os
 have gD_1:=fun d os=>cell_regrown (KD.out.c 1 _ rfl) d os
 have rv0:=Lib.hid (fun d os=>Calls.regrown_of (LS.out (Go.Sort.grow (redrawn w8 d) os)))
 have rv1:=Lib.hid (fun d os=>Calls.regrown_of (CM.out (Go.Sort.grow (redrawn w8 d) os)))
 refine wp_region_quiet_below (by kernel_rfl) (by kernel_rfl) ?_
 repeat (quiet_step (first | with_reducible exact rv0.out _ _ | with_reducible exact rv1.out _ _))
 refine wpQuiet_nil ?_
 intro w9 hw9
 have hb9:Below w8.heap.size w8 w9:=by
  obtain ⟨⟨dq,osq⟩,hw2⟩:=hw9
  rw [hw2]; exact below_regrown _ dq osq
 clear gR_0 gR_1 gD_0 gD_1 rv0 rv1 hw9
 refine up7 hb9 HB KX KY KZ KS KD KQ KR ?_
 clear hb9 HB KX KY KZ KS KD KQ KR
 intro HB KX KY KZ KS KD KQ KR
 obtain ⟨yQ0,yQ1,yQz,yQf0,yQf1⟩:=blf2 KQ
 go_wp2_with fail
 refine (J.out _).mono ?_
 rintro e10 w10 ⟨rfl,hb10⟩
 refine up7 hb10 HB KX KY KZ KS KD KQ KR ?_
 clear hb10 yQ0 yQ1 yQz yQf0 yQf1 HB KX KY KZ KS KD KQ KR
 intro HB KX KY KZ KS KD KQ KR
 obtain ⟨yZ0,yZ1,yZz,yZf0,yZf1⟩:=blf2 KZ
 go_wp2
 replace KZ:=kst (kst KZ 0 (.int .i64 (hiW v))) 1 (.int .u64 (loW v))
 refine ot6 (st2 w10 (w.heap.size + 1 + 1) 0 (.int .i64 (hiW v)) 1 (.int .u64 (loW v))) HB KX KY KS KD KQ KR (by omega) (by omega) (by omega) (by omega) (by omega) (by omega) (by omega) ?_
 clear HB KX KY KS KD KQ KR
 intro HB KX KY KS KD KQ KR
 clear yZ0 yZ1 yZz yZf0 yZf1
 generalize (w10.setCell _ _).setCell _ _ = w11 at *
 simp only [List.set] at KZ
 obtain ⟨yZ0,yZ1,yZz⟩:=blk2 KZ
 refine bodyPost_ret (v:=.tuple #[.agg #[.int .i64 (hiW v),.int .u64 (loW v)],.bool true]) (by simp [results,Tryz.results222,go_sem,yZ0,yZ1]) rfl ⟨rfl,HB.out⟩
theorem div_path7 (x d q r v:Int) (w:World) (h:DivW x d true false q r (-1)) (h0:0≤q) (h1:q < 85070591730234615865843651857942052864) (hv:v = sgn true q) :
 Calls Tryz.prog 222 #[wv x,wv d,.int .i64 0] w fun e w'=>e = .returned (.tuple #[wv v,.bool true])∧Below w.heap.size w w':=by
 have J:=Lib.hid fun w=>join_any q true w (by omega) (by omega)
 rw [← hv] at J
 clear hv
 unfold wv at J ⊢
 clear h0 h1
 have SX:=Lib.hid h.sx
 have SY:=Lib.hid h.sy
 have ZD:=Lib.hid h.zd
 have OV:=Lib.hid h.ov
 have ZR:=Lib.hid h.zr
 have LS:=Lib.hid h.ls
 have CM:=Lib.hid h.cm
 clear h
 obtain ⟨KX,KY,KZ,HB⟩:=ent3 w #[.int .i64 (hiW x),.int .u64 (loW x)] 112 #[.int .i64 (hiW d),.int .u64 (loW d)] 112 #[.int .i64 0,.int .u64 0] 112
 go_enter Tryz.func222,Tryz.ntmps222
 go_wp2_with fail
 generalize ((w.alloc _).alloc _).alloc _ = w0 at *
 refine (SX.out _).mono ?_
 rintro e1 w1 ⟨rfl,hb1⟩
 refine up3 hb1 HB KX KY KZ ?_
 clear hb1 HB KX KY KZ
 intro HB KX KY KZ
 obtain ⟨yY0,yY1,yYz⟩:=blk2 KY
 go_wp2_with fail
 obtain ⟨KS,hb2⟩:=alB w1 #[.int .u64 (hiW (absW x)),.int .u64 (loW (absW x))] 196
 have hnS:=HB.out.size
 have nzS_X:=KX.out.lt
 have nzS_Y:=KY.out.lt
 have nzS_Z:=KZ.out.lt
 refine up3 hb2 HB KX KY KZ ?_
 clear hb2 yY0 yY1 yYz HB KX KY KZ
 intro HB KX KY KZ
 generalize w1.alloc _ = w2 at *
 generalize w1.heap.size = bS at *
 have neS_X:bS≠w.heap.size:=by omega
 have neS_Y:bS≠(w.heap.size + 1):=by omega
 have neS_Z:bS≠(w.heap.size + 1 + 1):=by omega
 clear nzS_X nzS_Y nzS_Z
 refine (SY.out _).mono ?_
 rintro e3 w3 ⟨rfl,hb3⟩
 refine up4 hb3 HB KX KY KZ KS ?_
 clear hb3 HB KX KY KZ KS
 intro HB KX KY KZ KS
 go_wp2_with fail
 obtain ⟨KD,hb4⟩:=alB w3 #[.int .u64 (hiW d),.int .u64 (loW d)] 196
 have hnD:=HB.out.size
 have nzD_X:=KX.out.lt
 have nzD_Y:=KY.out.lt
 have nzD_Z:=KZ.out.lt
 have nzD_S:=KS.out.lt
 refine up4 hb4 HB KX KY KZ KS ?_
 clear hb4 HB KX KY KZ KS
 intro HB KX KY KZ KS
 generalize w3.alloc _ = w4 at *
 generalize w3.heap.size = bD at *
 have neD_X:bD≠w.heap.size:=by omega
 have neD_Y:bD≠(w.heap.size + 1):=by omega
 have neD_Z:bD≠(w.heap.size + 1 + 1):=by omega
 have neD_S:bD≠bS:=by omega
 clear nzD_X nzD_Y nzD_Z nzD_S
 refine (ZD.out _).mono ?_
 rintro e5 w5 ⟨rfl,hb5⟩
 refine up5 hb5 HB KX KY KZ KS KD ?_
 clear hb5 HB KX KY KZ KS KD
 intro HB KX KY KZ KS KD
 obtain ⟨yS0,yS1,ySz⟩:=blk2 KS
 obtain ⟨yD0,yD1,yDz⟩:=blk2 KD
 go_wp2_with fail
 refine (OV.out _).mono ?_
 rintro e6 w6 ⟨rfl,hb6⟩
 refine up5 hb6 HB KX KY KZ KS KD ?_
 clear hb6 yS0 yS1 ySz yD0 yD1 yDz HB KX KY KZ KS KD
 intro HB KX KY KZ KS KD
 go_wp2_with fail
 have KQ:=Lib.hid ((Blk.of (vs:=#[.int .u64 (hiW q),.int .u64 (loW q)]) (t:=196) (w:=w6) (b:=w6.heap.size) rfl).alloc (.cells #[.int .u64 (hiW r),.int .u64 (loW r)] 196))
 have KR:=Lib.hid (Blk.of (vs:=#[.int .u64 (hiW r),.int .u64 (loW r)]) (t:=196) (w:=w6.alloc (.cells #[.int .u64 (hiW q),.int .u64 (loW q)] 196)) (b:=w6.heap.size + 1) (by simp))
 have hb7:Below w6.heap.size w6 ((w6.alloc (.cells #[.int .u64 (hiW q),.int .u64 (loW q)] 196)).alloc (.cells #[.int .u64 (hiW r),.int .u64 (loW r)] 196)):=((Below.refl _ _).alloc (Nat.le_refl _) _).alloc (by simp) _
 have hnQ:=HB.out.size
 have nzQ_X:=KX.out.lt
 have nzQ_Y:=KY.out.lt
 have nzQ_Z:=KZ.out.lt
 have nzQ_S:=KS.out.lt
 have nzQ_D:=KD.out.lt
 refine up5 hb7 HB KX KY KZ KS KD ?_
 clear hb7 HB KX KY KZ KS KD
 intro HB KX KY KZ KS KD
 generalize (w6.alloc _).alloc _ = w7 at *
 generalize w6.heap.size = bQ at *
 have neQ_X:bQ≠w.heap.size:=by omega
 have neR_X:bQ + 1≠w.heap.size:=by omega
 have neQ_Y:bQ≠(w.heap.size + 1):=by omega
 have neR_Y:bQ + 1≠(w.heap.size + 1):=by omega
 have neQ_Z:bQ≠(w.heap.size + 1 + 1):=by omega
 have neR_Z:bQ + 1≠(w.heap.size + 1 + 1):=by omega
 have neQ_S:bQ≠bS:=by omega
 have neR_S:bQ + 1≠bS:=by omega
 have neQ_D:bQ≠bD:=by omega
 have neR_D:bQ + 1≠bD:=by omega
 clear nzQ_X nzQ_Y nzQ_Z nzQ_S nzQ_D
 refine (ZR.out _).mono ?_
 rintro e8 w8 ⟨rfl,hb8⟩
 refine up7 hb8 HB KX KY KZ KS KD KQ KR ?_
 clear hb8 HB KX KY KZ KS KD KQ KR
 intro HB KX KY KZ KS KD KQ KR
 go_wp2_with fail
 skip
 have gR_0:=fun d os=>cell_regrown (KR.out.c 0 _ rfl) d os
 have gR_1:=fun d os=>cell_regrown (KR.out.c 1 _ rfl) d os
 have gD_0:=fun d os=>cell_regrown (KD.out.c 0 _ rfl) d os
 have gD_1:=fun d os=>cell_regrown (KD.out.c 1 _ rfl) d os
 have rv0:=Lib.hid (fun d os=>Calls.regrown_of (LS.out (Go.Sort.grow (redrawn w8 d) os)))
 have rv1:=Lib.hid (fun d os=>Calls.regrown_of (CM.out (Go.Sort.grow (redrawn w8 d) os)))
 refine wp_region_quiet_below (by kernel_rfl) (by kernel_rfl) ?_
 repeat (quiet_step (first | with_reducible exact rv0.out _ _ | with_reducible exact rv1.out _ _))
 refine wpQuiet_nil ?_
 intro w9 hw9
 have hb9:Below w8.heap.size w8 w9:=by
  obtain ⟨⟨dq,osq⟩,hw2⟩:=hw9
  rw [hw2]; exact below_regrown _ dq osq
 clear gR_0 gR_1 gD_0 gD_1 rv0 rv1 hw9
 refine up7 hb9 HB KX KY KZ KS KD KQ KR ?_
 clear hb9 HB KX KY KZ KS KD KQ KR
 intro HB KX KY KZ KS KD KQ KR
 obtain ⟨yQ0,yQ1,yQz,yQf0,yQf1⟩:=blf2 KQ
 go_wp2_with fail
 refine (J.out _).mono ?_
 rintro e10 w10 ⟨rfl,hb10⟩
 refine up7 hb10 HB KX KY KZ KS KD KQ KR ?_
 clear hb10 yQ0 yQ1 yQz yQf0 yQf1 HB KX KY KZ KS KD KQ KR
 intro HB KX KY KZ KS KD KQ KR
 obtain ⟨yZ0,yZ1,yZz,yZf0,yZf1⟩:=blf2 KZ
 go_wp2
 replace KZ:=kst (kst KZ 0 (.int .i64 (hiW v))) 1 (.int .u64 (loW v))
 refine ot6 (st2 w10 (w.heap.size + 1 + 1) 0 (.int .i64 (hiW v)) 1 (.int .u64 (loW v))) HB KX KY KS KD KQ KR (by omega) (by omega) (by omega) (by omega) (by omega) (by omega) (by omega) ?_
 clear HB KX KY KS KD KQ KR
 intro HB KX KY KS KD KQ KR
 clear yZ0 yZ1 yZz yZf0 yZf1
 generalize (w10.setCell _ _).setCell _ _ = w11 at *
 simp only [List.set] at KZ
 obtain ⟨yZ0,yZ1,yZz⟩:=blk2 KZ
 refine bodyPost_ret (v:=.tuple #[.agg #[.int .i64 (hiW v),.int .u64 (loW v)],.bool true]) (by simp [results,Tryz.results222,go_sem,yZ0,yZ1]) rfl ⟨rfl,HB.out⟩
theorem div_path8 (x d q r v:Int) (w:World) (h:DivW x d true false q r 0) (h0:0≤q) (h1:q < 85070591730234615865843651857942052864) (hv:v = sgn true q) :
 Calls Tryz.prog 222 #[wv x,wv d,.int .i64 0] w fun e w'=>e = .returned (.tuple #[wv v,.bool true])∧Below w.heap.size w w':=by
 have J:=Lib.hid fun w=>join_any q true w (by omega) (by omega)
 rw [← hv] at J
 clear hv
 unfold wv at J ⊢
 clear h0 h1
 have SX:=Lib.hid h.sx
 have SY:=Lib.hid h.sy
 have ZD:=Lib.hid h.zd
 have OV:=Lib.hid h.ov
 have ZR:=Lib.hid h.zr
 have LS:=Lib.hid h.ls
 have CM:=Lib.hid h.cm
 clear h
 obtain ⟨KX,KY,KZ,HB⟩:=ent3 w #[.int .i64 (hiW x),.int .u64 (loW x)] 112 #[.int .i64 (hiW d),.int .u64 (loW d)] 112 #[.int .i64 0,.int .u64 0] 112
 go_enter Tryz.func222,Tryz.ntmps222
 go_wp2_with fail
 generalize ((w.alloc _).alloc _).alloc _ = w0 at *
 refine (SX.out _).mono ?_
 rintro e1 w1 ⟨rfl,hb1⟩
 refine up3 hb1 HB KX KY KZ ?_
 clear hb1 HB KX KY KZ
 intro HB KX KY KZ
 obtain ⟨yY0,yY1,yYz⟩:=blk2 KY
 go_wp2_with fail
 obtain ⟨KS,hb2⟩:=alB w1 #[.int .u64 (hiW (absW x)),.int .u64 (loW (absW x))] 196
 have hnS:=HB.out.size
 have nzS_X:=KX.out.lt
 have nzS_Y:=KY.out.lt
 have nzS_Z:=KZ.out.lt
 refine up3 hb2 HB KX KY KZ ?_
 clear hb2 yY0 yY1 yYz HB KX KY KZ
 intro HB KX KY KZ
 generalize w1.alloc _ = w2 at *
 generalize w1.heap.size = bS at *
 have neS_X:bS≠w.heap.size:=by omega
 have neS_Y:bS≠(w.heap.size + 1):=by omega
 have neS_Z:bS≠(w.heap.size + 1 + 1):=by omega
 clear nzS_X nzS_Y nzS_Z
 refine (SY.out _).mono ?_
 rintro e3 w3 ⟨rfl,hb3⟩
 refine up4 hb3 HB KX KY KZ KS ?_
 clear hb3 HB KX KY KZ KS
 intro HB KX KY KZ KS
 go_wp2_with fail
 obtain ⟨KD,hb4⟩:=alB w3 #[.int .u64 (hiW d),.int .u64 (loW d)] 196
 have hnD:=HB.out.size
 have nzD_X:=KX.out.lt
 have nzD_Y:=KY.out.lt
 have nzD_Z:=KZ.out.lt
 have nzD_S:=KS.out.lt
 refine up4 hb4 HB KX KY KZ KS ?_
 clear hb4 HB KX KY KZ KS
 intro HB KX KY KZ KS
 generalize w3.alloc _ = w4 at *
 generalize w3.heap.size = bD at *
 have neD_X:bD≠w.heap.size:=by omega
 have neD_Y:bD≠(w.heap.size + 1):=by omega
 have neD_Z:bD≠(w.heap.size + 1 + 1):=by omega
 have neD_S:bD≠bS:=by omega
 clear nzD_X nzD_Y nzD_Z nzD_S
 refine (ZD.out _).mono ?_
 rintro e5 w5 ⟨rfl,hb5⟩
 refine up5 hb5 HB KX KY KZ KS KD ?_
 clear hb5 HB KX KY KZ KS KD
 intro HB KX KY KZ KS KD
 obtain ⟨yS0,yS1,ySz⟩:=blk2 KS
 obtain ⟨yD0,yD1,yDz⟩:=blk2 KD
 go_wp2_with fail
 refine (OV.out _).mono ?_
 rintro e6 w6 ⟨rfl,hb6⟩
 refine up5 hb6 HB KX KY KZ KS KD ?_
 clear hb6 yS0 yS1 ySz yD0 yD1 yDz HB KX KY KZ KS KD
 intro HB KX KY KZ KS KD
 go_wp2_with fail
 have KQ:=Lib.hid ((Blk.of (vs:=#[.int .u64 (hiW q),.int .u64 (loW q)]) (t:=196) (w:=w6) (b:=w6.heap.size) rfl).alloc (.cells #[.int .u64 (hiW r),.int .u64 (loW r)] 196))
 have KR:=Lib.hid (Blk.of (vs:=#[.int .u64 (hiW r),.int .u64 (loW r)]) (t:=196) (w:=w6.alloc (.cells #[.int .u64 (hiW q),.int .u64 (loW q)] 196)) (b:=w6.heap.size + 1) (by simp))
 have hb7:Below w6.heap.size w6 ((w6.alloc (.cells #[.int .u64 (hiW q),.int .u64 (loW q)] 196)).alloc (.cells #[.int .u64 (hiW r),.int .u64 (loW r)] 196)):=((Below.refl _ _).alloc (Nat.le_refl _) _).alloc (by simp) _
 have hnQ:=HB.out.size
 have nzQ_X:=KX.out.lt
 have nzQ_Y:=KY.out.lt
 have nzQ_Z:=KZ.out.lt
 have nzQ_S:=KS.out.lt
 have nzQ_D:=KD.out.lt
 refine up5 hb7 HB KX KY KZ KS KD ?_
 clear hb7 HB KX KY KZ KS KD
 intro HB KX KY KZ KS KD
 generalize (w6.alloc _).alloc _ = w7 at *
 generalize w6.heap.size = bQ at *
 have neQ_X:bQ≠w.heap.size:=by omega
 have neR_X:bQ + 1≠w.heap.size:=by omega
 have neQ_Y:bQ≠(w.heap.size + 1):=by omega
 have neR_Y:bQ + 1≠(w.heap.size + 1):=by omega
 have neQ_Z:bQ≠(w.heap.size + 1 + 1):=by omega
 have neR_Z:bQ + 1≠(w.heap.size + 1 + 1):=by omega
 have neQ_S:bQ≠bS:=by omega
 have neR_S:bQ + 1≠bS:=by omega
 have neQ_D:bQ≠bD:=by omega
 have neR_D:bQ + 1≠bD:=by omega
 clear nzQ_X nzQ_Y nzQ_Z nzQ_S nzQ_D
 refine (ZR.out _).mono ?_
 rintro e8 w8 ⟨rfl,hb8⟩
 refine up7 hb8 HB KX KY KZ KS KD KQ KR ?_
 clear hb8 HB KX KY KZ KS KD KQ KR
 intro HB KX KY KZ KS KD KQ KR
 go_wp2_with fail
 skip
 have gR_0:=fun d os=>cell_regrown (KR.out.c 0 _ rfl) d os
 have gR_1:=fun d os=>cell_regrown (KR.out.c 1 _ rfl) d os
 have gD_0:=fun d os=>cell_regrown (KD.out.c 0 _ rfl) d os
 have gD_1:=fun d os=>cell_regrown (KD.out.c 1 _ rfl) d os
 have rv0:=Lib.hid (fun d os=>Calls.regrown_of (LS.out (Go.Sort.grow (redrawn w8 d) os)))
 have rv1:=Lib.hid (fun d os=>Calls.regrown_of (CM.out (Go.Sort.grow (redrawn w8 d) os)))
 refine wp_region_quiet_below (by kernel_rfl) (by kernel_rfl) ?_
 repeat (quiet_step (first | with_reducible exact rv0.out _ _ | with_reducible exact rv1.out _ _))
 refine wpQuiet_nil ?_
 intro w9 hw9
 have hb9:Below w8.heap.size w8 w9:=by
  obtain ⟨⟨dq,osq⟩,hw2⟩:=hw9
  rw [hw2]; exact below_regrown _ dq osq
 clear gR_0 gR_1 gD_0 gD_1 rv0 rv1 hw9
 refine up7 hb9 HB KX KY KZ KS KD KQ KR ?_
 clear hb9 HB KX KY KZ KS KD KQ KR
 intro HB KX KY KZ KS KD KQ KR
 obtain ⟨yQ0,yQ1,yQz,yQf0,yQf1⟩:=blf2 KQ
 go_wp2_with fail
 refine (J.out _).mono ?_
 rintro e10 w10 ⟨rfl,hb10⟩
 refine up7 hb10 HB KX KY KZ KS KD KQ KR ?_
 clear hb10 yQ0 yQ1 yQz yQf0 yQf1 HB KX KY KZ KS KD KQ KR
 intro HB KX KY KZ KS KD KQ KR
 obtain ⟨yZ0,yZ1,yZz,yZf0,yZf1⟩:=blf2 KZ
 go_wp2
 replace KZ:=kst (kst KZ 0 (.int .i64 (hiW v))) 1 (.int .u64 (loW v))
 refine ot6 (st2 w10 (w.heap.size + 1 + 1) 0 (.int .i64 (hiW v)) 1 (.int .u64 (loW v))) HB KX KY KS KD KQ KR (by omega) (by omega) (by omega) (by omega) (by omega) (by omega) (by omega) ?_
 clear HB KX KY KS KD KQ KR
 intro HB KX KY KS KD KQ KR
 clear yZ0 yZ1 yZz yZf0 yZf1
 generalize (w10.setCell _ _).setCell _ _ = w11 at *
 simp only [List.set] at KZ
 obtain ⟨yZ0,yZ1,yZz⟩:=blk2 KZ
 refine bodyPost_ret (v:=.tuple #[.agg #[.int .i64 (hiW v),.int .u64 (loW v)],.bool true]) (by simp [results,Tryz.results222,go_sem,yZ0,yZ1]) rfl ⟨rfl,HB.out⟩
theorem div_path9 (x d q r v:Int) (w:World) (h:DivW x d true false q r 1) (h0:0≤q) (h1:q < 85070591730234615865843651857942052864) (hv:v = sgn true (q + 1)) :
 Calls Tryz.prog 222 #[wv x,wv d,.int .i64 0] w fun e w'=>e = .returned (.tuple #[wv v,.bool true])∧Below w.heap.size w w':=by
 have J:=Lib.hid fun w=>join_any (q + 1) true w (by omega) (by omega)
 rw [← hv] at J
 clear hv
 unfold wv at J ⊢
 have S1:=fun w=>add64 (loW q) 1 0 (by unfold loW; omega) (by omega) (by omega) (by omega) w
 have I1:=inc_hi h0 h1
 have I2:=inc_lo q
 rw [I2] at S1
 generalize (loW q + 1 + 0) / 18446744073709551616 = cc at *
 clear h0 h1
 have SX:=Lib.hid h.sx
 have SY:=Lib.hid h.sy
 have ZD:=Lib.hid h.zd
 have OV:=Lib.hid h.ov
 have ZR:=Lib.hid h.zr
 have LS:=Lib.hid h.ls
 have CM:=Lib.hid h.cm
 clear h
 obtain ⟨KX,KY,KZ,HB⟩:=ent3 w #[.int .i64 (hiW x),.int .u64 (loW x)] 112 #[.int .i64 (hiW d),.int .u64 (loW d)] 112 #[.int .i64 0,.int .u64 0] 112
 go_enter Tryz.func222,Tryz.ntmps222
 go_wp2_with fail
 generalize ((w.alloc _).alloc _).alloc _ = w0 at *
 refine (SX.out _).mono ?_
 rintro e1 w1 ⟨rfl,hb1⟩
 refine up3 hb1 HB KX KY KZ ?_
 clear hb1 HB KX KY KZ
 intro HB KX KY KZ
 obtain ⟨yY0,yY1,yYz⟩:=blk2 KY
 go_wp2_with fail
 obtain ⟨KS,hb2⟩:=alB w1 #[.int .u64 (hiW (absW x)),.int .u64 (loW (absW x))] 196
 have hnS:=HB.out.size
 have nzS_X:=KX.out.lt
 have nzS_Y:=KY.out.lt
 have nzS_Z:=KZ.out.lt
 refine up3 hb2 HB KX KY KZ ?_
 clear hb2 yY0 yY1 yYz HB KX KY KZ
 intro HB KX KY KZ
 generalize w1.alloc _ = w2 at *
 generalize w1.heap.size = bS at *
 have neS_X:bS≠w.heap.size:=by omega
 have neS_Y:bS≠(w.heap.size + 1):=by omega
 have neS_Z:bS≠(w.heap.size + 1 + 1):=by omega
 clear nzS_X nzS_Y nzS_Z
 refine (SY.out _).mono ?_
 rintro e3 w3 ⟨rfl,hb3⟩
 refine up4 hb3 HB KX KY KZ KS ?_
 clear hb3 HB KX KY KZ KS
 intro HB KX KY KZ KS
 go_wp2_with fail
 obtain ⟨KD,hb4⟩:=alB w3 #[.int .u64 (hiW d),.int .u64 (loW d)] 196
 have hnD:=HB.out.size
 have nzD_X:=KX.out.lt
 have nzD_Y:=KY.out.lt
 have nzD_Z:=KZ.out.lt
 have nzD_S:=KS.out.lt
 refine up4 hb4 HB KX KY KZ KS ?_
 clear hb4 HB KX KY KZ KS
 intro HB KX KY KZ KS
 generalize w3.alloc _ = w4 at *
 generalize w3.heap.size = bD at *
 have neD_X:bD≠w.heap.size:=by omega
 have neD_Y:bD≠(w.heap.size + 1):=by omega
 have neD_Z:bD≠(w.heap.size + 1 + 1):=by omega
 have neD_S:bD≠bS:=by omega
 clear nzD_X nzD_Y nzD_Z nzD_S
 refine (ZD.out _).mono ?_
 rintro e5 w5 ⟨rfl,hb5⟩
 refine up5 hb5 HB KX KY KZ KS KD ?_
 clear hb5 HB KX KY KZ KS KD
 intro HB KX KY KZ KS KD
 obtain ⟨yS0,yS1,ySz⟩:=blk2 KS
 obtain ⟨yD0,yD1,yDz⟩:=blk2 KD
 go_wp2_with fail
 refine (OV.out _).mono ?_
 rintro e6 w6 ⟨rfl,hb6⟩
 refine up5 hb6 HB KX KY KZ KS KD ?_
 clear hb6 yS0 yS1 ySz yD0 yD1 yDz HB KX KY KZ KS KD
 intro HB KX KY KZ KS KD
 go_wp2_with fail
 have KQ:=Lib.hid ((Blk.of (vs:=#[.int .u64 (hiW q),.int .u64 (loW q)]) (t:=196) (w:=w6) (b:=w6.heap.size) rfl).alloc (.cells #[.int .u64 (hiW r),.int .u64 (loW r)] 196))
 have KR:=Lib.hid (Blk.of (vs:=#[.int .u64 (hiW r),.int .u64 (loW r)]) (t:=196) (w:=w6.alloc (.cells #[.int .u64 (hiW q),.int .u64 (loW q)] 196)) (b:=w6.heap.size + 1) (by simp))
 have hb7:Below w6.heap.size w6 ((w6.alloc (.cells #[.int .u64 (hiW q),.int .u64 (loW q)] 196)).alloc (.cells #[.int .u64 (hiW r),.int .u64 (loW r)] 196)):=((Below.refl _ _).alloc (Nat.le_refl _) _).alloc (by simp) _
 have hnQ:=HB.out.size
 have nzQ_X:=KX.out.lt
 have nzQ_Y:=KY.out.lt
 have nzQ_Z:=KZ.out.lt
 have nzQ_S:=KS.out.lt
 have nzQ_D:=KD.out.lt
 refine up5 hb7 HB KX KY KZ KS KD ?_
 clear hb7 HB KX KY KZ KS KD
 intro HB KX KY KZ KS KD
 generalize (w6.alloc _).alloc _ = w7 at *
 generalize w6.heap.size = bQ at *
 have neQ_X:bQ≠w.heap.size:=by omega
 have neR_X:bQ + 1≠w.heap.size:=by omega
 have neQ_Y:bQ≠(w.heap.size + 1):=by omega
 have neR_Y:bQ + 1≠(w.heap.size + 1):=by omega
 have neQ_Z:bQ≠(w.heap.size + 1 + 1):=by omega
 have neR_Z:bQ + 1≠(w.heap.size + 1 + 1):=by omega
 have neQ_S:bQ≠bS:=by omega
 have neR_S:bQ + 1≠bS:=by omega
 have neQ_D:bQ≠bD:=by omega
 have neR_D:bQ + 1≠bD:=by omega
 clear nzQ_X nzQ_Y nzQ_Z nzQ_S nzQ_D
 refine (ZR.out _).mono ?_
 rintro e8 w8 ⟨rfl,hb8⟩
 refine up7 hb8 HB KX KY KZ KS KD KQ KR ?_
 clear hb8 HB KX KY KZ KS KD KQ KR
 intro HB KX KY KZ KS KD KQ KR
 go_wp2_with fail
 skip
 have gR_0:=fun d os=>cell_regrown (KR.out.c 0 _ rfl) d os
 have gR_1:=fun d os=>cell_regrown (KR.out.c 1 _ rfl) d os
 have gD_0:=fun d os=>cell_regrown (KD.out.c 0 _ rfl) d os
 have gD_1:=fun d os=>cell_regrown (KD.out.c 1 _ rfl) d os
 have rv0:=Lib.hid (fun d os=>Calls.regrown_of (LS.out (Go.Sort.grow (redrawn w8 d) os)))
 have rv1:=Lib.hid (fun d os=>Calls.regrown_of (CM.out (Go.Sort.grow (redrawn w8 d) os)))
 refine wp_region_quiet_below (by kernel_rfl) (by kernel_rfl) ?_
 repeat (quiet_step (first | with_reducible exact rv0.out _ _ | with_reducible exact rv1.out _ _))
 refine wpQuiet_nil ?_
 intro w9 hw9
 have hb9:Below w8.heap.size w8 w9:=by
  obtain ⟨⟨dq,osq⟩,hw2⟩:=hw9
  rw [hw2]; exact below_regrown _ dq osq
 clear gR_0 gR_1 gD_0 gD_1 rv0 rv1 hw9
 refine up7 hb9 HB KX KY KZ KS KD KQ KR ?_
 clear hb9 HB KX KY KZ KS KD KQ KR
 intro HB KX KY KZ KS KD KQ KR
 obtain ⟨yQ0,yQ1,yQz,yQf0,yQf1⟩:=blf2 KQ
 go_wp2_with fail
 replace KQ:=kst (kst KQ 0 (.int .u64 (hiW (q + 1)))) 1 (.int .u64 (loW (q + 1)))
 refine ot6 (st2 w9 bQ 0 (.int .u64 (hiW (q + 1))) 1 (.int .u64 (loW (q + 1)))) HB KX KY KZ KS KD KR (by omega) (by omega) (by omega) (by omega) (by omega) (by omega) (by omega) ?_
 clear HB KX KY KZ KS KD KR
 intro HB KX KY KZ KS KD KR
 clear yQ0 yQ1 yQz yQf0 yQf1
 generalize (w9.setCell _ _).setCell _ _ = w10 at *
 simp only [List.set] at KQ
 refine (J.out _).mono ?_
 rintro e11 w11 ⟨rfl,hb11⟩
 refine up7 hb11 HB KX KY KZ KS KD KQ KR ?_
 clear hb11 HB KX KY KZ KS KD KQ KR
 intro HB KX KY KZ KS KD KQ KR
 obtain ⟨yZ0,yZ1,yZz,yZf0,yZf1⟩:=blf2 KZ
 go_wp2
 replace KZ:=kst (kst KZ 0 (.int .i64 (hiW v))) 1 (.int .u64 (loW v))
 refine ot6 (st2 w11 (w.heap.size + 1 + 1) 0 (.int .i64 (hiW v)) 1 (.int .u64 (loW v))) HB KX KY KS KD KQ KR (by omega) (by omega) (by omega) (by omega) (by omega) (by omega) (by omega) ?_
 clear HB KX KY KS KD KQ KR
 intro HB KX KY KS KD KQ KR
 clear yZ0 yZ1 yZz yZf0 yZf1
 generalize (w11.setCell _ _).setCell _ _ = w12 at *
 simp only [List.set] at KZ
 obtain ⟨yZ0,yZ1,yZz⟩:=blk2 KZ
 refine bodyPost_ret (v:=.tuple #[.agg #[.int .i64 (hiW v),.int .u64 (loW v)],.bool true]) (by simp [results,Tryz.results222,go_sem,yZ0,yZ1]) rfl ⟨rfl,HB.out⟩
set_option maxHeartbeats 200000
set_option maxRecDepth 512
theorem div_parts {x d:Int} (hx0:-85070591730234615865843651857942052864 < x) (hx:x < 85070591730234615865843651857942052864) (hd:0 < d) :
 0≤absW x / d∧absW x / d < 85070591730234615865843651857942052864∧0≤absW x % d∧absW x % d < d:=by
 have ax0:=absW_nonneg x
 have ax1:absW x < 85070591730234615865843651857942052864:=by unfold absW; split <;> omega
 refine ⟨Int.ediv_nonneg ax0 (by omega),?_,Int.emod_nonneg _ (by omega),Int.emod_lt_of_pos _ hd⟩
 exact Int.lt_of_le_of_lt (Int.ediv_le_self _ ax0) ax1
theorem wdivide_up (x d:Int) (w:World) (hx0:0≤x) (hx:x < 85070591730234615865843651857942052864) (hd:0 < d) (hd1:d < 85070591730234615865843651857942052864) :
 Calls Tryz.prog 222 #[wv x,wv d,.int .i64 1] w fun e w'=>e = .returned (.tuple #[wv (ceilI x d),.bool true])∧Below w.heap.size w w':=by
 have W:=div_world (x:=x) (d:=d) (q:=absW x / d) (r:=absW x % d) (by omega) hx hd hd1 rfl rfl
 obtain ⟨p0,p1,p2,p3⟩:=div_parts (x:=x) (by omega) hx hd
 have ea:absW x = x:=by unfold absW; rw [if_neg (by omega)]
 have hn:decide (x < 0) = false:=by simp; omega
 have U:=up_pos (x:=x) hd
 rw [hn] at W
 rw [ea] at W p0 p1 p2 p3
 by_cases hr:x % d = 0
 ·rw [decide_eq_true hr] at W
  exact div_path0 x d _ _ _ _ w W p0 p1 (by rw [U,if_neg (by omega)]; unfold sgn; simp)
 ·rw [decide_eq_false hr] at W
  exact div_path1 x d _ _ _ _ w W p0 p1 (by rw [U,if_pos hr]; unfold sgn; simp)
theorem wdivide_near (x d:Int) (w:World) (hx0:-85070591730234615865843651857942052864 < x) (hx:x < 85070591730234615865843651857942052864) (hd:0 < d) (hd1:d < 85070591730234615865843651857942052864) :
 Calls Tryz.prog 222 #[wv x,wv d,.int .i64 0] w fun e w'=>e = .returned (.tuple #[wv (nearI2 x d),.bool true])∧Below w.heap.size w w':=by
 have W:=div_world (x:=x) (d:=d) (q:=absW x / d) (r:=absW x % d) hx0 hx hd hd1 rfl rfl
 obtain ⟨p0,p1,p2,p3⟩:=div_parts (x:=x) hx0 hx hd
 by_cases hn:x < 0
 ·have U:=near_negW (x:=x) hd
  rw [decide_eq_true hn] at W
  have ea:absW x = -x:=by unfold absW; rw [if_pos hn]
  rw [ea] at W p0 p1 p2 p3
  generalize (-x) / d = q at *
  generalize (-x) % d = r at *
  by_cases hr:r = 0
  ·rw [decide_eq_true hr,show cmpI r (d - r) = -1 by unfold cmpI; rw [if_pos (by omega)]] at W
   exact div_path6 x d _ _ _ w W p0 p1 (by rw [U,if_neg (by omega)]; unfold sgn; simp)
  ·rw [decide_eq_false hr] at W
   rcases Int.lt_trichotomy r (d - r) with h | h | h
   ·rw [show cmpI r (d - r) = -1 by unfold cmpI; rw [if_pos h]] at W
    exact div_path7 x d _ _ _ w W p0 p1 (by rw [U,if_neg (by omega)]; unfold sgn; simp)
   ·rw [show cmpI r (d - r) = 0 by unfold cmpI; rw [if_neg (by omega),if_neg (by omega)]] at W
    exact div_path8 x d _ _ _ w W p0 p1 (by rw [U,if_neg (by omega)]; unfold sgn; simp)
   ·rw [show cmpI r (d - r) = 1 by unfold cmpI; rw [if_neg (by omega),if_pos h]] at W
    exact div_path9 x d _ _ _ w W p0 p1 (by rw [U,if_pos (by omega)]; unfold sgn; simp)
 ·have U:=near_posW (x:=x) hd
  rw [decide_eq_false hn] at W
  have ea:absW x = x:=by unfold absW; rw [if_neg hn]
  rw [ea] at W p0 p1 p2 p3
  generalize x / d = q at *
  generalize x % d = r at *
  by_cases hr:r = 0
  ·rw [decide_eq_true hr,show cmpI r (d - r) = -1 by unfold cmpI; rw [if_pos (by omega)]] at W
   exact div_path2 x d _ _ _ w W p0 p1 (by rw [U,if_neg (by omega)]; unfold sgn; simp)
  ·rw [decide_eq_false hr] at W
   rcases Int.lt_trichotomy r (d - r) with h | h | h
   ·rw [show cmpI r (d - r) = -1 by unfold cmpI; rw [if_pos h]] at W
    exact div_path3 x d _ _ _ w W p0 p1 (by rw [U,if_neg (by omega)]; unfold sgn; simp)
   ·rw [show cmpI r (d - r) = 0 by unfold cmpI; rw [if_neg (by omega),if_neg (by omega)]] at W
    exact div_path4 x d _ _ _ w W p0 p1 (by rw [U,if_pos (by omega)]; unfold sgn; simp)
   ·rw [show cmpI r (d - r) = 1 by unfold cmpI; rw [if_neg (by omega),if_pos h]] at W
    exact div_path5 x d _ _ _ w W p0 p1 (by rw [U,if_pos (by omega)]; unfold sgn; simp)
set_option maxHeartbeats 4000000
set_option maxRecDepth 100000
theorem wdivup_any (x d:Int) (w:World) (hx0:0≤x) (hx:x < 85070591730234615865843651857942052864) (hd:0 < d) (hd1:d < 85070591730234615865843651857942052864) :
 Calls Tryz.prog 224 #[wv x,wv d] w fun e w'=>e = .returned (.tuple #[wv (ceilI x d),.bool true])∧Below w.heap.size w w':=by
 have DV:=Lib.hid fun w=>wdivide_up x d w hx0 hx hd hd1
 generalize ceilI x d = v at *
 clear hx0 hx hd hd1
 unfold wv at DV ⊢
 obtain ⟨KX,KY,KZ,HB⟩:=ent3 w #[.int .i64 (hiW x),.int .u64 (loW x)] 112 #[.int .i64 (hiW d),.int .u64 (loW d)] 112 #[.int .i64 0,.int .u64 0] 112
 go_enter Tryz.func224,Tryz.ntmps224
 go_wp2_with fail
 generalize ((w.alloc _).alloc _).alloc _ = w0 at *
 refine (DV.out _).mono ?_
 rintro e1 w1 ⟨rfl,hb1⟩
 refine up3 hb1 HB KX KY KZ ?_
 clear hb1 HB KX KY KZ
 intro HB KX KY KZ
 obtain ⟨yZ0,yZ1,yZz,yZf0,yZf1⟩:=blf2 KZ
 go_wp2
 replace KZ:=kst (kst KZ 0 (.int .i64 (hiW v))) 1 (.int .u64 (loW v))
 refine ot2 (st2 w1 (w.heap.size + 1 + 1) 0 (.int .i64 (hiW v)) 1 (.int .u64 (loW v))) HB KX KY (by omega) (by omega) (by omega) ?_
 clear HB KX KY
 intro HB KX KY
 clear yZ0 yZ1 yZz yZf0 yZf1
 generalize (w1.setCell _ _).setCell _ _ = w2 at *
 simp only [List.set] at KZ
 obtain ⟨yZ0,yZ1,yZz⟩:=blk2 KZ
 refine bodyPost_ret (v:=.tuple #[.agg #[.int .i64 (hiW v),.int .u64 (loW v)],.bool true]) (by simp [results,Tryz.results224,go_sem,yZ0,yZ1]) rfl ⟨rfl,HB.out⟩
theorem wnear_any (x d:Int) (w:World) (hx0:-85070591730234615865843651857942052864 < x) (hx:x < 85070591730234615865843651857942052864) (hd:0 < d) (hd1:d < 85070591730234615865843651857942052864) :
 Calls Tryz.prog 181 #[wv x,wv d] w fun e w'=>e = .returned (.tuple #[wv (nearI2 x d),.bool true])∧Below w.heap.size w w':=by
 have DV:=Lib.hid fun w=>wdivide_near x d w hx0 hx hd hd1
 generalize nearI2 x d = v at *
 clear hx0 hx hd hd1
 unfold wv at DV ⊢
 obtain ⟨KX,KY,KZ,HB⟩:=ent3 w #[.int .i64 (hiW x),.int .u64 (loW x)] 112 #[.int .i64 (hiW d),.int .u64 (loW d)] 112 #[.int .i64 0,.int .u64 0] 112
 go_enter Tryz.func181,Tryz.ntmps181
 go_wp2_with fail
 generalize ((w.alloc _).alloc _).alloc _ = w0 at *
 refine (DV.out _).mono ?_
 rintro e1 w1 ⟨rfl,hb1⟩
 refine up3 hb1 HB KX KY KZ ?_
 clear hb1 HB KX KY KZ
 intro HB KX KY KZ
 obtain ⟨yZ0,yZ1,yZz,yZf0,yZf1⟩:=blf2 KZ
 go_wp2
 replace KZ:=kst (kst KZ 0 (.int .i64 (hiW v))) 1 (.int .u64 (loW v))
 refine ot2 (st2 w1 (w.heap.size + 1 + 1) 0 (.int .i64 (hiW v)) 1 (.int .u64 (loW v))) HB KX KY (by omega) (by omega) (by omega) ?_
 clear HB KX KY
 intro HB KX KY
 clear yZ0 yZ1 yZz yZf0 yZf1
 generalize (w1.setCell _ _).setCell _ _ = w2 at *
 simp only [List.set] at KZ
 obtain ⟨yZ0,yZ1,yZz⟩:=blk2 KZ
 refine bodyPost_ret (v:=.tuple #[.agg #[.int .i64 (hiW v),.int .u64 (loW v)],.bool true]) (by simp [results,Tryz.results181,go_sem,yZ0,yZ1]) rfl ⟨rfl,HB.out⟩
end Go.Proofs.YtajmjkliblippaaGreatDoor
