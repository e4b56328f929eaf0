/-
  The walks of Start, report, cut and inertial.Within.
-/
import Derived.Test.YtajmjkliblippaaGreatDoorQ12
import Derived.Test.YtajmjkliblippaaGreatDoorQ14
import Derived.Test.YtajmjkliblippaaGreatDoorQ20
set_option linter.unusedVariables false
namespace Go.Proofs.YtajmjkliblippaaGreatDoor
open Go.RowKit
theorem st8 (W:World) (n:Nat) (j0:Nat) (u0:Value) (j1:Nat) (u1:Value) (j2:Nat) (u2:Value) (j3:Nat) (u3:Value) (j4:Nat) (u4:Value) (j5:Nat) (u5:Value) (j6:Nat) (u6:Value) (j7:Nat) (u7:Value):Oth n W ((((((((W.setCell ⟨n,j0,none⟩ u0).setCell ⟨n,j1,none⟩ u1).setCell ⟨n,j2,none⟩ u2).setCell ⟨n,j3,none⟩ u3).setCell ⟨n,j4,none⟩ u4).setCell ⟨n,j5,none⟩ u5).setCell ⟨n,j6,none⟩ u6).setCell ⟨n,j7,none⟩ u7):=(((((((((Oth.refl n W).set j0 u0).set j1 u1).set j2 u2).set j3 u3).set j4 u4).set j5 u5).set j6 u6).set j7 u7)
set_option maxHeartbeats 40000000
set_option maxRecDepth 100000
theorem start_good (b:Bx4) (t:Int) (w:World) (h:chkS b t 0 = 0):Calls Tryz.prog 12 #[.agg #[.int .i64 b.cx,.int .i64 b.cy,.int .i64 b.x,.int .i64 b.y],.int .i64 t] w fun e w'=>e = .returned (.tuple #[.agg #[.int .i64 b.cx,.int .i64 b.cy,.int .i64 b.x,.int .i64 b.y,.int .i64 t,.int .i64 0],.int .i64 0])∧Below w.heap.size w w':=by
 have C0:=fun w=>ncheck_any b t 0 w
 rw [h] at C0
 have CK:=Lib.hid C0
 clear C0 h
 obtain ⟨cx,cy,x,y⟩:=b
 simp only at CK
 obtain ⟨KB,KZ,HB⟩:=ent2 w #[.int .i64 cx,.int .i64 cy,.int .i64 x,.int .i64 y] 25 #[.int .i64 0,.int .i64 0,.int .i64 0,.int .i64 0,.int .i64 0,.int .i64 0] 27
 go_enter Tryz.func12,Tryz.ntmps12
 go_upto_region 1 with (fail)
 generalize (w.alloc _).alloc _ = w0 at *
 obtain ⟨yB0,yB1,yB2,yB3,yBz⟩:=blk4 KB
 go_upto_region 2 with (fail)
 obtain ⟨KN,hb1⟩:=alB w0 #[.int .i64 cx,.int .i64 cy,.int .i64 x,.int .i64 y,.int .i64 t,.int .i64 0] 27
 have hnN:=HB.out.size
 have nzN_B:=KB.out.lt
 have nzN_Z:=KZ.out.lt
 refine up2 hb1 HB KB KZ ?_
 clear hb1 yB0 yB1 yB2 yB3 yBz HB KB KZ
 intro HB KB KZ
 generalize w0.alloc _ = w1 at *
 generalize w0.heap.size = bN at *
 have neN_B:bN≠w.heap.size:=by omega
 have neN_Z:bN≠(w.heap.size + 1):=by omega
 clear nzN_B nzN_Z
 obtain ⟨yN0,yN1,yN2,yN3,yN4,yN5,yNz⟩:=blk6 KN
 go_wp2_with fail
 refine (CK.out _).mono ?_
 rintro e2 w2 ⟨rfl,hb2⟩
 refine up3 hb2 HB KB KZ KN ?_
 clear hb2 yN0 yN1 yN2 yN3 yN4 yN5 yNz HB KB KZ KN
 intro HB KB KZ KN
 obtain ⟨yZ0,yZ1,yZ2,yZ3,yZ4,yZ5,yZz,yZf0,yZf1,yZf2,yZf3,yZf4,yZf5⟩:=blf6 KZ
 obtain ⟨yN0,yN1,yN2,yN3,yN4,yN5,yNz⟩:=blk6 KN
 go_wp2
 replace KZ:=kst (kst (kst (kst (kst (kst KZ 0 (.int .i64 cx)) 1 (.int .i64 cy)) 2 (.int .i64 x)) 3 (.int .i64 y)) 4 (.int .i64 t)) 5 (.int .i64 0)
 refine ot2 (st6 w2 (w.heap.size + 1) 0 (.int .i64 cx) 1 (.int .i64 cy) 2 (.int .i64 x) 3 (.int .i64 y) 4 (.int .i64 t) 5 (.int .i64 0)) HB KB KN (by omega) (by omega) (by omega) ?_
 clear HB KB KN
 intro HB KB KN
 clear yZ0 yZ1 yZ2 yZ3 yZ4 yZ5 yZz yZf0 yZf1 yZf2 yZf3 yZf4 yZf5 yN0 yN1 yN2 yN3 yN4 yN5 yNz
 generalize (((((w2.setCell _ _).setCell _ _).setCell _ _).setCell _ _).setCell _ _).setCell _ _ = w3 at *
 simp only [List.set] at KZ
 obtain ⟨yZ0,yZ1,yZ2,yZ3,yZ4,yZ5,yZz⟩:=blk6 KZ
 refine bodyPost_ret (v:=.tuple #[.agg #[.int .i64 cx,.int .i64 cy,.int .i64 x,.int .i64 y,.int .i64 t,.int .i64 0],.int .i64 0]) (by simp [results,Tryz.results12,go_sem,yZ0,yZ1,yZ2,yZ3,yZ4,yZ5]) rfl ⟨rfl,HB.out⟩
theorem report_any (s x y:Int) (w:World):Calls Tryz.prog 29 #[.int .i64 s,.int .i64 x,.int .i64 y] w fun e w'=>e = .returned (.agg #[.int .i64 s,.int .u8 1,.int .i64 x,.int .i64 y,.int .i64 0,.int .i64 20,.int .i64 1,.int .i64 12])∧Below w.heap.size w w':=by
 obtain ⟨KZ,HB⟩:=ent1 w #[.int .i64 0,.int .u8 0,.int .i64 0,.int .i64 0,.int .i64 0,.int .i64 0,.int .i64 0,.int .i64 0] 49
 go_enter Tryz.func29,Tryz.ntmps29
 go_upto_region 1 with (fail)
 generalize w.alloc _ = w0 at *
 obtain ⟨yZ0,yZ1,yZ2,yZ3,yZ4,yZ5,yZ6,yZ7,yZz,yZf0,yZf1,yZf2,yZf3,yZf4,yZf5,yZf6,yZf7⟩:=blf8 KZ
 go_wp2
 have hs:=st8 w0 w.heap.size 0 (.int .i64 s) 1 (.int .u8 1) 2 (.int .i64 x) 3 (.int .i64 y) 4 (.int .i64 0) 5 (.int .i64 20) 6 (.int .i64 1) 7 (.int .i64 12)
 replace KZ:=kst (kst (kst (kst (kst (kst (kst (kst KZ 0 (.int .i64 s)) 1 (.int .u8 1)) 2 (.int .i64 x)) 3 (.int .i64 y)) 4 (.int .i64 0)) 5 (.int .i64 20)) 6 (.int .i64 1)) 7 (.int .i64 12)
 replace HB:=oH hs HB (by omega)
 clear hs
 clear yZ0 yZ1 yZ2 yZ3 yZ4 yZ5 yZ6 yZ7 yZz yZf0 yZf1 yZf2 yZf3 yZf4 yZf5 yZf6 yZf7
 generalize (((((((w0.setCell _ _).setCell _ _).setCell _ _).setCell _ _).setCell _ _).setCell _ _).setCell _ _).setCell _ _ = w1 at *
 simp only [List.set] at KZ
 obtain ⟨yZ0,yZ1,yZ2,yZ3,yZ4,yZ5,yZ6,yZ7,yZz⟩:=blk8 KZ
 refine bodyPost_ret (v:=.agg #[.int .i64 s,.int .u8 1,.int .i64 x,.int .i64 y,.int .i64 0,.int .i64 20,.int .i64 1,.int .i64 12]) (by simp [results,Tryz.results29,go_sem,yZ0,yZ1,yZ2,yZ3,yZ4,yZ5,yZ6,yZ7]) rfl ⟨rfl,HB.out⟩
theorem cut_any (tk ve vn dr rq:Int) (L:List Rp) (v:Value) (w:World) (h:RlG L v w):Calls Tryz.prog 16 #[.agg #[.int .i64 tk,v,.int .i64 ve,.int .i64 vn,.int .i64 dr,.int .i64 rq]] w fun e w'=>(∃ v',e = .returned (.agg #[.int .i64 tk,v',.int .i64 ve,.int .i64 vn,.int .i64 dr,.int .i64 rq])∧∀ W,RlG L v W→RlG (L.take 10) v' W)∧Below w.heap.size w w':=by
 obtain ⟨p,cap,rfl⟩:=rg_form h
 by_cases h10:10 < L.length
 ·obtain ⟨e1,e2,e3⟩:=rg_cap h
  have HC:=Lib.hid fun (W:World) (h:RlG L (.slice p L.length cap) W)=>rg_take h (n:=10) (by omega)
  have m1:min (L.length:Int) 10 = 10:=by omega
  have m2:10≤cap:=by omega
  clear e1 e2 e3 h10 h
  obtain ⟨KI,KZ,HB⟩:=ent2 w #[.int .i64 tk,.slice p L.length cap,.int .i64 ve,.int .i64 vn,.int .i64 dr,.int .i64 rq] 38 #[.int .i64 0,.slice none 0 0,.int .i64 0,.int .i64 0,.int .i64 0,.int .i64 0] 38
  go_enter Tryz.func16,Tryz.ntmps16
  go_upto_region 1 with (fail)
  generalize (w.alloc _).alloc _ = w0 at *
  obtain ⟨yI0,yI1,yI2,yI3,yI4,yI5,yIz,yIf0,yIf1,yIf2,yIf3,yIf4,yIf5⟩:=blf6 KI
  go_upto_region 2 with (fail)
  replace KI:=kst KI 1 (.slice p 10 cap)
  refine ot1 (st1 w0 w.heap.size 1 (.slice p 10 cap)) HB KZ (by omega) (by omega) ?_
  clear HB KZ
  intro HB KZ
  clear yI0 yI1 yI2 yI3 yI4 yI5 yIz yIf0 yIf1 yIf2 yIf3 yIf4 yIf5
  generalize w0.setCell _ _ = w1 at *
  simp only [List.set] at KI
  obtain ⟨yI0,yI1,yI2,yI3,yI4,yI5,yIz⟩:=blk6 KI
  obtain ⟨yZ0,yZ1,yZ2,yZ3,yZ4,yZ5,yZz,yZf0,yZf1,yZf2,yZf3,yZf4,yZf5⟩:=blf6 KZ
  go_wp2
  replace KZ:=kst (kst (kst (kst (kst (kst KZ 0 (.int .i64 tk)) 1 (.slice p 10 cap)) 2 (.int .i64 ve)) 3 (.int .i64 vn)) 4 (.int .i64 dr)) 5 (.int .i64 rq)
  refine ot1 (st6 w1 (w.heap.size + 1) 0 (.int .i64 tk) 1 (.slice p 10 cap) 2 (.int .i64 ve) 3 (.int .i64 vn) 4 (.int .i64 dr) 5 (.int .i64 rq)) HB KI (by omega) (by omega) ?_
  clear HB KI
  intro HB KI
  clear yI0 yI1 yI2 yI3 yI4 yI5 yIz yZ0 yZ1 yZ2 yZ3 yZ4 yZ5 yZz yZf0 yZf1 yZf2 yZf3 yZf4 yZf5
  generalize (((((w1.setCell _ _).setCell _ _).setCell _ _).setCell _ _).setCell _ _).setCell _ _ = w2 at *
  simp only [List.set] at KZ
  obtain ⟨yZ0,yZ1,yZ2,yZ3,yZ4,yZ5,yZz⟩:=blk6 KZ
  refine bodyPost_ret (v:=.agg #[.int .i64 tk,.slice p 10 cap,.int .i64 ve,.int .i64 vn,.int .i64 dr,.int .i64 rq]) (by simp [results,Tryz.results16,go_sem,yZ0,yZ1,yZ2,yZ3,yZ4,yZ5]) rfl ⟨⟨_,rfl,HC.out⟩,HB.out⟩
 ·obtain ⟨e1,e2,e3⟩:=rg_cap h
  have HC:=Lib.hid fun (W:World) (h:RlG L (.slice p L.length cap) W)=>show RlG (L.take 10) (.slice p L.length cap) W by rw [List.take_of_length_le (by omega)]; exact h
  have m1:min (L.length:Int) 10 = L.length:=by omega
  have m2:L.length≤cap:=by omega
  clear e1 e2 e3 h10 h
  obtain ⟨KI,KZ,HB⟩:=ent2 w #[.int .i64 tk,.slice p L.length cap,.int .i64 ve,.int .i64 vn,.int .i64 dr,.int .i64 rq] 38 #[.int .i64 0,.slice none 0 0,.int .i64 0,.int .i64 0,.int .i64 0,.int .i64 0] 38
  go_enter Tryz.func16,Tryz.ntmps16
  go_upto_region 1 with (fail)
  generalize (w.alloc _).alloc _ = w0 at *
  obtain ⟨yI0,yI1,yI2,yI3,yI4,yI5,yIz,yIf0,yIf1,yIf2,yIf3,yIf4,yIf5⟩:=blf6 KI
  go_upto_region 2 with (fail)
  replace KI:=kst KI 1 (.slice p L.length cap)
  refine ot1 (st1 w0 w.heap.size 1 (.slice p L.length cap)) HB KZ (by omega) (by omega) ?_
  clear HB KZ
  intro HB KZ
  clear yI0 yI1 yI2 yI3 yI4 yI5 yIz yIf0 yIf1 yIf2 yIf3 yIf4 yIf5
  generalize w0.setCell _ _ = w1 at *
  simp only [List.set] at KI
  obtain ⟨yI0,yI1,yI2,yI3,yI4,yI5,yIz⟩:=blk6 KI
  obtain ⟨yZ0,yZ1,yZ2,yZ3,yZ4,yZ5,yZz,yZf0,yZf1,yZf2,yZf3,yZf4,yZf5⟩:=blf6 KZ
  go_wp2
  replace KZ:=kst (kst (kst (kst (kst (kst KZ 0 (.int .i64 tk)) 1 (.slice p L.length cap)) 2 (.int .i64 ve)) 3 (.int .i64 vn)) 4 (.int .i64 dr)) 5 (.int .i64 rq)
  refine ot1 (st6 w1 (w.heap.size + 1) 0 (.int .i64 tk) 1 (.slice p L.length cap) 2 (.int .i64 ve) 3 (.int .i64 vn) 4 (.int .i64 dr) 5 (.int .i64 rq)) HB KI (by omega) (by omega) ?_
  clear HB KI
  intro HB KI
  clear yI0 yI1 yI2 yI3 yI4 yI5 yIz yZ0 yZ1 yZ2 yZ3 yZ4 yZ5 yZz yZf0 yZf1 yZf2 yZf3 yZf4 yZf5
  generalize (((((w1.setCell _ _).setCell _ _).setCell _ _).setCell _ _).setCell _ _).setCell _ _ = w2 at *
  simp only [List.set] at KZ
  obtain ⟨yZ0,yZ1,yZ2,yZ3,yZ4,yZ5,yZz⟩:=blk6 KZ
  refine bodyPost_ret (v:=.agg #[.int .i64 tk,.slice p L.length cap,.int .i64 ve,.int .i64 vn,.int .i64 dr,.int .i64 rq]) (by simp [results,Tryz.results16,go_sem,yZ0,yZ1,yZ2,yZ3,yZ4,yZ5]) rfl ⟨⟨_,rfl,HC.out⟩,HB.out⟩
end Go.Proofs.YtajmjkliblippaaGreatDoor
