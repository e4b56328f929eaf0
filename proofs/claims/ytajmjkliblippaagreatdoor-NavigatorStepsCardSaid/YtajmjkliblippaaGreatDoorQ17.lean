/-
  Walks and laws of the layers below, gathered from several texts.
-/
import Derived.Lib.QuietBelow
import Derived.Lib.Hide
import Derived.Test.YtajmjkliblippaaGreatDoorShelfQ
import Derived.WalkKit
import Derived.WalkSpells
import Derived.IntWalk
import Derived.BigQuiet
import Derived.Deep.QuietTactic
import Derived.Deep.LoopGhost
import Derived.LoopTactic
import Derived.Deep.Cut
import Derived.Deep.RegionHeld3
import Derived.Laws.Bits64b
import Derived.Laws.Bits64
import Derived.Test.YtajmjkliblippaaGreatDoorQ3
import Derived.Test.YtajmjkliblippaaGreatDoorQ9
import Derived.Test.YtajmjkliblippaaGreatDoorQ14
import Derived.Test.YtajmjkliblippaaGreatDoorQ15
import Derived.Test.YtajmjkliblippaaGreatDoorQ16
set_option linter.unusedVariables false
namespace Go.Proofs.YtajmjkliblippaaGreatDoor
open Go.RowKit
structure I64 (x:Int):Prop where
 lo:-9223372036854775808≤x
 hi:x≤9223372036854775807
instance (x:Int):Decidable (I64 x):=decidable_of_iff (-9223372036854775808≤x∧x≤9223372036854775807) ⟨fun h=>⟨h.1,h.2⟩,fun h=>⟨h.lo,h.hi⟩⟩
def wv1 (x:Int):Value:=.tuple #[wv x,.bool true]
set_option maxHeartbeats 8000000
set_option maxRecDepth 100000
theorem wneg_any (x:Int) (w:World) (hx:FitW x) (hn:FitW (-x)) :
 Calls Tryz.prog 225 #[wv x] w fun e w'=>e = .returned (wv1 (-x))∧Below w.heap.size w w':=by
 have SB:=Lib.hid fun w=>wsub_any 0 x w ⟨by omega,by omega⟩ hx (by rw [Int.zero_sub]; exact hn)
 unfold wv at SB
 simp only [show hiW 0 = 0 from rfl,show loW 0 = 0 from rfl,Int.zero_sub] at SB
 unfold wv1 wv
 generalize -x = r at *
 clear hx hn
 have KX:=Lib.hid ((Blk.of (vs:=#[.int .i64 (hiW x),.int .u64 (loW x)]) (t:=112) (w:=w) (b:=w.heap.size) (by simp)).alloc (.cells #[.int .i64 0,.int .u64 0] 112))
 have KZ:=Lib.hid (Blk.of (vs:=#[.int .i64 0,.int .u64 0]) (t:=112) (w:=(w.alloc (.cells #[.int .i64 (hiW x),.int .u64 (loW x)] 112))) (b:=w.heap.size + 1) (by simp))
 have HB:=Lib.hid (((Below.refl w.heap.size w).alloc (by simp; try omega) (.cells #[.int .i64 (hiW x),.int .u64 (loW x)] 112)).alloc (by simp; try omega) (.cells #[.int .i64 0,.int .u64 0] 112))
 go_enter Tryz.func225,Tryz.ntmps225
 go_wp2_with fail
 generalize (w.alloc _).alloc _ = w0 at *
 refine (SB.out _).mono ?_
 rintro e1 w1 ⟨rfl,hb1⟩
 replace HB:=hT HB hb1
 replace KX:=Lib.hid (KX.out.below hb1)
 replace KZ:=Lib.hid (KZ.out.below hb1)
 clear hb1
 have yZ:=KZ.out
 have yZ0:=yZ.c 0 _ rfl
 have yZ1:=yZ.c 1 _ rfl
 have yZz:=yZ.lt
 have yZf0:=yZ.f 0 _ rfl
 have yZf1:=yZ.f 1 _ rfl
 clear yZ
 go_wp2
 replace KX:=Lib.hid (blk_other (b:=w.heap.size) (n:=(w.heap.size + 1)) (j:=1) (blk_other (b:=w.heap.size) (n:=(w.heap.size + 1)) (j:=0) KX.out (by omega) (.int .i64 (hiW r))) (by omega) (.int .u64 (loW r)))
 replace KZ:=kst (kst KZ 0 (.int .i64 (hiW r))) 1 (.int .u64 (loW r))
 replace HB:=Lib.hid ((HB.out.setCell (p:=⟨(w.heap.size + 1),0,none⟩) (show w.heap.size≤(w.heap.size + 1) by omega) (.int .i64 (hiW r))).setCell (p:=⟨(w.heap.size + 1),1,none⟩) (show w.heap.size≤(w.heap.size + 1) by omega) (.int .u64 (loW r)))
 clear yZ0 yZ1 yZz yZf0 yZf1
 generalize (w1.setCell _ _).setCell _ _ = w2 at *
 simp only [List.set] at KZ
 have yZ:=KZ.out
 have yZ0:=yZ.c 0 _ rfl
 have yZ1:=yZ.c 1 _ rfl
 have yZz:=yZ.lt
 clear yZ
 refine bodyPost_ret (v:=.tuple #[.agg #[.int .i64 (hiW r),.int .u64 (loW r)],.bool true]) (by simp [results,Tryz.results225,go_sem,yZ0,yZ1]) rfl ⟨rfl,HB.out⟩
theorem wwabs_any (x:Int) (w:World) (hx:FitW x) (hn:FitW (-x)) :
 Calls Tryz.prog 188 #[wv x] w fun e w'=>e = .returned (wv1 (absZ x))∧Below w.heap.size w w':=by
 by_cases h:x < 0
 ·have NG:=Lib.hid fun w=>wneg_any x w hx hn
  have g:decide (hiW x < 0) = true:=by have:=(hi_neg x).2 h; simpa using this
  rw [show absZ x = -x by unfold absZ; rw [if_pos h]]
  unfold wv1 wv at *
  generalize -x = r at *
  clear hx hn h
  have KX:=Lib.hid ((Blk.of (vs:=#[.int .i64 (hiW x),.int .u64 (loW x)]) (t:=112) (w:=w) (b:=w.heap.size) (by simp)).alloc (.cells #[.int .i64 0,.int .u64 0] 112))
  have KZ:=Lib.hid (Blk.of (vs:=#[.int .i64 0,.int .u64 0]) (t:=112) (w:=(w.alloc (.cells #[.int .i64 (hiW x),.int .u64 (loW x)] 112))) (b:=w.heap.size + 1) (by simp))
  have HB:=Lib.hid (((Below.refl w.heap.size w).alloc (by simp; try omega) (.cells #[.int .i64 (hiW x),.int .u64 (loW x)] 112)).alloc (by simp; try omega) (.cells #[.int .i64 0,.int .u64 0] 112))
  go_enter Tryz.func188,Tryz.ntmps188
  go_wp2_with fail
  generalize (w.alloc _).alloc _ = w0 at *
  refine (NG.out _).mono ?_
  rintro e1 w1 ⟨rfl,hb1⟩
  replace HB:=hT HB hb1
  replace KX:=Lib.hid (KX.out.below hb1)
  replace KZ:=Lib.hid (KZ.out.below hb1)
  clear hb1
  have yZ:=KZ.out
  have yZ0:=yZ.c 0 _ rfl
  have yZ1:=yZ.c 1 _ rfl
  have yZz:=yZ.lt
  have yZf0:=yZ.f 0 _ rfl
  have yZf1:=yZ.f 1 _ rfl
  clear yZ
  go_wp2
  replace KX:=Lib.hid (blk_other (b:=w.heap.size) (n:=(w.heap.size + 1)) (j:=1) (blk_other (b:=w.heap.size) (n:=(w.heap.size + 1)) (j:=0) KX.out (by omega) (.int .i64 (hiW r))) (by omega) (.int .u64 (loW r)))
  replace KZ:=kst (kst KZ 0 (.int .i64 (hiW r))) 1 (.int .u64 (loW r))
  replace HB:=Lib.hid ((HB.out.setCell (p:=⟨(w.heap.size + 1),0,none⟩) (show w.heap.size≤(w.heap.size + 1) by omega) (.int .i64 (hiW r))).setCell (p:=⟨(w.heap.size + 1),1,none⟩) (show w.heap.size≤(w.heap.size + 1) by omega) (.int .u64 (loW r)))
  clear yZ0 yZ1 yZz yZf0 yZf1
  generalize (w1.setCell _ _).setCell _ _ = w2 at *
  simp only [List.set] at KZ
  have yZ:=KZ.out
  have yZ0:=yZ.c 0 _ rfl
  have yZ1:=yZ.c 1 _ rfl
  have yZz:=yZ.lt
  clear yZ
  refine bodyPost_ret (v:=.tuple #[.agg #[.int .i64 (hiW r),.int .u64 (loW r)],.bool true]) (by simp [results,Tryz.results188,go_sem,yZ0,yZ1]) rfl ⟨rfl,HB.out⟩
 ·have g:decide (hiW x < 0) = false:=by have:=hi_neg x; simp; omega
  rw [show absZ x = x by unfold absZ; rw [if_neg h]]
  unfold wv1 wv
  clear hx hn h
  have KX:=Lib.hid ((Blk.of (vs:=#[.int .i64 (hiW x),.int .u64 (loW x)]) (t:=112) (w:=w) (b:=w.heap.size) (by simp)).alloc (.cells #[.int .i64 0,.int .u64 0] 112))
  have KZ:=Lib.hid (Blk.of (vs:=#[.int .i64 0,.int .u64 0]) (t:=112) (w:=(w.alloc (.cells #[.int .i64 (hiW x),.int .u64 (loW x)] 112))) (b:=w.heap.size + 1) (by simp))
  have HB:=Lib.hid (((Below.refl w.heap.size w).alloc (by simp; try omega) (.cells #[.int .i64 (hiW x),.int .u64 (loW x)] 112)).alloc (by simp; try omega) (.cells #[.int .i64 0,.int .u64 0] 112))
  go_enter Tryz.func188,Tryz.ntmps188
  go_wp2
  refine bodyPost_ret (v:=.tuple #[.agg #[.int .i64 (hiW x),.int .u64 (loW x)],.bool true]) (by simp [results,Tryz.results188,go_sem]) rfl ⟨rfl,?_⟩
  exact ((Below.refl _ _).alloc (Nat.le_refl _) _).alloc (by simp) _
theorem lsq_less (a b c d:Int) (w:World) (ha:I64 a) (hb:I64 b) (hc:I64 c) (hd:I64 d) (hf:FitW (a * b - c * d)) :
 Calls Tryz.prog 141 #[.int .i64 a,.int .i64 b,.int .i64 c,.int .i64 d] w fun e w'=>e = .returned (wv (a * b - c * d))∧Below w.heap.size w w':=by
 have MA:=Lib.hid fun w=>wmul_any a b w ha.lo ha.hi hb.lo hb.hi
 have MC:=Lib.hid fun w=>wmul_any c d w hc.lo hc.hi hd.lo hd.hi
 have SB:=Lib.hid fun w=>wsub_any (a * b) (c * d) w (mul_fit ha.lo ha.hi hb.lo hb.hi) (mul_fit hc.lo hc.hi hd.lo hd.hi) hf
 unfold wv at *
 generalize a * b - c * d = r at *
 generalize a * b = p at *
 generalize c * d = q at *
 clear ha hb hc hd hf
 have KZ:=Lib.hid (Blk.of (vs:=#[.int .i64 0,.int .u64 0]) (t:=112) (w:=w) (b:=w.heap.size) (by simp))
 have HB:=Lib.hid ((Below.refl w.heap.size w).alloc (by simp; try omega) (.cells #[.int .i64 0,.int .u64 0] 112))
 go_enter Tryz.func141,Tryz.ntmps141
 go_wp2_with fail
 generalize w.alloc _ = w0 at *
 refine (MA.out _).mono ?_
 rintro e1 w1 ⟨rfl,hb1⟩
 replace HB:=hT HB hb1
 replace KZ:=Lib.hid (KZ.out.below hb1)
 clear hb1
 go_wp2_with fail
 refine (MC.out _).mono ?_
 rintro e2 w2 ⟨rfl,hb2⟩
 replace HB:=hT HB hb2
 replace KZ:=Lib.hid (KZ.out.below hb2)
 clear hb2
 go_wp2_with fail
 refine (SB.out _).mono ?_
 rintro e3 w3 ⟨rfl,hb3⟩
 replace HB:=hT HB hb3
 replace KZ:=Lib.hid (KZ.out.below hb3)
 clear hb3
 have yZ:=KZ.out
 have yZ0:=yZ.c 0 _ rfl
 have yZ1:=yZ.c 1 _ rfl
 have yZz:=yZ.lt
 have yZf0:=yZ.f 0 _ rfl
 have yZf1:=yZ.f 1 _ rfl
 clear yZ
 go_wp2
 replace KZ:=kst (kst KZ 0 (.int .i64 (hiW r))) 1 (.int .u64 (loW r))
 replace HB:=Lib.hid ((HB.out.setCell (p:=⟨w.heap.size,0,none⟩) (show w.heap.size≤w.heap.size by omega) (.int .i64 (hiW r))).setCell (p:=⟨w.heap.size,1,none⟩) (show w.heap.size≤w.heap.size by omega) (.int .u64 (loW r)))
 clear yZ0 yZ1 yZz yZf0 yZf1
 generalize (w3.setCell _ _).setCell _ _ = w4 at *
 simp only [List.set] at KZ
 have KV:=Lib.hid (Blk.of (vs:=#[.int .i64 (hiW r),.int .u64 (loW r)]) (t:=112) (w:=w4) (b:=w4.heap.size) rfl)
 have hb5:Below w4.heap.size w4 (w4.alloc (.cells #[.int .i64 (hiW r),.int .u64 (loW r)] 112)):=(Below.refl _ _).alloc (Nat.le_refl _) _
 have hnV:=HB.out.size
 have nzV_Z:=KZ.out.lt
 replace HB:=hT HB hb5
 replace KZ:=Lib.hid (KZ.out.below hb5)
 clear hb5
 generalize w4.alloc _ = w5 at *
 generalize w4.heap.size = bV at *
 have neV_Z:bV≠w.heap.size:=by omega
 clear nzV_Z
 have yZ:=KZ.out
 have yZ0:=yZ.c 0 _ rfl
 have yZ1:=yZ.c 1 _ rfl
 have yZz:=yZ.lt
 clear yZ
 refine bodyPost_ret (v:=.agg #[.int .i64 (hiW r),.int .u64 (loW r)]) (by simp [results,Tryz.results141,go_sem,yZ0,yZ1]) rfl ⟨rfl,HB.out⟩
theorem integrity_less (a b c d:Int) (w:World) (ha:I64 a) (hb:I64 b) (hc:I64 c) (hd:I64 d) (hf:FitW (a * b - c * d)) :
 Calls Tryz.prog 143 #[.int .i64 a,.int .i64 b,.int .i64 c,.int .i64 d] w fun e w'=>e = .returned (wv (a * b - c * d))∧Below w.heap.size w w':=by
 have MA:=Lib.hid fun w=>wmul_any a b w ha.lo ha.hi hb.lo hb.hi
 have MC:=Lib.hid fun w=>wmul_any c d w hc.lo hc.hi hd.lo hd.hi
 have SB:=Lib.hid fun w=>wsub_any (a * b) (c * d) w (mul_fit ha.lo ha.hi hb.lo hb.hi) (mul_fit hc.lo hc.hi hd.lo hd.hi) hf
 unfold wv at *
 generalize a * b - c * d = r at *
 generalize a * b = p at *
 generalize c * d = q at *
 clear ha hb hc hd hf
 have KZ:=Lib.hid (Blk.of (vs:=#[.int .i64 0,.int .u64 0]) (t:=112) (w:=w) (b:=w.heap.size) (by simp))
 have HB:=Lib.hid ((Below.refl w.heap.size w).alloc (by simp; try omega) (.cells #[.int .i64 0,.int .u64 0] 112))
 go_enter Tryz.func143,Tryz.ntmps143
 go_wp2_with fail
 generalize w.alloc _ = w0 at *
 refine (MA.out _).mono ?_
 rintro e1 w1 ⟨rfl,hb1⟩
 replace HB:=hT HB hb1
 replace KZ:=Lib.hid (KZ.out.below hb1)
 clear hb1
 go_wp2_with fail
 refine (MC.out _).mono ?_
 rintro e2 w2 ⟨rfl,hb2⟩
 replace HB:=hT HB hb2
 replace KZ:=Lib.hid (KZ.out.below hb2)
 clear hb2
 go_wp2_with fail
 refine (SB.out _).mono ?_
 rintro e3 w3 ⟨rfl,hb3⟩
 replace HB:=hT HB hb3
 replace KZ:=Lib.hid (KZ.out.below hb3)
 clear hb3
 have yZ:=KZ.out
 have yZ0:=yZ.c 0 _ rfl
 have yZ1:=yZ.c 1 _ rfl
 have yZz:=yZ.lt
 have yZf0:=yZ.f 0 _ rfl
 have yZf1:=yZ.f 1 _ rfl
 clear yZ
 go_wp2
 replace KZ:=kst (kst KZ 0 (.int .i64 (hiW r))) 1 (.int .u64 (loW r))
 replace HB:=Lib.hid ((HB.out.setCell (p:=⟨w.heap.size,0,none⟩) (show w.heap.size≤w.heap.size by omega) (.int .i64 (hiW r))).setCell (p:=⟨w.heap.size,1,none⟩) (show w.heap.size≤w.heap.size by omega) (.int .u64 (loW r)))
 clear yZ0 yZ1 yZz yZf0 yZf1
 generalize (w3.setCell _ _).setCell _ _ = w4 at *
 simp only [List.set] at KZ
 have KV:=Lib.hid (Blk.of (vs:=#[.int .i64 (hiW r),.int .u64 (loW r)]) (t:=112) (w:=w4) (b:=w4.heap.size) rfl)
 have hb5:Below w4.heap.size w4 (w4.alloc (.cells #[.int .i64 (hiW r),.int .u64 (loW r)] 112)):=(Below.refl _ _).alloc (Nat.le_refl _) _
 have hnV:=HB.out.size
 have nzV_Z:=KZ.out.lt
 replace HB:=hT HB hb5
 replace KZ:=Lib.hid (KZ.out.below hb5)
 clear hb5
 generalize w4.alloc _ = w5 at *
 generalize w4.heap.size = bV at *
 have neV_Z:bV≠w.heap.size:=by omega
 clear nzV_Z
 have yZ:=KZ.out
 have yZ0:=yZ.c 0 _ rfl
 have yZ1:=yZ.c 1 _ rfl
 have yZz:=yZ.lt
 clear yZ
 refine bodyPost_ret (v:=.agg #[.int .i64 (hiW r),.int .u64 (loW r)]) (by simp [results,Tryz.results143,go_sem,yZ0,yZ1]) rfl ⟨rfl,HB.out⟩
theorem plus_any (x y:Int) (w:World) (hx:FitW x) (hy:FitW y) (hf:FitW (x + y)) :
 Calls Tryz.prog 144 #[wv x,wv y] w fun e w'=>e = .returned (wv (x + y))∧Below w.heap.size w w':=by
 have AD:=Lib.hid fun w=>wadd_any x y w hx hy hf
 unfold wv at *
 generalize x + y = r at *
 clear hx hy hf
 have KX:=Lib.hid (((Blk.of (vs:=#[.int .i64 (hiW x),.int .u64 (loW x)]) (t:=112) (w:=w) (b:=w.heap.size) (by simp)).alloc (.cells #[.int .i64 (hiW y),.int .u64 (loW y)] 112)).alloc (.cells #[.int .i64 0,.int .u64 0] 112))
 have KY:=Lib.hid ((Blk.of (vs:=#[.int .i64 (hiW y),.int .u64 (loW y)]) (t:=112) (w:=(w.alloc (.cells #[.int .i64 (hiW x),.int .u64 (loW x)] 112))) (b:=w.heap.size + 1) (by simp)).alloc (.cells #[.int .i64 0,.int .u64 0] 112))
 have KZ:=Lib.hid (Blk.of (vs:=#[.int .i64 0,.int .u64 0]) (t:=112) (w:=((w.alloc (.cells #[.int .i64 (hiW x),.int .u64 (loW x)] 112)).alloc (.cells #[.int .i64 (hiW y),.int .u64 (loW y)] 112))) (b:=w.heap.size + 1 + 1) (by simp))
 have HB:=Lib.hid ((((Below.refl w.heap.size w).alloc (by simp; try omega) (.cells #[.int .i64 (hiW x),.int .u64 (loW x)] 112)).alloc (by simp; try omega) (.cells #[.int .i64 (hiW y),.int .u64 (loW y)] 112)).alloc (by simp; try omega) (.cells #[.int .i64 0,.int .u64 0] 112))
 go_enter Tryz.func144,Tryz.ntmps144
 go_wp2_with fail
 generalize ((w.alloc _).alloc _).alloc _ = w0 at *
 refine (AD.out _).mono ?_
 rintro e1 w1 ⟨rfl,hb1⟩
 replace HB:=hT HB hb1
 replace KX:=Lib.hid (KX.out.below hb1)
 replace KY:=Lib.hid (KY.out.below hb1)
 replace KZ:=Lib.hid (KZ.out.below hb1)
 clear hb1
 have yZ:=KZ.out
 have yZ0:=yZ.c 0 _ rfl
 have yZ1:=yZ.c 1 _ rfl
 have yZz:=yZ.lt
 have yZf0:=yZ.f 0 _ rfl
 have yZf1:=yZ.f 1 _ rfl
 clear yZ
 go_wp2
 replace KX:=Lib.hid (blk_other (b:=w.heap.size) (n:=(w.heap.size + 1 + 1)) (j:=1) (blk_other (b:=w.heap.size) (n:=(w.heap.size + 1 + 1)) (j:=0) KX.out (by omega) (.int .i64 (hiW r))) (by omega) (.int .u64 (loW r)))
 replace KY:=Lib.hid (blk_other (b:=(w.heap.size + 1)) (n:=(w.heap.size + 1 + 1)) (j:=1) (blk_other (b:=(w.heap.size + 1)) (n:=(w.heap.size + 1 + 1)) (j:=0) KY.out (by omega) (.int .i64 (hiW r))) (by omega) (.int .u64 (loW r)))
 replace KZ:=kst (kst KZ 0 (.int .i64 (hiW r))) 1 (.int .u64 (loW r))
 replace HB:=Lib.hid ((HB.out.setCell (p:=⟨(w.heap.size + 1 + 1),0,none⟩) (show w.heap.size≤(w.heap.size + 1 + 1) by omega) (.int .i64 (hiW r))).setCell (p:=⟨(w.heap.size + 1 + 1),1,none⟩) (show w.heap.size≤(w.heap.size + 1 + 1) by omega) (.int .u64 (loW r)))
 clear yZ0 yZ1 yZz yZf0 yZf1
 generalize (w1.setCell _ _).setCell _ _ = w2 at *
 simp only [List.set] at KZ
 have KV:=Lib.hid (Blk.of (vs:=#[.int .i64 (hiW r),.int .u64 (loW r)]) (t:=112) (w:=w2) (b:=w2.heap.size) rfl)
 have hb3:Below w2.heap.size w2 (w2.alloc (.cells #[.int .i64 (hiW r),.int .u64 (loW r)] 112)):=(Below.refl _ _).alloc (Nat.le_refl _) _
 have hnV:=HB.out.size
 have nzV_X:=KX.out.lt
 have nzV_Y:=KY.out.lt
 have nzV_Z:=KZ.out.lt
 replace HB:=hT HB hb3
 replace KX:=Lib.hid (KX.out.below hb3)
 replace KY:=Lib.hid (KY.out.below hb3)
 replace KZ:=Lib.hid (KZ.out.below hb3)
 clear hb3
 generalize w2.alloc _ = w3 at *
 generalize w2.heap.size = bV at *
 have neV_X:bV≠w.heap.size:=by omega
 have neV_Y:bV≠(w.heap.size + 1):=by omega
 have neV_Z:bV≠(w.heap.size + 1 + 1):=by omega
 clear nzV_X nzV_Y nzV_Z
 have yZ:=KZ.out
 have yZ0:=yZ.c 0 _ rfl
 have yZ1:=yZ.c 1 _ rfl
 have yZz:=yZ.lt
 clear yZ
 refine bodyPost_ret (v:=.agg #[.int .i64 (hiW r),.int .u64 (loW r)]) (by simp [results,Tryz.results144,go_sem,yZ0,yZ1]) rfl ⟨rfl,HB.out⟩
end Go.Proofs.YtajmjkliblippaaGreatDoor
namespace Go.Proofs.YtajmjkliblippaaGreatDoor
open Go.RowKit
theorem kv_set2n {w W:World} {u0 u1:Value} {b:Nat} (v0 v1:Value) (h:w.heap.size≤b∧Blk [u0,u1] b W) (hb:Below w.heap.size w W) :
 Below w.heap.size w ((W.setCell ⟨b,0,none⟩ v0).setCell ⟨b,1,none⟩ v1)∧Blk [v0,v1] b ((W.setCell ⟨b,0,none⟩ v0).setCell ⟨b,1,none⟩ v1)∧w.heap.size≤b:=
 ⟨((hb.setCell (p:=⟨b,0,none⟩) h.1 v0).setCell (p:=⟨b,1,none⟩) h.1 v1),(blk_set (blk_set h.2 (j:=0) (by simp) v0) (j:=1) (by simp) v1),h.1⟩
theorem kv_set7 {w W:World} {u0 u1 u2 u3 u4 u5 u6:Value} {b:Nat} (v0 v1 v2 v3 v4 v5 v6:Value) (h:w.heap.size≤b∧Blk [u0,u1,u2,u3,u4,u5,u6] b W) (hb:Below w.heap.size w W) :
 Below w.heap.size w (((((((W.setCell ⟨b,0,none⟩ v0).setCell ⟨b,1,none⟩ v1).setCell ⟨b,2,none⟩ v2).setCell ⟨b,3,none⟩ v3).setCell ⟨b,4,none⟩ v4).setCell ⟨b,5,none⟩ v5).setCell ⟨b,6,none⟩ v6)∧Blk [v0,v1,v2,v3,v4,v5,v6] b (((((((W.setCell ⟨b,0,none⟩ v0).setCell ⟨b,1,none⟩ v1).setCell ⟨b,2,none⟩ v2).setCell ⟨b,3,none⟩ v3).setCell ⟨b,4,none⟩ v4).setCell ⟨b,5,none⟩ v5).setCell ⟨b,6,none⟩ v6)∧w.heap.size≤b:=
 ⟨(((((((hb.setCell (p:=⟨b,0,none⟩) h.1 v0).setCell (p:=⟨b,1,none⟩) h.1 v1).setCell (p:=⟨b,2,none⟩) h.1 v2).setCell (p:=⟨b,3,none⟩) h.1 v3).setCell (p:=⟨b,4,none⟩) h.1 v4).setCell (p:=⟨b,5,none⟩) h.1 v5).setCell (p:=⟨b,6,none⟩) h.1 v6),(blk_set (blk_set (blk_set (blk_set (blk_set (blk_set (blk_set h.2 (j:=0) (by simp) v0) (j:=1) (by simp) v1) (j:=2) (by simp) v2) (j:=3) (by simp) v3) (j:=4) (by simp) v4) (j:=5) (by simp) v5) (j:=6) (by simp) v6),h.1⟩
theorem kv_set9 {w W:World} {u0 u1 u2 u3 u4 u5 u6 u7 u8:Value} {b:Nat} (v0 v1 v2 v3 v4 v5 v6 v7 v8:Value) (h:w.heap.size≤b∧Blk [u0,u1,u2,u3,u4,u5,u6,u7,u8] b W) (hb:Below w.heap.size w W) :
 Below w.heap.size w (((((((((W.setCell ⟨b,0,none⟩ v0).setCell ⟨b,1,none⟩ v1).setCell ⟨b,2,none⟩ v2).setCell ⟨b,3,none⟩ v3).setCell ⟨b,4,none⟩ v4).setCell ⟨b,5,none⟩ v5).setCell ⟨b,6,none⟩ v6).setCell ⟨b,7,none⟩ v7).setCell ⟨b,8,none⟩ v8)∧Blk [v0,v1,v2,v3,v4,v5,v6,v7,v8] b (((((((((W.setCell ⟨b,0,none⟩ v0).setCell ⟨b,1,none⟩ v1).setCell ⟨b,2,none⟩ v2).setCell ⟨b,3,none⟩ v3).setCell ⟨b,4,none⟩ v4).setCell ⟨b,5,none⟩ v5).setCell ⟨b,6,none⟩ v6).setCell ⟨b,7,none⟩ v7).setCell ⟨b,8,none⟩ v8)∧w.heap.size≤b:=
 ⟨(((((((((hb.setCell (p:=⟨b,0,none⟩) h.1 v0).setCell (p:=⟨b,1,none⟩) h.1 v1).setCell (p:=⟨b,2,none⟩) h.1 v2).setCell (p:=⟨b,3,none⟩) h.1 v3).setCell (p:=⟨b,4,none⟩) h.1 v4).setCell (p:=⟨b,5,none⟩) h.1 v5).setCell (p:=⟨b,6,none⟩) h.1 v6).setCell (p:=⟨b,7,none⟩) h.1 v7).setCell (p:=⟨b,8,none⟩) h.1 v8),(blk_set (blk_set (blk_set (blk_set (blk_set (blk_set (blk_set (blk_set (blk_set h.2 (j:=0) (by simp) v0) (j:=1) (by simp) v1) (j:=2) (by simp) v2) (j:=3) (by simp) v3) (j:=4) (by simp) v4) (j:=5) (by simp) v5) (j:=6) (by simp) v6) (j:=7) (by simp) v7) (j:=8) (by simp) v8),h.1⟩
theorem kv_putn {w W:World} {vs:Array Value} {t:TypeId} (hb:Below w.heap.size w W):Below w.heap.size w (W.alloc (.cells vs t))∧Blk vs.toList W.heap.size (W.alloc (.cells vs t))∧w.heap.size≤W.heap.size:=
 ⟨hb.alloc hb.size _,Blk.new vs W t,hb.size⟩
theorem near_bd {x d:Int} (hd:0 < d) (h0:-85070591730234615865843651857942052864 < x) (h1:x < 85070591730234615865843651857942052864) (hd1:d≤9223372036854775807):FitW (nearI2 x d):=by
 unfold nearI2
 have e:=Int.mul_ediv_add_emod (2 * x + d) (2 * d)
 have r0:=Int.emod_nonneg (2 * x + d) (show 2 * d≠0 by omega)
 have r1:=Int.emod_lt_of_pos (2 * x + d) (show 0 < 2 * d by omega)
 generalize (2 * x + d) / (2 * d) = q at *
 generalize (2 * x + d) % (2 * d) = r at *
 have e2:2 * d * q = 2 * (d * q):=Int.mul_assoc _ _ _
 rw [e2] at e
 constructor
 ·rcases Int.le_total 0 q with h | h
  ·omega
  ·have:=Int.mul_le_mul_of_nonpos_right (show 1≤d by omega) h
   omega
 ·rcases Int.le_total 0 q with h | h
  ·have:=Int.mul_le_mul_of_nonneg_right (show 1≤d by omega) h
   omega
  ·omega
theorem ceil_bd {x d:Int} (hd:0 < d) (h0:0≤x):0≤ceilI x d∧ceilI x d≤x:=by
 unfold ceilI
 have h1:-x / d < 1:=Int.ediv_lt_of_lt_mul hd (by omega)
 have h2:-x≤-x / d:=Int.le_ediv_of_mul_le hd (by
  have:=Int.mul_le_mul_of_nonneg_left (show 1≤d by omega) h0
  rw [Int.neg_mul]
  omega)
 omega
theorem near_int {x:Int} (w:World) (hf:FitW x):Calls Tryz.prog 183 #[wv x] w fun e w'=>e = .returned (.tuple #[.int .i64 (if I64 x then x else 0),.bool (decide (I64 x))])∧Below w.heap.size w w':=by
 by_cases h:I64 x
 ·rw [if_pos h,decide_eq_true h]
  exact wint_any x w h.lo (by have:=h.hi; omega)
 ·rw [if_neg h,decide_eq_false h]
  refine wint_out x w hf ?_
  rcases Int.lt_or_le x (-9223372036854775808) with a | a
  ·exact .inl a
  ·rcases Int.lt_or_le 9223372036854775807 x with b | b
   ·exact .inr b
   ·exact absurd ⟨a,b⟩ h
set_option maxHeartbeats 8000000
set_option maxRecDepth 100000
theorem nearest_any (x d:Int) (w:World) (hx0:-85070591730234615865843651857942052864 < x) (hx:x < 85070591730234615865843651857942052864) (hd:0 < d) (hd1:d≤9223372036854775807) :
 Calls Tryz.prog 142 #[wv x,.int .i64 d] w fun e w'=>e = .returned (.tuple #[.int .i64 (if I64 (nearI2 x d) then nearI2 x d else 0),.bool (decide (I64 (nearI2 x d)))])∧Below w.heap.size w w':=by
 have OF:=Lib.hid fun w=>wof_any d w (by omega) hd1
 have DV:=Lib.hid fun w=>wnear_any x d w hx0 hx hd (by omega)
 have IN:=Lib.hid fun w=>near_int (x:=nearI2 x d) w (near_bd hd hx0 hx hd1)
 generalize decide (I64 (nearI2 x d)) = ok at *
 generalize (if I64 (nearI2 x d) then nearI2 x d else 0) = u at *
 generalize nearI2 x d = v at *
 unfold wv at *
 clear hx0 hx hd hd1
 have KX:=Lib.hid (Blk.of (vs:=#[.int .i64 (hiW x),.int .u64 (loW x)]) (t:=112) (w:=w) (b:=w.heap.size) (by simp))
 have HB:=Lib.hid ((Below.refl w.heap.size w).alloc (by simp; try omega) (.cells #[.int .i64 (hiW x),.int .u64 (loW x)] 112))
 go_enter Tryz.func142,Tryz.ntmps142
 go_wp2_with fail
 generalize w.alloc _ = w0 at *
 have BD:=Lib.hid (show Below w0.heap.size w0 w0.drew from ⟨rfl,rfl,rfl,Nat.le_refl _,fun _ _=>rfl⟩)
 have BD2:=Lib.hid (below_drew_alloc w0 (.cells #[.int .i64 0,.int .u64 0] 112))
 have DOF:=Lib.hid fun W (h:Below w0.heap.size w0 W)=>(OF.out W).mono fun e w' ⟨h1,h2⟩=>show _∧Below w0.heap.size w0 w'∧Below W.heap.size W w' from ⟨h1,h.trans (h2.mono h.size),h2⟩
 have DDV:=Lib.hid fun W (h:Below w0.heap.size w0 W)=>(DV.out W).mono fun e w' ⟨h1,h2⟩=>show _∧Below w0.heap.size w0 w'∧Below W.heap.size W w' from ⟨h1,h.trans (h2.mono h.size),h2⟩
 have yX:=KX.out
 have yX0:=yX.c 0 _ rfl
 have yX1:=yX.c 1 _ rfl
 have yXz:=yX.lt
 clear yX
 go_region_held3 (fun w'=>w'.cell? ⟨w.heap.size,0,none⟩ = some (.int .i64 (hiW x))∧w'.cell? ⟨w.heap.size,1,none⟩ = some (.int .u64 (loW x))) (first | (refine ⟨?_,?_⟩ <;> first | assumption | (rw [far2 KV.out.1 yXz]; assumption)) | go_keep)
  (first
   | (go_at_call 182; with_reducible refine Calls.mono (DOF.out _ (by first | exact BD.out | exact BD2.out | exact HX.out | exact HX.out.alloc HX.out.size _)) ?_; rintro e9 w9 ⟨rfl,hb9,hc9⟩; have pX:=KX.out.below hb9; have qX0:=pX.c 0 _ rfl; have qX1:=pX.c 1 _ rfl; clear pX; (first | (with_reducible have KV:=Lib.hid (kv_drew (vs:=#[.int .i64 0,.int .u64 0]) (t:=112) hc9); have pV:=KV.out.2; have v0:=pV.c 0 _ rfl; have vf0:=pV.f 0 _ rfl; have v1:=pV.c 1 _ rfl; have vf1:=pV.f 1 _ rfl; have v9:=pV.lt; clear pV) | (with_reducible have KV:=Lib.hid (kv_new (vs:=#[.int .i64 0,.int .u64 0]) (t:=112) HX.out hc9); have pV:=KV.out.2; have v0:=pV.c 0 _ rfl; have vf0:=pV.f 0 _ rfl; have v1:=pV.c 1 _ rfl; have vf1:=pV.f 1 _ rfl; have v9:=pV.lt; clear pV) | (with_reducible have KV:=Lib.hid (kv_old KV.out hc9); have pV:=KV.out.2; have v0:=pV.c 0 _ rfl; have vf0:=pV.f 0 _ rfl; have v1:=pV.c 1 _ rfl; have vf1:=pV.f 1 _ rfl; have v9:=pV.lt; clear pV) | skip); have HX:=Lib.hid hb9; clear hb9 hc9)
   | (go_at_call 181; with_reducible refine Calls.mono (DDV.out _ (by first | exact BD.out | exact BD2.out | exact HX.out | exact HX.out.alloc HX.out.size _)) ?_; rintro e9 w9 ⟨rfl,hb9,hc9⟩; have pX:=KX.out.below hb9; have qX0:=pX.c 0 _ rfl; have qX1:=pX.c 1 _ rfl; clear pX; (first | (with_reducible have KV:=Lib.hid (kv_drew (vs:=#[.int .i64 0,.int .u64 0]) (t:=112) hc9); have pV:=KV.out.2; have v0:=pV.c 0 _ rfl; have vf0:=pV.f 0 _ rfl; have v1:=pV.c 1 _ rfl; have vf1:=pV.f 1 _ rfl; have v9:=pV.lt; clear pV) | (with_reducible have KV:=Lib.hid (kv_new (vs:=#[.int .i64 0,.int .u64 0]) (t:=112) HX.out hc9); have pV:=KV.out.2; have v0:=pV.c 0 _ rfl; have vf0:=pV.f 0 _ rfl; have v1:=pV.c 1 _ rfl; have vf1:=pV.f 1 _ rfl; have v9:=pV.lt; clear pV) | (with_reducible have KV:=Lib.hid (kv_old KV.out hc9); have pV:=KV.out.2; have v0:=pV.c 0 _ rfl; have vf0:=pV.f 0 _ rfl; have v1:=pV.c 1 _ rfl; have vf1:=pV.f 1 _ rfl; have v9:=pV.lt; clear pV) | skip); have HX:=Lib.hid hb9; clear hb9 hc9))
 all_goals
  first
   | (have FN:=kv_set2n (.int .i64 (hiW v)) (.int .u64 (loW v)) KV.out HX.out; have FB:=Lib.hid FN.1; have KN:=Lib.hid FN.2.1; have n0N:=FN.2.2; clear FN; generalize World.setCell (World.setCell _ _ (.int .i64 (hiW v))) _ (.int .u64 (loW v)) = w1 at *)
   | (have FN:=kv_putn (vs:=#[.int .i64 (hiW v),.int .u64 (loW v)]) (t:=112) HX.out; have FB:=Lib.hid FN.1; have KN:=Lib.hid FN.2.1; have n0N:=FN.2.2; clear FN; generalize (World.alloc _ (.cells #[.int .i64 (hiW v),.int .u64 (loW v)] 112)) = w1 at *)
  have nN:=Nat.le_trans HB.out.size n0N
  have neN_X:=Nat.ne_of_gt (Nat.lt_of_lt_of_le KX.out.lt n0N)
  replace HB:=Lib.hid (HB.out.trans (FB.out.mono HB.out.size))
  replace KX:=Lib.hid (KX.out.below FB.out)
  have yN:=KN.out
  have yN0:=yN.c 0 _ rfl
  have yN1:=yN.c 1 _ rfl
  have yNz:=yN.lt
  clear yN
  go_wp2_with fail
  refine (IN.out _).mono ?_
  rintro e2 w2 ⟨rfl,hb2⟩
  replace HB:=hT HB hb2
  replace KX:=Lib.hid (KX.out.below hb2)
  replace KN:=Lib.hid (KN.out.below hb2)
  clear yN0 yN1 yNz
  clear hb2
  go_wp2
  all_goals go_ret2
  all_goals exact ⟨rfl,HB.out⟩
theorem size_any (x d:Int) (w:World) (hx0:0≤x) (hx:x < 85070591730234615865843651857942052864) (hd:0 < d) (hd1:d≤9223372036854775807) :
 Calls Tryz.prog 187 #[wv x,.int .i64 d] w fun e w'=>e = .returned (if ceilI x d≤8000000 then .tuple #[.int .i64 (ceilI x d),.bool true] else .tuple #[.int .i64 0,.bool false])∧Below w.heap.size w w':=by
 obtain ⟨b0,b1⟩:=ceil_bd hd hx0
 have OF:=Lib.hid fun w=>wof_any d w (by omega) hd1
 have DV:=Lib.hid fun w=>wdivup_any x d w hx0 hx hd (by omega)
 have IN:=Lib.hid fun w=>near_int (x:=ceilI x d) w ⟨by omega,by omega⟩
 have IB:ceilI x d≤8000000→I64 (ceilI x d):=fun h=>⟨by omega,by omega⟩
 generalize ceilI x d = v at *
 unfold wv at *
 clear hx0 hx hd hd1 b0 b1
 by_cases h:v≤8000000
 ·have g:decide (8000000 < v) = false:=by simp; omega
  rw [if_pos (IB h),decide_eq_true (IB h)] at IN
  rw [if_pos h]
  clear h IB
  have KX:=Lib.hid (Blk.of (vs:=#[.int .i64 (hiW x),.int .u64 (loW x)]) (t:=112) (w:=w) (b:=w.heap.size) (by simp))
  have HB:=Lib.hid ((Below.refl w.heap.size w).alloc (by simp; try omega) (.cells #[.int .i64 (hiW x),.int .u64 (loW x)] 112))
  go_enter Tryz.func187,Tryz.ntmps187
  go_wp2_with fail
  generalize w.alloc _ = w0 at *
  have BD:=Lib.hid (show Below w0.heap.size w0 w0.drew from ⟨rfl,rfl,rfl,Nat.le_refl _,fun _ _=>rfl⟩)
  have BD2:=Lib.hid (below_drew_alloc w0 (.cells #[.int .i64 0,.int .u64 0] 112))
  have DOF:=Lib.hid fun W (h:Below w0.heap.size w0 W)=>(OF.out W).mono fun e w' ⟨h1,h2⟩=>show _∧Below w0.heap.size w0 w'∧Below W.heap.size W w' from ⟨h1,h.trans (h2.mono h.size),h2⟩
  have DDV:=Lib.hid fun W (h:Below w0.heap.size w0 W)=>(DV.out W).mono fun e w' ⟨h1,h2⟩=>show _∧Below w0.heap.size w0 w'∧Below W.heap.size W w' from ⟨h1,h.trans (h2.mono h.size),h2⟩
  have yX:=KX.out
  have yX0:=yX.c 0 _ rfl
  have yX1:=yX.c 1 _ rfl
  have yXz:=yX.lt
  clear yX
  go_region_held3 (fun w'=>w'.cell? ⟨w.heap.size,0,none⟩ = some (.int .i64 (hiW x))∧w'.cell? ⟨w.heap.size,1,none⟩ = some (.int .u64 (loW x))) (first | (refine ⟨?_,?_⟩ <;> first | assumption | (rw [far2 KV.out.1 yXz]; assumption)) | go_keep)
   (first
    | (go_at_call 182; with_reducible refine Calls.mono (DOF.out _ (by first | exact BD.out | exact BD2.out | exact HX.out | exact HX.out.alloc HX.out.size _)) ?_; rintro e9 w9 ⟨rfl,hb9,hc9⟩; have pX:=KX.out.below hb9; have qX0:=pX.c 0 _ rfl; have qX1:=pX.c 1 _ rfl; clear pX; (first | (with_reducible have KV:=Lib.hid (kv_drew (vs:=#[.int .i64 0,.int .u64 0]) (t:=112) hc9); have pV:=KV.out.2; have v0:=pV.c 0 _ rfl; have vf0:=pV.f 0 _ rfl; have v1:=pV.c 1 _ rfl; have vf1:=pV.f 1 _ rfl; have v9:=pV.lt; clear pV) | (with_reducible have KV:=Lib.hid (kv_new (vs:=#[.int .i64 0,.int .u64 0]) (t:=112) HX.out hc9); have pV:=KV.out.2; have v0:=pV.c 0 _ rfl; have vf0:=pV.f 0 _ rfl; have v1:=pV.c 1 _ rfl; have vf1:=pV.f 1 _ rfl; have v9:=pV.lt; clear pV) | (with_reducible have KV:=Lib.hid (kv_old KV.out hc9); have pV:=KV.out.2; have v0:=pV.c 0 _ rfl; have vf0:=pV.f 0 _ rfl; have v1:=pV.c 1 _ rfl; have vf1:=pV.f 1 _ rfl; have v9:=pV.lt; clear pV) | skip); have HX:=Lib.hid hb9; clear hb9 hc9)
    | (go_at_call 224; with_reducible refine Calls.mono (DDV.out _ (by first | exact BD.out | exact BD2.out | exact HX.out | exact HX.out.alloc HX.out.size _)) ?_; rintro e9 w9 ⟨rfl,hb9,hc9⟩; have pX:=KX.out.below hb9; have qX0:=pX.c 0 _ rfl; have qX1:=pX.c 1 _ rfl; clear pX; (first | (with_reducible have KV:=Lib.hid (kv_drew (vs:=#[.int .i64 0,.int .u64 0]) (t:=112) hc9); have pV:=KV.out.2; have v0:=pV.c 0 _ rfl; have vf0:=pV.f 0 _ rfl; have v1:=pV.c 1 _ rfl; have vf1:=pV.f 1 _ rfl; have v9:=pV.lt; clear pV) | (with_reducible have KV:=Lib.hid (kv_new (vs:=#[.int .i64 0,.int .u64 0]) (t:=112) HX.out hc9); have pV:=KV.out.2; have v0:=pV.c 0 _ rfl; have vf0:=pV.f 0 _ rfl; have v1:=pV.c 1 _ rfl; have vf1:=pV.f 1 _ rfl; have v9:=pV.lt; clear pV) | (with_reducible have KV:=Lib.hid (kv_old KV.out hc9); have pV:=KV.out.2; have v0:=pV.c 0 _ rfl; have vf0:=pV.f 0 _ rfl; have v1:=pV.c 1 _ rfl; have vf1:=pV.f 1 _ rfl; have v9:=pV.lt; clear pV) | skip); have HX:=Lib.hid hb9; clear hb9 hc9))
  all_goals
   first
    | (have FN:=kv_set2n (.int .i64 (hiW v)) (.int .u64 (loW v)) KV.out HX.out; have FB:=Lib.hid FN.1; have KN:=Lib.hid FN.2.1; have n0N:=FN.2.2; clear FN; generalize World.setCell (World.setCell _ _ (.int .i64 (hiW v))) _ (.int .u64 (loW v)) = w1 at *)
    | (have FN:=kv_putn (vs:=#[.int .i64 (hiW v),.int .u64 (loW v)]) (t:=112) HX.out; have FB:=Lib.hid FN.1; have KN:=Lib.hid FN.2.1; have n0N:=FN.2.2; clear FN; generalize (World.alloc _ (.cells #[.int .i64 (hiW v),.int .u64 (loW v)] 112)) = w1 at *)
   have nN:=Nat.le_trans HB.out.size n0N
   have neN_X:=Nat.ne_of_gt (Nat.lt_of_lt_of_le KX.out.lt n0N)
   replace HB:=Lib.hid (HB.out.trans (FB.out.mono HB.out.size))
   replace KX:=Lib.hid (KX.out.below FB.out)
   have yN:=KN.out
   have yN0:=yN.c 0 _ rfl
   have yN1:=yN.c 1 _ rfl
   have yNz:=yN.lt
   clear yN
   go_wp2_with fail
   refine (IN.out _).mono ?_
   rintro e2 w2 ⟨rfl,hb2⟩
   replace HB:=hT HB hb2
   replace KX:=Lib.hid (KX.out.below hb2)
   replace KN:=Lib.hid (KN.out.below hb2)
   clear yN0 yN1 yNz
   clear hb2
   go_wp2
   all_goals go_ret2
   all_goals exact ⟨rfl,HB.out⟩
 ·rw [if_neg h]
  by_cases k:I64 v
  ·have g:decide (8000000 < v) = true:=by simp; omega
   rw [if_pos k,decide_eq_true k] at IN
   clear h IB k
   have KX:=Lib.hid (Blk.of (vs:=#[.int .i64 (hiW x),.int .u64 (loW x)]) (t:=112) (w:=w) (b:=w.heap.size) (by simp))
   have HB:=Lib.hid ((Below.refl w.heap.size w).alloc (by simp; try omega) (.cells #[.int .i64 (hiW x),.int .u64 (loW x)] 112))
   go_enter Tryz.func187,Tryz.ntmps187
   go_wp2_with fail
   generalize w.alloc _ = w0 at *
   have BD:=Lib.hid (show Below w0.heap.size w0 w0.drew from ⟨rfl,rfl,rfl,Nat.le_refl _,fun _ _=>rfl⟩)
   have BD2:=Lib.hid (below_drew_alloc w0 (.cells #[.int .i64 0,.int .u64 0] 112))
   have DOF:=Lib.hid fun W (h:Below w0.heap.size w0 W)=>(OF.out W).mono fun e w' ⟨h1,h2⟩=>show _∧Below w0.heap.size w0 w'∧Below W.heap.size W w' from ⟨h1,h.trans (h2.mono h.size),h2⟩
   have DDV:=Lib.hid fun W (h:Below w0.heap.size w0 W)=>(DV.out W).mono fun e w' ⟨h1,h2⟩=>show _∧Below w0.heap.size w0 w'∧Below W.heap.size W w' from ⟨h1,h.trans (h2.mono h.size),h2⟩
   have yX:=KX.out
   have yX0:=yX.c 0 _ rfl
   have yX1:=yX.c 1 _ rfl
   have yXz:=yX.lt
   clear yX
   go_region_held3 (fun w'=>w'.cell? ⟨w.heap.size,0,none⟩ = some (.int .i64 (hiW x))∧w'.cell? ⟨w.heap.size,1,none⟩ = some (.int .u64 (loW x))) (first | (refine ⟨?_,?_⟩ <;> first | assumption | (rw [far2 KV.out.1 yXz]; assumption)) | go_keep)
    (first
     | (go_at_call 182; with_reducible refine Calls.mono (DOF.out _ (by first | exact BD.out | exact BD2.out | exact HX.out | exact HX.out.alloc HX.out.size _)) ?_; rintro e9 w9 ⟨rfl,hb9,hc9⟩; have pX:=KX.out.below hb9; have qX0:=pX.c 0 _ rfl; have qX1:=pX.c 1 _ rfl; clear pX; (first | (with_reducible have KV:=Lib.hid (kv_drew (vs:=#[.int .i64 0,.int .u64 0]) (t:=112) hc9); have pV:=KV.out.2; have v0:=pV.c 0 _ rfl; have vf0:=pV.f 0 _ rfl; have v1:=pV.c 1 _ rfl; have vf1:=pV.f 1 _ rfl; have v9:=pV.lt; clear pV) | (with_reducible have KV:=Lib.hid (kv_new (vs:=#[.int .i64 0,.int .u64 0]) (t:=112) HX.out hc9); have pV:=KV.out.2; have v0:=pV.c 0 _ rfl; have vf0:=pV.f 0 _ rfl; have v1:=pV.c 1 _ rfl; have vf1:=pV.f 1 _ rfl; have v9:=pV.lt; clear pV) | (with_reducible have KV:=Lib.hid (kv_old KV.out hc9); have pV:=KV.out.2; have v0:=pV.c 0 _ rfl; have vf0:=pV.f 0 _ rfl; have v1:=pV.c 1 _ rfl; have vf1:=pV.f 1 _ rfl; have v9:=pV.lt; clear pV) | skip); have HX:=Lib.hid hb9; clear hb9 hc9)
     | (go_at_call 224; with_reducible refine Calls.mono (DDV.out _ (by first | exact BD.out | exact BD2.out | exact HX.out | exact HX.out.alloc HX.out.size _)) ?_; rintro e9 w9 ⟨rfl,hb9,hc9⟩; have pX:=KX.out.below hb9; have qX0:=pX.c 0 _ rfl; have qX1:=pX.c 1 _ rfl; clear pX; (first | (with_reducible have KV:=Lib.hid (kv_drew (vs:=#[.int .i64 0,.int .u64 0]) (t:=112) hc9); have pV:=KV.out.2; have v0:=pV.c 0 _ rfl; have vf0:=pV.f 0 _ rfl; have v1:=pV.c 1 _ rfl; have vf1:=pV.f 1 _ rfl; have v9:=pV.lt; clear pV) | (with_reducible have KV:=Lib.hid (kv_new (vs:=#[.int .i64 0,.int .u64 0]) (t:=112) HX.out hc9); have pV:=KV.out.2; have v0:=pV.c 0 _ rfl; have vf0:=pV.f 0 _ rfl; have v1:=pV.c 1 _ rfl; have vf1:=pV.f 1 _ rfl; have v9:=pV.lt; clear pV) | (with_reducible have KV:=Lib.hid (kv_old KV.out hc9); have pV:=KV.out.2; have v0:=pV.c 0 _ rfl; have vf0:=pV.f 0 _ rfl; have v1:=pV.c 1 _ rfl; have vf1:=pV.f 1 _ rfl; have v9:=pV.lt; clear pV) | skip); have HX:=Lib.hid hb9; clear hb9 hc9))
   all_goals
    first
     | (have FN:=kv_set2n (.int .i64 (hiW v)) (.int .u64 (loW v)) KV.out HX.out; have FB:=Lib.hid FN.1; have KN:=Lib.hid FN.2.1; have n0N:=FN.2.2; clear FN; generalize World.setCell (World.setCell _ _ (.int .i64 (hiW v))) _ (.int .u64 (loW v)) = w1 at *)
     | (have FN:=kv_putn (vs:=#[.int .i64 (hiW v),.int .u64 (loW v)]) (t:=112) HX.out; have FB:=Lib.hid FN.1; have KN:=Lib.hid FN.2.1; have n0N:=FN.2.2; clear FN; generalize (World.alloc _ (.cells #[.int .i64 (hiW v),.int .u64 (loW v)] 112)) = w1 at *)
    have nN:=Nat.le_trans HB.out.size n0N
    have neN_X:=Nat.ne_of_gt (Nat.lt_of_lt_of_le KX.out.lt n0N)
    replace HB:=Lib.hid (HB.out.trans (FB.out.mono HB.out.size))
    replace KX:=Lib.hid (KX.out.below FB.out)
    have yN:=KN.out
    have yN0:=yN.c 0 _ rfl
    have yN1:=yN.c 1 _ rfl
    have yNz:=yN.lt
    clear yN
    go_wp2_with fail
    refine (IN.out _).mono ?_
    rintro e2 w2 ⟨rfl,hb2⟩
    replace HB:=hT HB hb2
    replace KX:=Lib.hid (KX.out.below hb2)
    replace KN:=Lib.hid (KN.out.below hb2)
    clear yN0 yN1 yNz
    clear hb2
    go_wp2
    all_goals go_ret2
    all_goals exact ⟨rfl,HB.out⟩
  ·rw [if_neg k,decide_eq_false k] at IN
   clear h IB k
   have KX:=Lib.hid (Blk.of (vs:=#[.int .i64 (hiW x),.int .u64 (loW x)]) (t:=112) (w:=w) (b:=w.heap.size) (by simp))
   have HB:=Lib.hid ((Below.refl w.heap.size w).alloc (by simp; try omega) (.cells #[.int .i64 (hiW x),.int .u64 (loW x)] 112))
   go_enter Tryz.func187,Tryz.ntmps187
   go_wp2_with fail
   generalize w.alloc _ = w0 at *
   have BD:=Lib.hid (show Below w0.heap.size w0 w0.drew from ⟨rfl,rfl,rfl,Nat.le_refl _,fun _ _=>rfl⟩)
   have BD2:=Lib.hid (below_drew_alloc w0 (.cells #[.int .i64 0,.int .u64 0] 112))
   have DOF:=Lib.hid fun W (h:Below w0.heap.size w0 W)=>(OF.out W).mono fun e w' ⟨h1,h2⟩=>show _∧Below w0.heap.size w0 w'∧Below W.heap.size W w' from ⟨h1,h.trans (h2.mono h.size),h2⟩
   have DDV:=Lib.hid fun W (h:Below w0.heap.size w0 W)=>(DV.out W).mono fun e w' ⟨h1,h2⟩=>show _∧Below w0.heap.size w0 w'∧Below W.heap.size W w' from ⟨h1,h.trans (h2.mono h.size),h2⟩
   have yX:=KX.out
   have yX0:=yX.c 0 _ rfl
   have yX1:=yX.c 1 _ rfl
   have yXz:=yX.lt
   clear yX
   go_region_held3 (fun w'=>w'.cell? ⟨w.heap.size,0,none⟩ = some (.int .i64 (hiW x))∧w'.cell? ⟨w.heap.size,1,none⟩ = some (.int .u64 (loW x))) (first | (refine ⟨?_,?_⟩ <;> first | assumption | (rw [far2 KV.out.1 yXz]; assumption)) | go_keep)
    (first
     | (go_at_call 182; with_reducible refine Calls.mono (DOF.out _ (by first | exact BD.out | exact BD2.out | exact HX.out | exact HX.out.alloc HX.out.size _)) ?_; rintro e9 w9 ⟨rfl,hb9,hc9⟩; have pX:=KX.out.below hb9; have qX0:=pX.c 0 _ rfl; have qX1:=pX.c 1 _ rfl; clear pX; (first | (with_reducible have KV:=Lib.hid (kv_drew (vs:=#[.int .i64 0,.int .u64 0]) (t:=112) hc9); have pV:=KV.out.2; have v0:=pV.c 0 _ rfl; have vf0:=pV.f 0 _ rfl; have v1:=pV.c 1 _ rfl; have vf1:=pV.f 1 _ rfl; have v9:=pV.lt; clear pV) | (with_reducible have KV:=Lib.hid (kv_new (vs:=#[.int .i64 0,.int .u64 0]) (t:=112) HX.out hc9); have pV:=KV.out.2; have v0:=pV.c 0 _ rfl; have vf0:=pV.f 0 _ rfl; have v1:=pV.c 1 _ rfl; have vf1:=pV.f 1 _ rfl; have v9:=pV.lt; clear pV) | (with_reducible have KV:=Lib.hid (kv_old KV.out hc9); have pV:=KV.out.2; have v0:=pV.c 0 _ rfl; have vf0:=pV.f 0 _ rfl; have v1:=pV.c 1 _ rfl; have vf1:=pV.f 1 _ rfl; have v9:=pV.lt; clear pV) | skip); have HX:=Lib.hid hb9; clear hb9 hc9)
     | (go_at_call 224; with_reducible refine Calls.mono (DDV.out _ (by first | exact BD.out | exact BD2.out | exact HX.out | exact HX.out.alloc HX.out.size _)) ?_; rintro e9 w9 ⟨rfl,hb9,hc9⟩; have pX:=KX.out.below hb9; have qX0:=pX.c 0 _ rfl; have qX1:=pX.c 1 _ rfl; clear pX; (first | (with_reducible have KV:=Lib.hid (kv_drew (vs:=#[.int .i64 0,.int .u64 0]) (t:=112) hc9); have pV:=KV.out.2; have v0:=pV.c 0 _ rfl; have vf0:=pV.f 0 _ rfl; have v1:=pV.c 1 _ rfl; have vf1:=pV.f 1 _ rfl; have v9:=pV.lt; clear pV) | (with_reducible have KV:=Lib.hid (kv_new (vs:=#[.int .i64 0,.int .u64 0]) (t:=112) HX.out hc9); have pV:=KV.out.2; have v0:=pV.c 0 _ rfl; have vf0:=pV.f 0 _ rfl; have v1:=pV.c 1 _ rfl; have vf1:=pV.f 1 _ rfl; have v9:=pV.lt; clear pV) | (with_reducible have KV:=Lib.hid (kv_old KV.out hc9); have pV:=KV.out.2; have v0:=pV.c 0 _ rfl; have vf0:=pV.f 0 _ rfl; have v1:=pV.c 1 _ rfl; have vf1:=pV.f 1 _ rfl; have v9:=pV.lt; clear pV) | skip); have HX:=Lib.hid hb9; clear hb9 hc9))
   all_goals
    first
     | (have FN:=kv_set2n (.int .i64 (hiW v)) (.int .u64 (loW v)) KV.out HX.out; have FB:=Lib.hid FN.1; have KN:=Lib.hid FN.2.1; have n0N:=FN.2.2; clear FN; generalize World.setCell (World.setCell _ _ (.int .i64 (hiW v))) _ (.int .u64 (loW v)) = w1 at *)
     | (have FN:=kv_putn (vs:=#[.int .i64 (hiW v),.int .u64 (loW v)]) (t:=112) HX.out; have FB:=Lib.hid FN.1; have KN:=Lib.hid FN.2.1; have n0N:=FN.2.2; clear FN; generalize (World.alloc _ (.cells #[.int .i64 (hiW v),.int .u64 (loW v)] 112)) = w1 at *)
    have nN:=Nat.le_trans HB.out.size n0N
    have neN_X:=Nat.ne_of_gt (Nat.lt_of_lt_of_le KX.out.lt n0N)
    replace HB:=Lib.hid (HB.out.trans (FB.out.mono HB.out.size))
    replace KX:=Lib.hid (KX.out.below FB.out)
    have yN:=KN.out
    have yN0:=yN.c 0 _ rfl
    have yN1:=yN.c 1 _ rfl
    have yNz:=yN.lt
    clear yN
    go_wp2_with fail
    refine (IN.out _).mono ?_
    rintro e2 w2 ⟨rfl,hb2⟩
    replace HB:=hT HB hb2
    replace KX:=Lib.hid (KX.out.below hb2)
    replace KN:=Lib.hid (KN.out.below hb2)
    clear yN0 yN1 yNz
    clear hb2
    go_wp2
    all_goals go_ret2
    all_goals exact ⟨rfl,HB.out⟩
theorem apart_any (p x d:Int) (w:World) (hp:I64 p) (hd:I64 d) (hx:FitW x) (h1:FitW (p * d - x)) (h2:FitW (-(p * d - x))) :
 Calls Tryz.prog 147 #[.int .i64 p,wv x,.int .i64 d] w fun e w'=>e = .returned (wv (absZ (p * d - x)))∧Below w.heap.size w w':=by
 have MU:=Lib.hid fun w=>wmul_any p d w hp.lo hp.hi hd.lo hd.hi
 have SB:=Lib.hid fun w=>wsub_any (p * d) x w (mul_fit hp.lo hp.hi hd.lo hd.hi) hx h1
 have AB:=Lib.hid fun w=>wwabs_any (p * d - x) w h1 h2
 unfold wv1 at AB
 clear hp hd hx h1 h2
 generalize absZ (p * d - x) = r at *
 generalize p * d - x = v at *
 generalize p * d = q at *
 unfold wv at *
 have KX:=Lib.hid ((Blk.of (vs:=#[.int .i64 (hiW x),.int .u64 (loW x)]) (t:=112) (w:=w) (b:=w.heap.size) (by simp)).alloc (.cells #[.int .i64 0,.int .u64 0] 112))
 have KZ:=Lib.hid (Blk.of (vs:=#[.int .i64 0,.int .u64 0]) (t:=112) (w:=(w.alloc (.cells #[.int .i64 (hiW x),.int .u64 (loW x)] 112))) (b:=w.heap.size + 1) (by simp))
 have HB:=Lib.hid (((Below.refl w.heap.size w).alloc (by simp; try omega) (.cells #[.int .i64 (hiW x),.int .u64 (loW x)] 112)).alloc (by simp; try omega) (.cells #[.int .i64 0,.int .u64 0] 112))
 go_enter Tryz.func147,Tryz.ntmps147
 go_wp2_with fail
 generalize (w.alloc _).alloc _ = w0 at *
 have BD:=Lib.hid (show Below w0.heap.size w0 w0.drew from ⟨rfl,rfl,rfl,Nat.le_refl _,fun _ _=>rfl⟩)
 have BD2:=Lib.hid (below_drew_alloc w0 (.cells #[.int .i64 0,.int .u64 0] 112))
 have DMU:=Lib.hid fun W (h:Below w0.heap.size w0 W)=>(MU.out W).mono fun e w' ⟨h1,h2⟩=>show _∧Below w0.heap.size w0 w'∧Below W.heap.size W w' from ⟨h1,h.trans (h2.mono h.size),h2⟩
 have DSB:=Lib.hid fun W (h:Below w0.heap.size w0 W)=>(SB.out W).mono fun e w' ⟨h1,h2⟩=>show _∧Below w0.heap.size w0 w'∧Below W.heap.size W w' from ⟨h1,h.trans (h2.mono h.size),h2⟩
 have yX:=KX.out
 have yX0:=yX.c 0 _ rfl
 have yX1:=yX.c 1 _ rfl
 have yXz:=yX.lt
 clear yX
 go_region_held3 (fun w'=>w'.cell? ⟨w.heap.size,0,none⟩ = some (.int .i64 (hiW x))∧w'.cell? ⟨w.heap.size,1,none⟩ = some (.int .u64 (loW x))) (first | (refine ⟨?_,?_⟩ <;> first | assumption | (rw [far2 KV.out.1 yXz]; assumption)) | go_keep)
  (first
   | (go_at_call 145; with_reducible refine Calls.mono (DMU.out _ (by first | exact BD.out | exact BD2.out | exact HX.out | exact HX.out.alloc HX.out.size _)) ?_; rintro e9 w9 ⟨rfl,hb9,hc9⟩; have pX:=KX.out.below hb9; have qX0:=pX.c 0 _ rfl; have qX1:=pX.c 1 _ rfl; clear pX; (first | (with_reducible have KV:=Lib.hid (kv_drew (vs:=#[.int .i64 0,.int .u64 0]) (t:=112) hc9); have pV:=KV.out.2; have v0:=pV.c 0 _ rfl; have vf0:=pV.f 0 _ rfl; have v1:=pV.c 1 _ rfl; have vf1:=pV.f 1 _ rfl; have v9:=pV.lt; clear pV) | (with_reducible have KV:=Lib.hid (kv_new (vs:=#[.int .i64 0,.int .u64 0]) (t:=112) HX.out hc9); have pV:=KV.out.2; have v0:=pV.c 0 _ rfl; have vf0:=pV.f 0 _ rfl; have v1:=pV.c 1 _ rfl; have vf1:=pV.f 1 _ rfl; have v9:=pV.lt; clear pV) | (with_reducible have KV:=Lib.hid (kv_old KV.out hc9); have pV:=KV.out.2; have v0:=pV.c 0 _ rfl; have vf0:=pV.f 0 _ rfl; have v1:=pV.c 1 _ rfl; have vf1:=pV.f 1 _ rfl; have v9:=pV.lt; clear pV) | skip); have HX:=Lib.hid hb9; clear hb9 hc9)
   | (go_at_call 180; with_reducible refine Calls.mono (DSB.out _ (by first | exact BD.out | exact BD2.out | exact HX.out | exact HX.out.alloc HX.out.size _)) ?_; rintro e9 w9 ⟨rfl,hb9,hc9⟩; have pX:=KX.out.below hb9; have qX0:=pX.c 0 _ rfl; have qX1:=pX.c 1 _ rfl; clear pX; (first | (with_reducible have KV:=Lib.hid (kv_drew (vs:=#[.int .i64 0,.int .u64 0]) (t:=112) hc9); have pV:=KV.out.2; have v0:=pV.c 0 _ rfl; have vf0:=pV.f 0 _ rfl; have v1:=pV.c 1 _ rfl; have vf1:=pV.f 1 _ rfl; have v9:=pV.lt; clear pV) | (with_reducible have KV:=Lib.hid (kv_new (vs:=#[.int .i64 0,.int .u64 0]) (t:=112) HX.out hc9); have pV:=KV.out.2; have v0:=pV.c 0 _ rfl; have vf0:=pV.f 0 _ rfl; have v1:=pV.c 1 _ rfl; have vf1:=pV.f 1 _ rfl; have v9:=pV.lt; clear pV) | (with_reducible have KV:=Lib.hid (kv_old KV.out hc9); have pV:=KV.out.2; have v0:=pV.c 0 _ rfl; have vf0:=pV.f 0 _ rfl; have v1:=pV.c 1 _ rfl; have vf1:=pV.f 1 _ rfl; have v9:=pV.lt; clear pV) | skip); have HX:=Lib.hid hb9; clear hb9 hc9))
 all_goals
  first
   | (have FN:=kv_set2n (.int .i64 (hiW v)) (.int .u64 (loW v)) KV.out HX.out; have FB:=Lib.hid FN.1; have KN:=Lib.hid FN.2.1; have n0N:=FN.2.2; clear FN; generalize World.setCell (World.setCell _ _ (.int .i64 (hiW v))) _ (.int .u64 (loW v)) = w1 at *)
   | (have FN:=kv_putn (vs:=#[.int .i64 (hiW v),.int .u64 (loW v)]) (t:=112) HX.out; have FB:=Lib.hid FN.1; have KN:=Lib.hid FN.2.1; have n0N:=FN.2.2; clear FN; generalize (World.alloc _ (.cells #[.int .i64 (hiW v),.int .u64 (loW v)] 112)) = w1 at *)
  have nN:=Nat.le_trans HB.out.size n0N
  have neN_X:=Nat.ne_of_gt (Nat.lt_of_lt_of_le KX.out.lt n0N)
  have neN_Z:=Nat.ne_of_gt (Nat.lt_of_lt_of_le KZ.out.lt n0N)
  replace HB:=Lib.hid (HB.out.trans (FB.out.mono HB.out.size))
  replace KX:=Lib.hid (KX.out.below FB.out)
  replace KZ:=Lib.hid (KZ.out.below FB.out)
  have yN:=KN.out
  have yN0:=yN.c 0 _ rfl
  have yN1:=yN.c 1 _ rfl
  have yNz:=yN.lt
  clear yN
  go_wp2_with fail
  refine (AB.out _).mono ?_
  rintro e2 w2 ⟨rfl,hb2⟩
  replace HB:=hT HB hb2
  replace KX:=Lib.hid (KX.out.below hb2)
  replace KZ:=Lib.hid (KZ.out.below hb2)
  replace KN:=Lib.hid (KN.out.below hb2)
  clear yN0 yN1 yNz
  clear hb2
  have yZ:=KZ.out
  have yZ0:=yZ.c 0 _ rfl
  have yZ1:=yZ.c 1 _ rfl
  have yZz:=yZ.lt
  have yZf0:=yZ.f 0 _ rfl
  have yZf1:=yZ.f 1 _ rfl
  clear yZ
  have yN:=KN.out
  have yN0:=yN.c 0 _ rfl
  have yN1:=yN.c 1 _ rfl
  have yNz:=yN.lt
  have yNf0:=yN.f 0 _ rfl
  have yNf1:=yN.f 1 _ rfl
  clear yN
  go_wp2
  replace KX:=Lib.hid (blk_other (j:=1) (blk_other (j:=0) KX.out neN_X (.int .i64 (hiW r))) neN_X (.int .u64 (loW r)))
  replace KZ:=Lib.hid (blk_other (j:=1) (blk_other (j:=0) KZ.out neN_Z (.int .i64 (hiW r))) neN_Z (.int .u64 (loW r)))
  replace KN:=kst (kst KN 0 (.int .i64 (hiW r))) 1 (.int .u64 (loW r))
  replace HB:=Lib.hid ((HB.out.setCell (p:=⟨_,0,none⟩) nN (.int .i64 (hiW r))).setCell (p:=⟨_,1,none⟩) nN (.int .u64 (loW r)))
  clear yZ0 yZ1 yZz yZf0 yZf1 yN0 yN1 yNz yNf0 yNf1
  generalize World.setCell (World.setCell _ _ (.int .i64 (hiW r))) _ (.int .u64 (loW r)) = w3 at *
  simp only [List.set] at KN
  replace KX:=Lib.hid (blk_other (b:=w.heap.size) (n:=(w.heap.size + 1)) (j:=1) (blk_other (b:=w.heap.size) (n:=(w.heap.size + 1)) (j:=0) KX.out (by omega) (.int .i64 (hiW r))) (by omega) (.int .u64 (loW r)))
  replace KZ:=kst (kst KZ 0 (.int .i64 (hiW r))) 1 (.int .u64 (loW r))
  replace KN:=Lib.hid (blk_other (j:=1) (blk_other (j:=0) KN.out (Ne.symm neN_Z) (.int .i64 (hiW r))) (Ne.symm neN_Z) (.int .u64 (loW r)))
  replace HB:=Lib.hid ((HB.out.setCell (p:=⟨(w.heap.size + 1),0,none⟩) (show w.heap.size≤(w.heap.size + 1) by omega) (.int .i64 (hiW r))).setCell (p:=⟨(w.heap.size + 1),1,none⟩) (show w.heap.size≤(w.heap.size + 1) by omega) (.int .u64 (loW r)))
  generalize (w3.setCell _ _).setCell _ _ = w4 at *
  simp only [List.set] at KZ
  have yZ:=KZ.out
  have yZ0:=yZ.c 0 _ rfl
  have yZ1:=yZ.c 1 _ rfl
  have yZz:=yZ.lt
  clear yZ
  refine bodyPost_ret (v:=.agg #[.int .i64 (hiW r),.int .u64 (loW r)]) (by simp [results,Tryz.results147,go_sem,yZ0,yZ1]) rfl ⟨rfl,HB.out⟩
end Go.Proofs.YtajmjkliblippaaGreatDoor
namespace Go.Proofs.YtajmjkliblippaaGreatDoor
open Go.RowKit
def absI (x:Int):Int:=if x < 0 then -x else x
theorem abs_any (x:Int) (w:World) (_h0:-9223372036854775807≤x) (_h1:x≤9223372036854775807) :
 Calls Tryz.prog 86 #[.int .i64 x] w fun e w'=>e = .returned (.int .i64 (absI x))∧w = w':=by
 have h2:(x == -9223372036854775808) = false:=by simp; omega
 go_enter Tryz.func86,Tryz.ntmps86
 go_wp2
 all_goals go_ret
 ·exact ⟨ret_int (by unfold absI; rw [if_pos (by assumption)]),rfl⟩
 ·exact ⟨ret_int (by unfold absI; rw [if_neg (by omega)]),rfl⟩
def vldP (x y:Int):Bool:=decide (-2000000≤x∧x≤2000000∧-2000000≤y∧y≤2000000)
theorem vldP_iff {x y:Int}:vldP x y = true↔-2000000≤x∧x≤2000000∧-2000000≤y∧y≤2000000:=by unfold vldP; rw [decide_eq_true_iff]
set_option maxHeartbeats 4000000
theorem vldP_any (x y:Int) (w:World):Calls Tryz.prog 49 #[.agg #[.int .i64 x,.int .i64 y]] w fun e w'=>e = .returned (.bool (vldP x y))∧Below w.heap.size w w':=by
 have key:(decide (-2000000≤x) = false∧vldP x y = false)∨(decide (-2000000≤x) = true∧decide (x≤2000000) = false∧vldP x y = false)∨(decide (-2000000≤x) = true∧decide (x≤2000000) = true∧decide (-2000000≤y) = false∧vldP x y = false)∨(decide (-2000000≤x) = true∧decide (x≤2000000) = true∧decide (-2000000≤y) = true∧decide (y≤2000000) = false∧vldP x y = false)∨(decide (-2000000≤x) = true∧decide (x≤2000000) = true∧decide (-2000000≤y) = true∧decide (y≤2000000) = true∧vldP x y = true):=by
  unfold vldP
  simp only [decide_eq_true_eq,decide_eq_false_iff_not]
  omega
 rcases key with ⟨g0,E⟩ | ⟨g0,g1,E⟩ | ⟨g0,g1,g2,E⟩ | ⟨g0,g1,g2,g3,E⟩ | ⟨g0,g1,g2,g3,E⟩
 all_goals
  rw [E]
  clear E
  go_enter Tryz.func49,Tryz.ntmps49
  go_wp2
  go_ret
  exact ⟨rfl,(Below.refl _ _).alloc (Nat.le_refl _) _⟩
set_option maxHeartbeats 200000
theorem regrown_drewN {B:Nat} {w w':World} {P:Program} {f:FuncId} {args:Array Value} {v:Value} (h:Calls P f args w fun e w'=>e = .returned v∧w = w'):Calls P f args w fun e w'=>e = .returned v∧Below w.heap.size w w':=
 h.mono fun e w' ⟨h1,h2⟩=>⟨h1,by rw [← h2]; exact Below.refl _ _⟩
theorem lst_form {l:List Ms} {v:Value} {w:World} (h:LstAt l v w):∃ p cap,v = .slice p l.length cap:=by
 rcases h with ⟨rfl,rfl⟩ | ⟨b,o,cap,rfl,_⟩
 ·exact ⟨none,0,rfl⟩
 ·exact ⟨_,_,rfl⟩
theorem lst_at {l:List Ms} {p:Option Addr} {cap:Nat} {w:World} (h:LstAt l (.slice p l.length cap) w) {k:Nat} (q:k < l.length):∃ b o,p = some ⟨b,o,none⟩∧l.length≤cap∧cap≤9223372036854775807∧MsAt l b o w:=by
 rcases h with ⟨_,rfl⟩ | ⟨b,o,cap',e,h2,h3,h4⟩
 ·exact absurd q (by simp)
 ·injection e with e1 e2 e3
  subst e3
  exact ⟨b,o,e1,h2,h3,h4⟩
theorem ex_blk {vs:List Value} {b:Nat} {W:World} (_:Hid (Blk vs b W)):∃ b',b' = b:=⟨b,rfl⟩
end Go.Proofs.YtajmjkliblippaaGreatDoor
namespace Go.Proofs.YtajmjkliblippaaGreatDoor.S44
open Go.RowKit
theorem mul_abs {x y X Y:Int} (h1:-X≤x) (h2:x≤X) (h3:-Y≤y) (h4:y≤Y):-(X * Y)≤x * y∧x * y≤X * Y:=by
 have a:=Int.mul_nonneg (show 0≤X - x by omega) (show 0≤Y + y by omega)
 have b:=Int.mul_nonneg (show 0≤X + x by omega) (show 0≤Y - y by omega)
 have c:=Int.mul_nonneg (show 0≤X - x by omega) (show 0≤Y - y by omega)
 have d:=Int.mul_nonneg (show 0≤X + x by omega) (show 0≤Y + y by omega)
 have e1:(X - x) * (Y + y) + (X + x) * (Y - y) = 2 * (X * Y) - 2 * (x * y):=by grind
 have e2:(X - x) * (Y - y) + (X + x) * (Y + y) = 2 * (X * Y) + 2 * (x * y):=by grind
 omega
structure EdM (m:Ms):Prop where
 a0:-256≤m.a
 a1:m.a≤256
 b0:-256≤m.b
 b1:m.b≤256
 z0:-4294967296≤m.z
 z1:m.z≤4294967296
 d0:0≤m.d
 d1:m.d≤8589934592
theorem OkM.ed {m:Ms} (h:OkM m):EdM m:=⟨h.a0,h.a1,h.b0,h.b1,h.z0,h.z1,h.d0,by have:=h.d1; omega⟩
structure SmC (c:Int):Prop where
 lo:-12884901888≤c
 hi:c≤12884901888
theorem edge_sm {m:Ms} (h:EdM m) (s:Bool):SmC (edgeC m s):=by
 have:=h.z0
 have:=h.z1
 have:=h.d0
 have:=h.d1
 unfold edgeC
 cases s
 ·exact ⟨by show -12884901888≤m.z - m.d; omega,by show m.z - m.d≤12884901888; omega⟩
 ·exact ⟨by show -12884901888≤m.z + m.d; omega,by show m.z + m.d≤12884901888; omega⟩
structure SmP (p:Cr):Prop where
 x0:-6597069766656≤p.x
 x1:p.x≤6597069766656
 y0:-6597069766656≤p.y
 y1:p.y≤6597069766656
 d0:0≤p.d
 d1:p.d≤131072
theorem cross_sm {m n:Ms} (hm:EdM m) (hn:EdM n) {c e:Int} (hc:SmC c) (he:SmC e):SmP (crossC m n c e):=by
 have p1:=mul_abs (X:=12884901888) (Y:=256) hc.lo hc.hi hn.b0 hn.b1
 have p2:=mul_abs (X:=12884901888) (Y:=256) he.lo he.hi hm.b0 hm.b1
 have p3:=mul_abs (X:=256) (Y:=12884901888) hm.a0 hm.a1 he.lo he.hi
 have p4:=mul_abs (X:=256) (Y:=12884901888) hn.a0 hn.a1 hc.lo hc.hi
 have p5:=mul_abs (X:=256) (Y:=256) hm.a0 hm.a1 hn.b0 hn.b1
 have p6:=mul_abs (X:=256) (Y:=256) hn.a0 hn.a1 hm.b0 hm.b1
 unfold crossC detM
 split
 ·constructor <;> simp only <;> omega
 ·constructor <;> simp only <;> omega
theorem edges_any (m:Ms) (w:World) (h:EdM m) :
 Calls Tryz.prog 137 #[.agg #[.int .i64 m.s,.int .i64 m.a,.int .i64 m.b,.int .i64 m.z,.int .i64 m.d,.int .i64 m.w]] w
  fun e w'=>e = .returned (.agg #[.int .i64 m.a,.int .i64 m.b,.int .i64 (edgeC m false),.int .i64 m.a,.int .i64 m.b,.int .i64 (edgeC m true)])∧Below w.heap.size w w':=by
 have z0:=h.z0
 have z1:=h.z1
 have d0:=h.d0
 have d1:=h.d1
 have E1:=Lib.hid (show edgeC m false = m.z - m.d from rfl)
 have E2:=Lib.hid (show edgeC m true = m.z + m.d from rfl)
 clear h
 generalize edgeC m false = c at *
 generalize edgeC m true = e at *
 obtain ⟨s,a,b,z,d,t⟩:=m
 simp only at z0 z1 d0 d1 E1 E2 ⊢
 go_enter Tryz.func137,Tryz.ntmps137
 go_wp2
 refine bodyPost_ret (v:=.agg #[.int .i64 a,.int .i64 b,.int .i64 (z - d),.int .i64 a,.int .i64 b,.int .i64 (z + d)]) (by simp [results,Tryz.results137,go_sem]) rfl ⟨by rw [E1.out,E2.out],?_⟩
 exact ((Below.refl w.heap.size w).alloc (by simp) _).alloc (by simp) _
theorem below_set3 {B n:Nat} {w w1:World} (h:Below B w w1) (hB:B≤n) (u v x:Value):Below B w (((w1.setCell ⟨n,0,none⟩ u).setCell ⟨n,1,none⟩ v).setCell ⟨n,2,none⟩ x):=
 ((h.setCell (p:=⟨n,0,none⟩) hB u).setCell (p:=⟨n,1,none⟩) hB v).setCell (p:=⟨n,2,none⟩) hB x
def meetF (m n:Ms) (c e:Int):Cr × Bool:=if detM m n = 0 then (⟨0,0,0⟩,false) else (crossC m n c e,true)
set_option maxHeartbeats 1000000
theorem meet_any (m n:Ms) (c e:Int) (w:World) (hm:EdM m) (hn:EdM n) (hc:SmC c) (he:SmC e) :
 Calls Tryz.prog 138 #[.agg #[.int .i64 m.a,.int .i64 m.b,.int .i64 c],.agg #[.int .i64 n.a,.int .i64 n.b,.int .i64 e]] w
  fun r w'=>r = .returned (.tuple #[.agg #[.int .i64 (meetF m n c e).1.x,.int .i64 (meetF m n c e).1.y,.int .i64 (meetF m n c e).1.d],.bool (meetF m n c e).2])∧Below w.heap.size w w':=by
 have p1:=mul_abs (X:=12884901888) (Y:=256) hc.lo hc.hi hn.b0 hn.b1
 have p2:=mul_abs (X:=12884901888) (Y:=256) he.lo he.hi hm.b0 hm.b1
 have p3:=mul_abs (X:=256) (Y:=12884901888) hm.a0 hm.a1 he.lo he.hi
 have p4:=mul_abs (X:=256) (Y:=12884901888) hn.a0 hn.a1 hc.lo hc.hi
 have p5:=mul_abs (X:=256) (Y:=256) hm.a0 hm.a1 hn.b0 hn.b1
 have p6:=mul_abs (X:=256) (Y:=256) hn.a0 hn.a1 hm.b0 hm.b1
 have E0:meetF m n c e = if detM m n = 0 then (⟨0,0,0⟩,false) else (crossC m n c e,true):=rfl
 have ED:detM m n = m.a * n.b - n.a * m.b:=rfl
 have EC:crossC m n c e = if detM m n < 0 then ⟨-(c * n.b - e * m.b),-(m.a * e - n.a * c),-detM m n⟩ else ⟨c * n.b - e * m.b,m.a * e - n.a * c,detM m n⟩:=rfl
 rw [ED] at E0 EC
 clear ED hm hn hc he
 generalize crossC m n c e = C at *
 generalize meetF m n c e = M at *
 obtain ⟨ms,a,b,mz,md,mw⟩:=m
 obtain ⟨ns,a',b',nz,nd,nw⟩:=n
 simp only at p1 p2 p3 p4 p5 p6 E0 EC ⊢
 obtain ⟨p10,p11⟩:=p1
 obtain ⟨p20,p21⟩:=p2
 obtain ⟨p30,p31⟩:=p3
 obtain ⟨p40,p41⟩:=p4
 obtain ⟨p50,p51⟩:=p5
 obtain ⟨p60,p61⟩:=p6
 have s1:IntKind.i64.wrap (c * b') = c * b':=IntWalk.i64_in _ (by omega)
 have s2:IntKind.i64.wrap (e * b) = e * b:=IntWalk.i64_in _ (by omega)
 have s3:IntKind.i64.wrap (a * e) = a * e:=IntWalk.i64_in _ (by omega)
 have s4:IntKind.i64.wrap (a' * c) = a' * c:=IntWalk.i64_in _ (by omega)
 have s5:IntKind.i64.wrap (c * b' - e * b) = c * b' - e * b:=IntWalk.i64_in _ (by omega)
 have s6:IntKind.i64.wrap (a * e - a' * c) = a * e - a' * c:=IntWalk.i64_in _ (by omega)
 by_cases hz:a * b' - a' * b = 0
 ·have g:(a * b' - a' * b == 0) = true:=by simpa using hz
  have E:=Lib.hid (E0.trans (if_pos hz))
  clear hz E0 EC
  go_enter Tryz.func138,Tryz.ntmps138
  go_wp2
  go_quiet (fail)
  clear s1 s2 s3 s4 s5 s6
  go_wp2
  refine bodyPost_ret (v:=.tuple #[.agg #[.int .i64 0,.int .i64 0,.int .i64 0],.bool false]) (by simp [results,Tryz.results138,go_sem]) rfl ⟨by rw [E.out],?_⟩
  exact below_set3 (below_drewN (((Below.refl w.heap.size w).alloc (by simp) _).alloc (by simp) _ |>.alloc (by simp; try omega) _) _) (by omega) _ _ _
 ·have g:(a * b' - a' * b == 0) = false:=by simpa using hz
  by_cases hn:a * b' - a' * b < 0
  ·have g2:decide (a * b' - a' * b < 0) = true:=by simpa using hn
   have E:=Lib.hid (E0.trans (if_neg hz))
   have EE:=Lib.hid (EC.trans (if_pos hn))
   clear hz E0 EC hn
   go_enter Tryz.func138,Tryz.ntmps138
   go_wp2
   go_quiet (fail)
   clear s1 s2 s3 s4 s5 s6
   go_wp2
   refine bodyPost_ret (v:=.tuple #[.agg #[.int .i64 (-(c * b' - e * b)),.int .i64 (-(a * e - a' * c)),.int .i64 (-(a * b' - a' * b))],.bool true]) (by simp [results,Tryz.results138,go_sem]) rfl ⟨by rw [E.out,EE.out],?_⟩
   exact below_set3 (below_drewN (((Below.refl w.heap.size w).alloc (by simp) _).alloc (by simp) _ |>.alloc (by simp; try omega) _) _) (by omega) _ _ _
  ·have g2:decide (a * b' - a' * b < 0) = false:=by simpa using hn
   have E:=Lib.hid (E0.trans (if_neg hz))
   have EE:=Lib.hid (EC.trans (if_neg hn))
   clear hz E0 EC hn
   go_enter Tryz.func138,Tryz.ntmps138
   go_wp2
   go_quiet (fail)
   clear s1 s2 s3 s4 s5 s6
   go_wp2
   refine bodyPost_ret (v:=.tuple #[.agg #[.int .i64 (c * b' - e * b),.int .i64 (a * e - a' * c),.int .i64 (a * b' - a' * b)],.bool true]) (by simp [results,Tryz.results138,go_sem]) rfl ⟨by rw [E.out,EE.out],?_⟩
   exact below_set3 (below_drewN (((Below.refl w.heap.size w).alloc (by simp) _).alloc (by simp) _ |>.alloc (by simp; try omega) _) _) (by omega) _ _ _
end Go.Proofs.YtajmjkliblippaaGreatDoor.S44
namespace Go.Proofs.YtajmjkliblippaaGreatDoor.S44
open Go.RowKit
def inB (p:Cr) (m:Ms):Bool:=decide (absI (gI m p.x p.y p.d)≤m.d * p.d)
def holdsB (l:List Ms) (p:Cr):Bool:=l.all (inB p)
def HoldR (l:List Ms) (p:Cr) (w:World) (v:Value) (wr:World):Prop:=∃ k:Nat,v = .int .i64 k∧k≤l.length∧Hid (∀ i,i < k→inB p (nth l i) = true)∧Below w.heap.size w wr
set_option maxHeartbeats 2000000
theorem holds_some (l:List Ms) (p:Cr) (b o cap:Nat) (w:World) (h:MsAt l b o w) (hc:l.length≤cap) (hm:cap≤9223372036854775807) (he:∀ m ∈ l,EdM m) (hp:SmP p) :
 Calls Tryz.prog 139 #[.slice (some ⟨b,o,none⟩) l.length cap,.agg #[.int .i64 p.x,.int .i64 p.y,.int .i64 p.d]] w fun e w'=>e = .returned (.bool (holdsB l p))∧Below w.heap.size w w':=by
 have H:=Lib.hid h
 have hlt:=h.lt
 have HE:=Lib.hid he
 have HP:=Lib.hid hp
 clear h he hp
 go_enter Tryz.func139,Tryz.ntmps139
 go_wp2
 generalize hw0:w.alloc (.cells #[.int .i64 p.x,.int .i64 p.y,.int .i64 p.d] 155) = w0 at *
 have y0:w0.cell? ⟨w.heap.size,0,none⟩ = some (.int .i64 p.x):=by rw [← hw0,World.cell?_alloc_at _ _ _ _ rfl]; rfl
 have y1:w0.cell? ⟨w.heap.size,1,none⟩ = some (.int .i64 p.y):=by rw [← hw0,World.cell?_alloc_at _ _ _ _ rfl]; rfl
 have y2:w0.cell? ⟨w.heap.size,2,none⟩ = some (.int .i64 p.d):=by rw [← hw0,World.cell?_alloc_at _ _ _ _ rfl]; rfl
 have hs0:w.heap.size < w0.heap.size:=by rw [← hw0]; simp
 have hb0:Below w.heap.size w w0:=by rw [← hw0]; exact (Below.refl _ _).alloc (Nat.le_refl _) _
 have Y0:=Lib.hid y0
 have Y1:=Lib.hid y1
 have Y2:=Lib.hid y2
 have HB0:=Lib.hid hb0
 clear hw0 y0 y1 y2 hb0
 go_loopw [9] (HoldR l p w0) (fun i _=>l.length - (intOf i).toNat)
 case atStart=>exact ⟨0,rfl,Nat.zero_le _,Lib.hid fun i hi=>absurd hi (by omega),Below.refl _ _⟩
 case round =>
  obtain ⟨k,rfl,hk,hok,hbr⟩:=hrel
  have HB:=Lib.hid hbr
  by_cases q:k < l.length
  ·have q':decide (k < l.length) = true:=by simpa using q
   have M:=H.out.keep (HB0.out.trans (hbr.mono HB0.out.size)) hlt
   have x0:=(hbr.cell (p:=⟨w.heap.size,0,none⟩) hs0).trans Y0.out
   have x1:=(hbr.cell (p:=⟨w.heap.size,1,none⟩) hs0).trans Y1.out
   have x2:=(hbr.cell (p:=⟨w.heap.size,2,none⟩) hs0).trans Y2.out
   have hsr:w.heap.size < wr.heap.size:=Nat.lt_of_lt_of_le hs0 hbr.size
   have c0:=M.c0 k q
   have c1:=M.c1 k q
   have c2:=M.c2 k q
   have c3:=M.c3 k q
   have c4:=M.c4 k q
   have c5:=M.c5 k q
   have ed:=HE.out _ (nth_mem q)
   have hp:=HP.out
   have EV:=Lib.hid (show inB p (nth l k) = decide (absI ((nth l k).a * p.x + (nth l k).b * p.y - (nth l k).z * p.d)≤(nth l k).d * p.d) from rfl)
   have MEM:=Lib.hid (nth_mem q)
   clear M hbr
   obtain ⟨p10,p11⟩:=mul_abs (X:=256) (Y:=6597069766656) ed.a0 ed.a1 hp.x0 hp.x1
   obtain ⟨p20,p21⟩:=mul_abs (X:=256) (Y:=6597069766656) ed.b0 ed.b1 hp.y0 hp.y1
   have d0:=hp.d0
   have d1:=hp.d1
   obtain ⟨p30,p31⟩:=mul_abs (X:=4294967296) (Y:=131072) ed.z0 ed.z1 (by omega) d1
   have dd0:=ed.d0
   have dd1:=ed.d1
   obtain ⟨p40,p41⟩:=mul_abs (X:=8589934592) (Y:=131072) (x:=(nth l k).d) (by omega) dd1 (by omega) d1
   clear ed hp
   generalize hN:nth l k = m at *
   have HN:=Lib.hid hN
   clear hN
   obtain ⟨ms,ma,mb,mz,md,mw⟩:=m
   obtain ⟨px,py,pd⟩:=p
   simp only at *
   have s1:IntKind.i64.wrap (ma * px) = ma * px:=IntWalk.i64_in _ (by omega)
   have s2:IntKind.i64.wrap (mb * py) = mb * py:=IntWalk.i64_in _ (by omega)
   have s3:IntKind.i64.wrap (mz * pd) = mz * pd:=IntWalk.i64_in _ (by omega)
   have s4:IntKind.i64.wrap (md * pd) = md * pd:=IntWalk.i64_in _ (by omega)
   have s5:IntKind.i64.wrap (ma * px + mb * py) = ma * px + mb * py:=IntWalk.i64_in _ (by omega)
   have s6:IntKind.i64.wrap (ma * px + mb * py - mz * pd) = ma * px + mb * py - mz * pd:=IntWalk.i64_in _ (by omega)
   have AB:=Lib.hid fun w=>abs_any (ma * px + mb * py - mz * pd) w (by omega) (by omega)
   generalize absI (ma * px + mb * py - mz * pd) = v at *
   by_cases hv:v≤md * pd
   ·have g:decide (md * pd < v) = false:=by simp; omega
    have EE:=Lib.hid (EV.out.trans (decide_eq_true hv))
    clear hv
    go_wp2_with fail
    go_quiet ((go_at_call 86; first | exact quiet_left (AB.out _) | exact quiet_add_left (AB.out _)))
    clear s1 s2 s3 s4 s5 s6
    go_wp2
    go_roundw
    case rel =>
     refine ⟨k + 1,by go_num,by omega,Lib.hid fun i hi=>?_,HB.out.trans ((below_drewN ((Below.refl _ _).alloc (Nat.le_refl _) _) _).mono HB.out.size)⟩
     by_cases e:i = k
     ·rw [e,HN.out]; exact EE.out
     ·exact hok.out i (by omega)
    case measure=>simp [intOf]; omega
   ·have g:decide (md * pd < v) = true:=by simp; omega
    have EE:=Lib.hid (EV.out.trans (decide_eq_false hv))
    clear hv
    go_wp2_with fail
    go_quiet ((go_at_call 86; first | exact quiet_left (AB.out _) | exact quiet_add_left (AB.out _)))
    clear s1 s2 s3 s4 s5 s6
    go_wp2
    go_ret
    refine ⟨ret_b ?_,HB0.out.trans ((HB.out.trans ((below_drewN ((Below.refl _ _).alloc (Nat.le_refl _) _) _).mono HB.out.size)).mono HB0.out.size)⟩
    cases hx:holdsB l ⟨px,py,pd⟩
    ·rfl
    ·unfold holdsB at hx
     have:=List.all_eq_true.1 hx _ MEM.out
     rw [EE.out] at this
     cases this
  ·go_wp2
   go_ret
   refine ⟨ret_b ?_,HB0.out.trans (HB.out.mono HB0.out.size)⟩
   symm
   unfold holdsB
   refine List.all_eq_true.2 fun m hm=>?_
   obtain ⟨i,hi,rfl⟩:=List.getElem_of_mem hm
   rw [← nth_eq hi]
   exact hok.out i (by omega)
set_option maxHeartbeats 200000
theorem holds_nil (p:Cr) (w:World) :
 Calls Tryz.prog 139 #[.slice none 0 0,.agg #[.int .i64 p.x,.int .i64 p.y,.int .i64 p.d]] w fun e w'=>e = .returned (.bool true)∧Below w.heap.size w w':=by
 go_enter Tryz.func139,Tryz.ntmps139
 go_wp2
 go_loop [9] (fun v=>v = .int .i64 0) (fun _=>0)
 case atStart=>rfl
 case round =>
  subst hrel
  go_wp2
  go_ret
  exact ⟨rfl,(Below.refl _ _).alloc (Nat.le_refl _) _⟩
theorem holds_any (l:List Ms) (p:Cr) (v:Value) (w:World) (h:LstAt l v w) (he:∀ m ∈ l,EdM m) (hp:SmP p) :
 Calls Tryz.prog 139 #[v,.agg #[.int .i64 p.x,.int .i64 p.y,.int .i64 p.d]] w fun e w'=>e = .returned (.bool (holdsB l p))∧Below w.heap.size w w':=by
 rcases h with ⟨rfl,rfl⟩ | ⟨b,o,cap,rfl,h2,h3,h4⟩
 ·exact holds_nil p w
 ·exact holds_some l p b o cap w h4 h2 h3 he hp
end Go.Proofs.YtajmjkliblippaaGreatDoor.S44
namespace Go.Proofs.YtajmjkliblippaaGreatDoor
open Go.RowKit
structure CopyAt (m:Ms) (bm:Nat) (W:World):Prop where
 lt:bm < W.heap.size
 c0:W.cell? ⟨bm,0,none⟩ = some (.int .i64 m.s)
 c1:W.cell? ⟨bm,1,none⟩ = some (.int .i64 m.a)
 c2:W.cell? ⟨bm,2,none⟩ = some (.int .i64 m.b)
 c3:W.cell? ⟨bm,3,none⟩ = some (.int .i64 m.z)
 c4:W.cell? ⟨bm,4,none⟩ = some (.int .i64 m.d)
 c5:W.cell? ⟨bm,5,none⟩ = some (.int .i64 m.w)
theorem copy_new (m:Ms) (w:World) (t:TypeId):CopyAt m w.heap.size (w.alloc (.cells #[.int .i64 m.s,.int .i64 m.a,.int .i64 m.b,.int .i64 m.z,.int .i64 m.d,.int .i64 m.w] t)):=
 ⟨by simp,by rw [World.cell?_alloc_at _ _ _ _ rfl]; rfl,by rw [World.cell?_alloc_at _ _ _ _ rfl]; rfl,by rw [World.cell?_alloc_at _ _ _ _ rfl]; rfl,by rw [World.cell?_alloc_at _ _ _ _ rfl]; rfl,by rw [World.cell?_alloc_at _ _ _ _ rfl]; rfl,by rw [World.cell?_alloc_at _ _ _ _ rfl]; rfl⟩
theorem CopyAt.same {m:Ms} {bm:Nat} {W w':World} (h:CopyAt m bm W) (hk:w'.heap[bm]? = W.heap[bm]?) (hs:W.heap.size≤w'.heap.size):CopyAt m bm w':=
 ⟨Nat.lt_of_lt_of_le h.lt hs,(World.cell?_of_block (w:=W) (a:=⟨bm,0,none⟩) hk).trans h.c0,(World.cell?_of_block (w:=W) (a:=⟨bm,1,none⟩) hk).trans h.c1,(World.cell?_of_block (w:=W) (a:=⟨bm,2,none⟩) hk).trans h.c2,(World.cell?_of_block (w:=W) (a:=⟨bm,3,none⟩) hk).trans h.c3,(World.cell?_of_block (w:=W) (a:=⟨bm,4,none⟩) hk).trans h.c4,(World.cell?_of_block (w:=W) (a:=⟨bm,5,none⟩) hk).trans h.c5⟩
theorem CopyAt.below {m:Ms} {bm:Nat} {W w':World} (h:CopyAt m bm W) (hb:Below W.heap.size W w'):CopyAt m bm w':=h.same (hb.block bm h.lt) hb.size
end Go.Proofs.YtajmjkliblippaaGreatDoor
