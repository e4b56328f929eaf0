/-
  Walks and laws of the layers below, gathered from several texts.
-/
import Derived.Lib.Hide
import Derived.Test.YtajmjkliblippaaGreatDoorShelfQ
import Derived.WalkKit
import Derived.WalkSpells
import Derived.IntWalk
import Derived.BigQuiet
import Derived.Deep.QuietTactic
import Derived.Deep.LoopGhost
import Derived.LoopTactic
import Derived.Deep.Cut
import Derived.Deep.RegionHeld3
import Derived.Laws.Bits64b
import Derived.Laws.Bits64
import Derived.Lib.QuietBelow
import Derived.Laws.OwnMore
import Derived.Maps.AppendAt
import Derived.OwnWalk
import Derived.OneCell
import Derived.Lib.SmallJoins
import Derived.Deep.Onto
import Derived.Lib.SlicesCompact
import Derived.Lib.RowBridge
import Derived.Test.YtajmjkliblippaaGreatDoorQ3
import Derived.Test.YtajmjkliblippaaGreatDoorQ9
import Derived.Test.YtajmjkliblippaaGreatDoorQ10
import Derived.Test.YtajmjkliblippaaGreatDoorQ14
import Derived.Test.YtajmjkliblippaaGreatDoorQ15
import Derived.Test.YtajmjkliblippaaGreatDoorQ16
import Derived.Test.YtajmjkliblippaaGreatDoorQ17
import Derived.Test.YtajmjkliblippaaGreatDoorQ22
import Derived.Test.YtajmjkliblippaaGreatDoorQ34
set_option linter.unusedVariables false
namespace Go.Proofs.YtajmjkliblippaaGreatDoor
open Go.RowKit
set_option maxHeartbeats 8000000
set_option maxRecDepth 100000
theorem rnearest_any (x d:Int) (w:World) (hx0:-85070591730234615865843651857942052864 < x) (hx:x < 85070591730234615865843651857942052864) (hd:0 < d) (hd1:d≤9223372036854775807) :
 Calls Tryz.prog 154 #[wv x,.int .i64 d] w fun e w'=>e = .returned (.tuple #[.int .i64 (if I64 (nearI2 x d) then nearI2 x d else 0),.bool (decide (I64 (nearI2 x d)))])∧Below w.heap.size w w':=by
 have OF:=Lib.hid fun w=>rof_any d w (by omega) hd1
 have DV:=Lib.hid fun w=>rnear_any x d w hx0 hx hd (by omega)
 have IN:=Lib.hid fun w=>rnear_int (x:=nearI2 x d) w (near_bd hd hx0 hx hd1)
 generalize decide (I64 (nearI2 x d)) = ok at *
 generalize (if I64 (nearI2 x d) then nearI2 x d else 0) = u at *
 generalize nearI2 x d = v at *
 unfold wv at *
 clear hx0 hx hd hd1
 have KX:=Lib.hid (Blk.of (vs:=#[.int .i64 (hiW x),.int .u64 (loW x)]) (t:=112) (w:=w) (b:=w.heap.size) (by simp))
 have HB:=Lib.hid ((Below.refl w.heap.size w).alloc (by simp; try omega) (.cells #[.int .i64 (hiW x),.int .u64 (loW x)] 112))
 go_enter Tryz.func154,Tryz.ntmps154
 go_wp2_with fail
 generalize w.alloc _ = w0 at *
 have BD:=Lib.hid (show Below w0.heap.size w0 w0.drew from ⟨rfl,rfl,rfl,Nat.le_refl _,fun _ _=>rfl⟩)
 have BD2:=Lib.hid (below_drew_alloc w0 (.cells #[.int .i64 0,.int .u64 0] 112))
 have DOF:=Lib.hid fun W (h:Below w0.heap.size w0 W)=>(OF.out W).mono fun e w' ⟨h1,h2⟩=>show _∧Below w0.heap.size w0 w'∧Below W.heap.size W w' from ⟨h1,h.trans (h2.mono h.size),h2⟩
 have DDV:=Lib.hid fun W (h:Below w0.heap.size w0 W)=>(DV.out W).mono fun e w' ⟨h1,h2⟩=>show _∧Below w0.heap.size w0 w'∧Below W.heap.size W w' from ⟨h1,h.trans (h2.mono h.size),h2⟩
 have yX:=KX.out
 have yX0:=yX.c 0 _ rfl
 have yX1:=yX.c 1 _ rfl
 have yXz:=yX.lt
 clear yX
 go_region_held3 (fun w'=>w'.cell? ⟨w.heap.size,0,none⟩ = some (.int .i64 (hiW x))∧w'.cell? ⟨w.heap.size,1,none⟩ = some (.int .u64 (loW x))) (first | (refine ⟨?_,?_⟩ <;> first | assumption | (rw [far2 KV.out.1 yXz]; assumption)) | go_keep)
  (first
   | (go_at_call 195; with_reducible refine Calls.mono (DOF.out _ (by first | exact BD.out | exact BD2.out | exact HX.out | exact HX.out.alloc HX.out.size _)) ?_; rintro e9 w9 ⟨rfl,hb9,hc9⟩; have pX:=KX.out.below hb9; have qX0:=pX.c 0 _ rfl; have qX1:=pX.c 1 _ rfl; clear pX; (first | (with_reducible have KV:=Lib.hid (kv_drew (vs:=#[.int .i64 0,.int .u64 0]) (t:=112) hc9); have pV:=KV.out.2; have v0:=pV.c 0 _ rfl; have vf0:=pV.f 0 _ rfl; have v1:=pV.c 1 _ rfl; have vf1:=pV.f 1 _ rfl; have v9:=pV.lt; clear pV) | (with_reducible have KV:=Lib.hid (kv_new (vs:=#[.int .i64 0,.int .u64 0]) (t:=112) HX.out hc9); have pV:=KV.out.2; have v0:=pV.c 0 _ rfl; have vf0:=pV.f 0 _ rfl; have v1:=pV.c 1 _ rfl; have vf1:=pV.f 1 _ rfl; have v9:=pV.lt; clear pV) | (with_reducible have KV:=Lib.hid (kv_old KV.out hc9); have pV:=KV.out.2; have v0:=pV.c 0 _ rfl; have vf0:=pV.f 0 _ rfl; have v1:=pV.c 1 _ rfl; have vf1:=pV.f 1 _ rfl; have v9:=pV.lt; clear pV) | skip); have HX:=Lib.hid hb9; clear hb9 hc9)
   | (go_at_call 194; with_reducible refine Calls.mono (DDV.out _ (by first | exact BD.out | exact BD2.out | exact HX.out | exact HX.out.alloc HX.out.size _)) ?_; rintro e9 w9 ⟨rfl,hb9,hc9⟩; have pX:=KX.out.below hb9; have qX0:=pX.c 0 _ rfl; have qX1:=pX.c 1 _ rfl; clear pX; (first | (with_reducible have KV:=Lib.hid (kv_drew (vs:=#[.int .i64 0,.int .u64 0]) (t:=112) hc9); have pV:=KV.out.2; have v0:=pV.c 0 _ rfl; have vf0:=pV.f 0 _ rfl; have v1:=pV.c 1 _ rfl; have vf1:=pV.f 1 _ rfl; have v9:=pV.lt; clear pV) | (with_reducible have KV:=Lib.hid (kv_new (vs:=#[.int .i64 0,.int .u64 0]) (t:=112) HX.out hc9); have pV:=KV.out.2; have v0:=pV.c 0 _ rfl; have vf0:=pV.f 0 _ rfl; have v1:=pV.c 1 _ rfl; have vf1:=pV.f 1 _ rfl; have v9:=pV.lt; clear pV) | (with_reducible have KV:=Lib.hid (kv_old KV.out hc9); have pV:=KV.out.2; have v0:=pV.c 0 _ rfl; have vf0:=pV.f 0 _ rfl; have v1:=pV.c 1 _ rfl; have vf1:=pV.f 1 _ rfl; have v9:=pV.lt; clear pV) | skip); have HX:=Lib.hid hb9; clear hb9 hc9))
 all_goals
  first
   | (have FN:=kv_set2n (.int .i64 (hiW v)) (.int .u64 (loW v)) KV.out HX.out; have FB:=Lib.hid FN.1; have KN:=Lib.hid FN.2.1; have n0N:=FN.2.2; clear FN; generalize World.setCell (World.setCell _ _ (.int .i64 (hiW v))) _ (.int .u64 (loW v)) = w1 at *)
   | (have FN:=kv_putn (vs:=#[.int .i64 (hiW v),.int .u64 (loW v)]) (t:=112) HX.out; have FB:=Lib.hid FN.1; have KN:=Lib.hid FN.2.1; have n0N:=FN.2.2; clear FN; generalize (World.alloc _ (.cells #[.int .i64 (hiW v),.int .u64 (loW v)] 112)) = w1 at *)
  have nN:=Nat.le_trans HB.out.size n0N
  have neN_X:=Nat.ne_of_gt (Nat.lt_of_lt_of_le KX.out.lt n0N)
  replace HB:=Lib.hid (HB.out.trans (FB.out.mono HB.out.size))
  replace KX:=Lib.hid (KX.out.below FB.out)
  have yN:=KN.out
  have yN0:=yN.c 0 _ rfl
  have yN1:=yN.c 1 _ rfl
  have yNz:=yN.lt
  clear yN
  go_wp2_with fail
  refine (IN.out _).mono ?_
  rintro e2 w2 ⟨rfl,hb2⟩
  replace HB:=hT HB hb2
  replace KX:=Lib.hid (KX.out.below hb2)
  replace KN:=Lib.hid (KN.out.below hb2)
  clear yN0 yN1 yNz
  clear hb2
  go_wp2
  all_goals go_ret2
  all_goals exact ⟨rfl,HB.out⟩
theorem rapart_any (p x d:Int) (w:World) (hp:I64 p) (hd:I64 d) (hx:FitW x) (h1:FitW (p * d - x)) (h2:FitW (-(p * d - x))) :
 Calls Tryz.prog 116 #[.int .i64 p,wv x,.int .i64 d] w fun e w'=>e = .returned (wv (absZ (p * d - x)))∧Below w.heap.size w w':=by
 have MU:=Lib.hid fun w=>rmul_any p d w hp.lo hp.hi hd.lo hd.hi
 have SB:=Lib.hid fun w=>rsub_any (p * d) x w (mul_fit hp.lo hp.hi hd.lo hd.hi) hx h1
 have AB:=Lib.hid fun w=>rabs_any (p * d - x) w h1 h2
 unfold wv1 at AB
 clear hp hd hx h1 h2
 generalize absZ (p * d - x) = r at *
 generalize p * d - x = v at *
 generalize p * d = q at *
 unfold wv at *
 have KX:=Lib.hid ((Blk.of (vs:=#[.int .i64 (hiW x),.int .u64 (loW x)]) (t:=112) (w:=w) (b:=w.heap.size) (by simp)).alloc (.cells #[.int .i64 0,.int .u64 0] 112))
 have KZ:=Lib.hid (Blk.of (vs:=#[.int .i64 0,.int .u64 0]) (t:=112) (w:=(w.alloc (.cells #[.int .i64 (hiW x),.int .u64 (loW x)] 112))) (b:=w.heap.size + 1) (by simp))
 have HB:=Lib.hid (((Below.refl w.heap.size w).alloc (by simp; try omega) (.cells #[.int .i64 (hiW x),.int .u64 (loW x)] 112)).alloc (by simp; try omega) (.cells #[.int .i64 0,.int .u64 0] 112))
 go_enter Tryz.func116,Tryz.ntmps116
 go_wp2_with fail
 generalize (w.alloc _).alloc _ = w0 at *
 have BD:=Lib.hid (show Below w0.heap.size w0 w0.drew from ⟨rfl,rfl,rfl,Nat.le_refl _,fun _ _=>rfl⟩)
 have BD2:=Lib.hid (below_drew_alloc w0 (.cells #[.int .i64 0,.int .u64 0] 112))
 have DMU:=Lib.hid fun W (h:Below w0.heap.size w0 W)=>(MU.out W).mono fun e w' ⟨h1,h2⟩=>show _∧Below w0.heap.size w0 w'∧Below W.heap.size W w' from ⟨h1,h.trans (h2.mono h.size),h2⟩
 have DSB:=Lib.hid fun W (h:Below w0.heap.size w0 W)=>(SB.out W).mono fun e w' ⟨h1,h2⟩=>show _∧Below w0.heap.size w0 w'∧Below W.heap.size W w' from ⟨h1,h.trans (h2.mono h.size),h2⟩
 have yX:=KX.out
 have yX0:=yX.c 0 _ rfl
 have yX1:=yX.c 1 _ rfl
 have yXz:=yX.lt
 clear yX
 go_region_held3 (fun w'=>w'.cell? ⟨w.heap.size,0,none⟩ = some (.int .i64 (hiW x))∧w'.cell? ⟨w.heap.size,1,none⟩ = some (.int .u64 (loW x))) (first | (refine ⟨?_,?_⟩ <;> first | assumption | (rw [far2 KV.out.1 yXz]; assumption)) | go_keep)
  (first
   | (go_at_call 158; with_reducible refine Calls.mono (DMU.out _ (by first | exact BD.out | exact BD2.out | exact HX.out | exact HX.out.alloc HX.out.size _)) ?_; rintro e9 w9 ⟨rfl,hb9,hc9⟩; have pX:=KX.out.below hb9; have qX0:=pX.c 0 _ rfl; have qX1:=pX.c 1 _ rfl; clear pX; (first | (with_reducible have KV:=Lib.hid (kv_drew (vs:=#[.int .i64 0,.int .u64 0]) (t:=112) hc9); have pV:=KV.out.2; have v0:=pV.c 0 _ rfl; have vf0:=pV.f 0 _ rfl; have v1:=pV.c 1 _ rfl; have vf1:=pV.f 1 _ rfl; have v9:=pV.lt; clear pV) | (with_reducible have KV:=Lib.hid (kv_new (vs:=#[.int .i64 0,.int .u64 0]) (t:=112) HX.out hc9); have pV:=KV.out.2; have v0:=pV.c 0 _ rfl; have vf0:=pV.f 0 _ rfl; have v1:=pV.c 1 _ rfl; have vf1:=pV.f 1 _ rfl; have v9:=pV.lt; clear pV) | (with_reducible have KV:=Lib.hid (kv_old KV.out hc9); have pV:=KV.out.2; have v0:=pV.c 0 _ rfl; have vf0:=pV.f 0 _ rfl; have v1:=pV.c 1 _ rfl; have vf1:=pV.f 1 _ rfl; have v9:=pV.lt; clear pV) | skip); have HX:=Lib.hid hb9; clear hb9 hc9)
   | (go_at_call 161; with_reducible refine Calls.mono (DSB.out _ (by first | exact BD.out | exact BD2.out | exact HX.out | exact HX.out.alloc HX.out.size _)) ?_; rintro e9 w9 ⟨rfl,hb9,hc9⟩; have pX:=KX.out.below hb9; have qX0:=pX.c 0 _ rfl; have qX1:=pX.c 1 _ rfl; clear pX; (first | (with_reducible have KV:=Lib.hid (kv_drew (vs:=#[.int .i64 0,.int .u64 0]) (t:=112) hc9); have pV:=KV.out.2; have v0:=pV.c 0 _ rfl; have vf0:=pV.f 0 _ rfl; have v1:=pV.c 1 _ rfl; have vf1:=pV.f 1 _ rfl; have v9:=pV.lt; clear pV) | (with_reducible have KV:=Lib.hid (kv_new (vs:=#[.int .i64 0,.int .u64 0]) (t:=112) HX.out hc9); have pV:=KV.out.2; have v0:=pV.c 0 _ rfl; have vf0:=pV.f 0 _ rfl; have v1:=pV.c 1 _ rfl; have vf1:=pV.f 1 _ rfl; have v9:=pV.lt; clear pV) | (with_reducible have KV:=Lib.hid (kv_old KV.out hc9); have pV:=KV.out.2; have v0:=pV.c 0 _ rfl; have vf0:=pV.f 0 _ rfl; have v1:=pV.c 1 _ rfl; have vf1:=pV.f 1 _ rfl; have v9:=pV.lt; clear pV) | skip); have HX:=Lib.hid hb9; clear hb9 hc9))
 all_goals
  first
   | (have FN:=kv_set2n (.int .i64 (hiW v)) (.int .u64 (loW v)) KV.out HX.out; have FB:=Lib.hid FN.1; have KN:=Lib.hid FN.2.1; have n0N:=FN.2.2; clear FN; generalize World.setCell (World.setCell _ _ (.int .i64 (hiW v))) _ (.int .u64 (loW v)) = w1 at *)
   | (have FN:=kv_putn (vs:=#[.int .i64 (hiW v),.int .u64 (loW v)]) (t:=112) HX.out; have FB:=Lib.hid FN.1; have KN:=Lib.hid FN.2.1; have n0N:=FN.2.2; clear FN; generalize (World.alloc _ (.cells #[.int .i64 (hiW v),.int .u64 (loW v)] 112)) = w1 at *)
  have nN:=Nat.le_trans HB.out.size n0N
  have neN_X:=Nat.ne_of_gt (Nat.lt_of_lt_of_le KX.out.lt n0N)
  have neN_Z:=Nat.ne_of_gt (Nat.lt_of_lt_of_le KZ.out.lt n0N)
  replace HB:=Lib.hid (HB.out.trans (FB.out.mono HB.out.size))
  replace KX:=Lib.hid (KX.out.below FB.out)
  replace KZ:=Lib.hid (KZ.out.below FB.out)
  have yN:=KN.out
  have yN0:=yN.c 0 _ rfl
  have yN1:=yN.c 1 _ rfl
  have yNz:=yN.lt
  clear yN
  go_wp2_with fail
  refine (AB.out _).mono ?_
  rintro e2 w2 ⟨rfl,hb2⟩
  replace HB:=hT HB hb2
  replace KX:=Lib.hid (KX.out.below hb2)
  replace KZ:=Lib.hid (KZ.out.below hb2)
  replace KN:=Lib.hid (KN.out.below hb2)
  clear yN0 yN1 yNz
  clear hb2
  have yZ:=KZ.out
  have yZ0:=yZ.c 0 _ rfl
  have yZ1:=yZ.c 1 _ rfl
  have yZz:=yZ.lt
  have yZf0:=yZ.f 0 _ rfl
  have yZf1:=yZ.f 1 _ rfl
  clear yZ
  have yN:=KN.out
  have yN0:=yN.c 0 _ rfl
  have yN1:=yN.c 1 _ rfl
  have yNz:=yN.lt
  have yNf0:=yN.f 0 _ rfl
  have yNf1:=yN.f 1 _ rfl
  clear yN
  go_wp2
  replace KX:=Lib.hid (blk_other (j:=1) (blk_other (j:=0) KX.out neN_X (.int .i64 (hiW r))) neN_X (.int .u64 (loW r)))
  replace KZ:=Lib.hid (blk_other (j:=1) (blk_other (j:=0) KZ.out neN_Z (.int .i64 (hiW r))) neN_Z (.int .u64 (loW r)))
  replace KN:=kst (kst KN 0 (.int .i64 (hiW r))) 1 (.int .u64 (loW r))
  replace HB:=Lib.hid ((HB.out.setCell (p:=⟨_,0,none⟩) nN (.int .i64 (hiW r))).setCell (p:=⟨_,1,none⟩) nN (.int .u64 (loW r)))
  clear yZ0 yZ1 yZz yZf0 yZf1 yN0 yN1 yNz yNf0 yNf1
  generalize World.setCell (World.setCell _ _ (.int .i64 (hiW r))) _ (.int .u64 (loW r)) = w3 at *
  simp only [List.set] at KN
  replace KX:=Lib.hid (blk_other (b:=w.heap.size) (n:=(w.heap.size + 1)) (j:=1) (blk_other (b:=w.heap.size) (n:=(w.heap.size + 1)) (j:=0) KX.out (by omega) (.int .i64 (hiW r))) (by omega) (.int .u64 (loW r)))
  replace KZ:=kst (kst KZ 0 (.int .i64 (hiW r))) 1 (.int .u64 (loW r))
  replace KN:=Lib.hid (blk_other (j:=1) (blk_other (j:=0) KN.out (Ne.symm neN_Z) (.int .i64 (hiW r))) (Ne.symm neN_Z) (.int .u64 (loW r)))
  replace HB:=Lib.hid ((HB.out.setCell (p:=⟨(w.heap.size + 1),0,none⟩) (show w.heap.size≤(w.heap.size + 1) by omega) (.int .i64 (hiW r))).setCell (p:=⟨(w.heap.size + 1),1,none⟩) (show w.heap.size≤(w.heap.size + 1) by omega) (.int .u64 (loW r)))
  generalize (w3.setCell _ _).setCell _ _ = w4 at *
  simp only [List.set] at KZ
  have yZ:=KZ.out
  have yZ0:=yZ.c 0 _ rfl
  have yZ1:=yZ.c 1 _ rfl
  have yZz:=yZ.lt
  clear yZ
  refine bodyPost_ret (v:=.agg #[.int .i64 (hiW r),.int .u64 (loW r)]) (by simp [results,Tryz.results116,go_sem,yZ0,yZ1]) rfl ⟨rfl,HB.out⟩
theorem rminor_any (a b c d:Int) (w:World) (ha:I64 a) (hb:I64 b) (hc:I64 c) (hd:I64 d) (hf:FitW (a * b - c * d)) :
 Calls Tryz.prog 156 #[.int .i64 a,.int .i64 b,.int .i64 c,.int .i64 d] w fun e w'=>e = .returned (wv (a * b - c * d))∧Below w.heap.size w w':=by
 have MA:=Lib.hid fun w=>rmul_any a b w ha.lo ha.hi hb.lo hb.hi
 have MC:=Lib.hid fun w=>rmul_any c d w hc.lo hc.hi hd.lo hd.hi
 have SB:=Lib.hid fun w=>rsub_any (a * b) (c * d) w (mul_fit ha.lo ha.hi hb.lo hb.hi) (mul_fit hc.lo hc.hi hd.lo hd.hi) hf
 unfold wv at *
 generalize a * b - c * d = r at *
 generalize a * b = p at *
 generalize c * d = q at *
 clear ha hb hc hd hf
 have KZ:=Lib.hid (Blk.of (vs:=#[.int .i64 0,.int .u64 0]) (t:=112) (w:=w) (b:=w.heap.size) (by simp))
 have HB:=Lib.hid ((Below.refl w.heap.size w).alloc (by simp; try omega) (.cells #[.int .i64 0,.int .u64 0] 112))
 go_enter Tryz.func156,Tryz.ntmps156
 go_wp2_with fail
 generalize w.alloc _ = w0 at *
 refine (MA.out _).mono ?_
 rintro e1 w1 ⟨rfl,hb1⟩
 replace HB:=hT HB hb1
 replace KZ:=Lib.hid (KZ.out.below hb1)
 clear hb1
 go_wp2_with fail
 refine (MC.out _).mono ?_
 rintro e2 w2 ⟨rfl,hb2⟩
 replace HB:=hT HB hb2
 replace KZ:=Lib.hid (KZ.out.below hb2)
 clear hb2
 go_wp2_with fail
 refine (SB.out _).mono ?_
 rintro e3 w3 ⟨rfl,hb3⟩
 replace HB:=hT HB hb3
 replace KZ:=Lib.hid (KZ.out.below hb3)
 clear hb3
 have yZ:=KZ.out
 have yZ0:=yZ.c 0 _ rfl
 have yZ1:=yZ.c 1 _ rfl
 have yZz:=yZ.lt
 have yZf0:=yZ.f 0 _ rfl
 have yZf1:=yZ.f 1 _ rfl
 clear yZ
 go_wp2
 replace KZ:=kst (kst KZ 0 (.int .i64 (hiW r))) 1 (.int .u64 (loW r))
 replace HB:=Lib.hid ((HB.out.setCell (p:=⟨w.heap.size,0,none⟩) (show w.heap.size≤w.heap.size by omega) (.int .i64 (hiW r))).setCell (p:=⟨w.heap.size,1,none⟩) (show w.heap.size≤w.heap.size by omega) (.int .u64 (loW r)))
 clear yZ0 yZ1 yZz yZf0 yZf1
 generalize (w3.setCell _ _).setCell _ _ = w4 at *
 simp only [List.set] at KZ
 have KV:=Lib.hid (Blk.of (vs:=#[.int .i64 (hiW r),.int .u64 (loW r)]) (t:=112) (w:=w4) (b:=w4.heap.size) rfl)
 have hb5:Below w4.heap.size w4 (w4.alloc (.cells #[.int .i64 (hiW r),.int .u64 (loW r)] 112)):=(Below.refl _ _).alloc (Nat.le_refl _) _
 have hnV:=HB.out.size
 have nzV_Z:=KZ.out.lt
 replace HB:=hT HB hb5
 replace KZ:=Lib.hid (KZ.out.below hb5)
 clear hb5
 generalize w4.alloc _ = w5 at *
 generalize w4.heap.size = bV at *
 have neV_Z:bV≠w.heap.size:=by omega
 clear nzV_Z
 have yZ:=KZ.out
 have yZ0:=yZ.c 0 _ rfl
 have yZ1:=yZ.c 1 _ rfl
 have yZz:=yZ.lt
 clear yZ
 refine bodyPost_ret (v:=.agg #[.int .i64 (hiW r),.int .u64 (loW r)]) (by simp [results,Tryz.results156,go_sem,yZ0,yZ1]) rfl ⟨rfl,HB.out⟩
set_option maxHeartbeats 4000000
set_option maxRecDepth 512
theorem rvldP_any (x y:Int) (w:World):Calls Tryz.prog 58 #[.agg #[.int .i64 x,.int .i64 y]] w fun e w'=>e = .returned (.bool (vldP x y))∧Below w.heap.size w w':=by
 have key:(decide (-2000000≤x) = false∧vldP x y = false)∨(decide (-2000000≤x) = true∧decide (x≤2000000) = false∧vldP x y = false)∨(decide (-2000000≤x) = true∧decide (x≤2000000) = true∧decide (-2000000≤y) = false∧vldP x y = false)∨(decide (-2000000≤x) = true∧decide (x≤2000000) = true∧decide (-2000000≤y) = true∧decide (y≤2000000) = false∧vldP x y = false)∨(decide (-2000000≤x) = true∧decide (x≤2000000) = true∧decide (-2000000≤y) = true∧decide (y≤2000000) = true∧vldP x y = true):=by
  unfold vldP
  simp only [decide_eq_true_eq,decide_eq_false_iff_not]
  omega
 rcases key with ⟨g0,E⟩ | ⟨g0,g1,E⟩ | ⟨g0,g1,g2,E⟩ | ⟨g0,g1,g2,g3,E⟩ | ⟨g0,g1,g2,g3,E⟩
 all_goals
  rw [E]
  clear E
  go_enter Tryz.func58,Tryz.ntmps58
  go_wp2
  go_ret
  exact ⟨rfl,(Below.refl _ _).alloc (Nat.le_refl _) _⟩
end Go.Proofs.YtajmjkliblippaaGreatDoor
namespace Go.Proofs.YtajmjkliblippaaGreatDoor
open Go.RowKit
set_option maxHeartbeats 8000000
set_option maxRecDepth 100000
theorem rup_any (x d:Int) (w:World) (hx0:0≤x) (hx:x < 85070591730234615865843651857942052864) (hd:0 < d) (hd1:d≤9223372036854775807) :
 Calls Tryz.prog 159 #[wv x,.int .i64 d] w fun e w'=>e = .returned (.tuple #[.int .i64 (if I64 (ceilI x d) then ceilI x d else 0),.bool (decide (ceilI x d≤8000000))])∧Below w.heap.size w w':=by
 obtain ⟨b0,b1⟩:=ceil_bd hd hx0
 have OF:=Lib.hid fun w=>rof_any d w (by omega) hd1
 have DV:=Lib.hid fun w=>rdivup_any x d w hx0 hx hd (by omega)
 have IN:=Lib.hid fun w=>rnear_int (x:=ceilI x d) w ⟨by omega,by omega⟩
 have NI:¬ I64 (ceilI x d)→¬ ceilI x d≤8000000:=fun h q=>h ⟨by omega,by omega⟩
 generalize ceilI x d = v at *
 unfold wv at *
 clear hx0 hx hd hd1 b0 b1
 by_cases k:I64 v
 ·rw [if_pos k,decide_eq_true k] at IN
  rw [if_pos k]
  obtain ⟨b,g⟩:∃ b,decide (v≤8000000) = b:=⟨_,rfl⟩
  rw [g]
  clear NI k
  have KX:=Lib.hid (Blk.of (vs:=#[.int .i64 (hiW x),.int .u64 (loW x)]) (t:=112) (w:=w) (b:=w.heap.size) (by simp))
  have HB:=Lib.hid ((Below.refl w.heap.size w).alloc (by simp; try omega) (.cells #[.int .i64 (hiW x),.int .u64 (loW x)] 112))
  go_enter Tryz.func159,Tryz.ntmps159
  go_wp2_with fail
  generalize w.alloc _ = w0 at *
  have BD:=Lib.hid (show Below w0.heap.size w0 w0.drew from ⟨rfl,rfl,rfl,Nat.le_refl _,fun _ _=>rfl⟩)
  have BD2:=Lib.hid (below_drew_alloc w0 (.cells #[.int .i64 0,.int .u64 0] 112))
  have DOF:=Lib.hid fun W (h:Below w0.heap.size w0 W)=>(OF.out W).mono fun e w' ⟨h1,h2⟩=>show _∧Below w0.heap.size w0 w'∧Below W.heap.size W w' from ⟨h1,h.trans (h2.mono h.size),h2⟩
  have DDV:=Lib.hid fun W (h:Below w0.heap.size w0 W)=>(DV.out W).mono fun e w' ⟨h1,h2⟩=>show _∧Below w0.heap.size w0 w'∧Below W.heap.size W w' from ⟨h1,h.trans (h2.mono h.size),h2⟩
  have yX:=KX.out
  have yX0:=yX.c 0 _ rfl
  have yX1:=yX.c 1 _ rfl
  have yXz:=yX.lt
  clear yX
  go_region_held3 (fun w'=>w'.cell? ⟨w.heap.size,0,none⟩ = some (.int .i64 (hiW x))∧w'.cell? ⟨w.heap.size,1,none⟩ = some (.int .u64 (loW x))) (first | (refine ⟨?_,?_⟩ <;> first | with_reducible assumption | (rw [far2 KV.out.1 yXz]; with_reducible assumption)) | go_keep)
   (first
    | (go_at_call 195; with_reducible refine Calls.mono (DOF.out _ (by first | with_reducible exact BD.out | with_reducible exact BD2.out | with_reducible exact HX.out | with_reducible exact HX.out.alloc HX.out.size _)) ?_; rintro e9 w9 ⟨rfl,hb9,hc9⟩; have pX:=KX.out.below hb9; have qX0:=pX.c 0 _ rfl; have qX1:=pX.c 1 _ rfl; clear pX; (first | (with_reducible have KV:=Lib.hid (kv_drew (vs:=#[.int .i64 0,.int .u64 0]) (t:=112) hc9); have pV:=KV.out.2; have v0:=pV.c 0 _ rfl; have vf0:=pV.f 0 _ rfl; have v1:=pV.c 1 _ rfl; have vf1:=pV.f 1 _ rfl; have v9:=pV.lt; clear pV) | (with_reducible have KV:=Lib.hid (kv_new (vs:=#[.int .i64 0,.int .u64 0]) (t:=112) HX.out hc9); have pV:=KV.out.2; have v0:=pV.c 0 _ rfl; have vf0:=pV.f 0 _ rfl; have v1:=pV.c 1 _ rfl; have vf1:=pV.f 1 _ rfl; have v9:=pV.lt; clear pV) | (with_reducible have KV:=Lib.hid (kv_old KV.out hc9); have pV:=KV.out.2; have v0:=pV.c 0 _ rfl; have vf0:=pV.f 0 _ rfl; have v1:=pV.c 1 _ rfl; have vf1:=pV.f 1 _ rfl; have v9:=pV.lt; clear pV) | skip); have HX:=Lib.hid hb9; clear hb9 hc9)
    | (go_at_call 199; with_reducible refine Calls.mono (DDV.out _ (by first | with_reducible exact BD.out | with_reducible exact BD2.out | with_reducible exact HX.out | with_reducible exact HX.out.alloc HX.out.size _)) ?_; rintro e9 w9 ⟨rfl,hb9,hc9⟩; have pX:=KX.out.below hb9; have qX0:=pX.c 0 _ rfl; have qX1:=pX.c 1 _ rfl; clear pX; (first | (with_reducible have KV:=Lib.hid (kv_drew (vs:=#[.int .i64 0,.int .u64 0]) (t:=112) hc9); have pV:=KV.out.2; have v0:=pV.c 0 _ rfl; have vf0:=pV.f 0 _ rfl; have v1:=pV.c 1 _ rfl; have vf1:=pV.f 1 _ rfl; have v9:=pV.lt; clear pV) | (with_reducible have KV:=Lib.hid (kv_new (vs:=#[.int .i64 0,.int .u64 0]) (t:=112) HX.out hc9); have pV:=KV.out.2; have v0:=pV.c 0 _ rfl; have vf0:=pV.f 0 _ rfl; have v1:=pV.c 1 _ rfl; have vf1:=pV.f 1 _ rfl; have v9:=pV.lt; clear pV) | (with_reducible have KV:=Lib.hid (kv_old KV.out hc9); have pV:=KV.out.2; have v0:=pV.c 0 _ rfl; have vf0:=pV.f 0 _ rfl; have v1:=pV.c 1 _ rfl; have vf1:=pV.f 1 _ rfl; have v9:=pV.lt; clear pV) | skip); have HX:=Lib.hid hb9; clear hb9 hc9))
  all_goals
   first
    | (have FN:=kv_set2n (.int .i64 (hiW v)) (.int .u64 (loW v)) KV.out HX.out; have FB:=Lib.hid FN.1; have KN:=Lib.hid FN.2.1; have n0N:=FN.2.2; clear FN; generalize World.setCell (World.setCell _ _ (.int .i64 (hiW v))) _ (.int .u64 (loW v)) = w1 at *)
    | (have FN:=kv_putn (vs:=#[.int .i64 (hiW v),.int .u64 (loW v)]) (t:=112) HX.out; have FB:=Lib.hid FN.1; have KN:=Lib.hid FN.2.1; have n0N:=FN.2.2; clear FN; generalize (World.alloc _ (.cells #[.int .i64 (hiW v),.int .u64 (loW v)] 112)) = w1 at *)
   have nN:=Nat.le_trans HB.out.size n0N
   have neN_X:=Nat.ne_of_gt (Nat.lt_of_lt_of_le KX.out.lt n0N)
   replace HB:=Lib.hid (HB.out.trans (FB.out.mono HB.out.size))
   replace KX:=Lib.hid (KX.out.below FB.out)
   have yN:=KN.out
   have yN0:=yN.c 0 _ rfl
   have yN1:=yN.c 1 _ rfl
   have yNz:=yN.lt
   clear yN
   go_wp2_with fail
   refine (IN.out _).mono ?_
   rintro e2 w2 ⟨rfl,hb2⟩
   replace HB:=hT HB hb2
   replace KX:=Lib.hid (KX.out.below hb2)
   replace KN:=Lib.hid (KN.out.below hb2)
   clear yN0 yN1 yNz
   clear hb2
   go_wp2
   all_goals go_ret2
   all_goals exact ⟨rfl,HB.out⟩
 ·rw [if_neg k,decide_eq_false k] at IN
  rw [if_neg k,decide_eq_false (NI k)]
  clear NI k
  have KX:=Lib.hid (Blk.of (vs:=#[.int .i64 (hiW x),.int .u64 (loW x)]) (t:=112) (w:=w) (b:=w.heap.size) (by simp))
  have HB:=Lib.hid ((Below.refl w.heap.size w).alloc (by simp; try omega) (.cells #[.int .i64 (hiW x),.int .u64 (loW x)] 112))
  go_enter Tryz.func159,Tryz.ntmps159
  go_wp2_with fail
  generalize w.alloc _ = w0 at *
  have BD:=Lib.hid (show Below w0.heap.size w0 w0.drew from ⟨rfl,rfl,rfl,Nat.le_refl _,fun _ _=>rfl⟩)
  have BD2:=Lib.hid (below_drew_alloc w0 (.cells #[.int .i64 0,.int .u64 0] 112))
  have DOF:=Lib.hid fun W (h:Below w0.heap.size w0 W)=>(OF.out W).mono fun e w' ⟨h1,h2⟩=>show _∧Below w0.heap.size w0 w'∧Below W.heap.size W w' from ⟨h1,h.trans (h2.mono h.size),h2⟩
  have DDV:=Lib.hid fun W (h:Below w0.heap.size w0 W)=>(DV.out W).mono fun e w' ⟨h1,h2⟩=>show _∧Below w0.heap.size w0 w'∧Below W.heap.size W w' from ⟨h1,h.trans (h2.mono h.size),h2⟩
  have yX:=KX.out
  have yX0:=yX.c 0 _ rfl
  have yX1:=yX.c 1 _ rfl
  have yXz:=yX.lt
  clear yX
  go_region_held3 (fun w'=>w'.cell? ⟨w.heap.size,0,none⟩ = some (.int .i64 (hiW x))∧w'.cell? ⟨w.heap.size,1,none⟩ = some (.int .u64 (loW x))) (first | (refine ⟨?_,?_⟩ <;> first | with_reducible assumption | (rw [far2 KV.out.1 yXz]; with_reducible assumption)) | go_keep)
   (first
    | (go_at_call 195; with_reducible refine Calls.mono (DOF.out _ (by first | with_reducible exact BD.out | with_reducible exact BD2.out | with_reducible exact HX.out | with_reducible exact HX.out.alloc HX.out.size _)) ?_; rintro e9 w9 ⟨rfl,hb9,hc9⟩; have pX:=KX.out.below hb9; have qX0:=pX.c 0 _ rfl; have qX1:=pX.c 1 _ rfl; clear pX; (first | (with_reducible have KV:=Lib.hid (kv_drew (vs:=#[.int .i64 0,.int .u64 0]) (t:=112) hc9); have pV:=KV.out.2; have v0:=pV.c 0 _ rfl; have vf0:=pV.f 0 _ rfl; have v1:=pV.c 1 _ rfl; have vf1:=pV.f 1 _ rfl; have v9:=pV.lt; clear pV) | (with_reducible have KV:=Lib.hid (kv_new (vs:=#[.int .i64 0,.int .u64 0]) (t:=112) HX.out hc9); have pV:=KV.out.2; have v0:=pV.c 0 _ rfl; have vf0:=pV.f 0 _ rfl; have v1:=pV.c 1 _ rfl; have vf1:=pV.f 1 _ rfl; have v9:=pV.lt; clear pV) | (with_reducible have KV:=Lib.hid (kv_old KV.out hc9); have pV:=KV.out.2; have v0:=pV.c 0 _ rfl; have vf0:=pV.f 0 _ rfl; have v1:=pV.c 1 _ rfl; have vf1:=pV.f 1 _ rfl; have v9:=pV.lt; clear pV) | skip); have HX:=Lib.hid hb9; clear hb9 hc9)
    | (go_at_call 199; with_reducible refine Calls.mono (DDV.out _ (by first | with_reducible exact BD.out | with_reducible exact BD2.out | with_reducible exact HX.out | with_reducible exact HX.out.alloc HX.out.size _)) ?_; rintro e9 w9 ⟨rfl,hb9,hc9⟩; have pX:=KX.out.below hb9; have qX0:=pX.c 0 _ rfl; have qX1:=pX.c 1 _ rfl; clear pX; (first | (with_reducible have KV:=Lib.hid (kv_drew (vs:=#[.int .i64 0,.int .u64 0]) (t:=112) hc9); have pV:=KV.out.2; have v0:=pV.c 0 _ rfl; have vf0:=pV.f 0 _ rfl; have v1:=pV.c 1 _ rfl; have vf1:=pV.f 1 _ rfl; have v9:=pV.lt; clear pV) | (with_reducible have KV:=Lib.hid (kv_new (vs:=#[.int .i64 0,.int .u64 0]) (t:=112) HX.out hc9); have pV:=KV.out.2; have v0:=pV.c 0 _ rfl; have vf0:=pV.f 0 _ rfl; have v1:=pV.c 1 _ rfl; have vf1:=pV.f 1 _ rfl; have v9:=pV.lt; clear pV) | (with_reducible have KV:=Lib.hid (kv_old KV.out hc9); have pV:=KV.out.2; have v0:=pV.c 0 _ rfl; have vf0:=pV.f 0 _ rfl; have v1:=pV.c 1 _ rfl; have vf1:=pV.f 1 _ rfl; have v9:=pV.lt; clear pV) | skip); have HX:=Lib.hid hb9; clear hb9 hc9))
  all_goals
   first
    | (have FN:=kv_set2n (.int .i64 (hiW v)) (.int .u64 (loW v)) KV.out HX.out; have FB:=Lib.hid FN.1; have KN:=Lib.hid FN.2.1; have n0N:=FN.2.2; clear FN; generalize World.setCell (World.setCell _ _ (.int .i64 (hiW v))) _ (.int .u64 (loW v)) = w1 at *)
    | (have FN:=kv_putn (vs:=#[.int .i64 (hiW v),.int .u64 (loW v)]) (t:=112) HX.out; have FB:=Lib.hid FN.1; have KN:=Lib.hid FN.2.1; have n0N:=FN.2.2; clear FN; generalize (World.alloc _ (.cells #[.int .i64 (hiW v),.int .u64 (loW v)] 112)) = w1 at *)
   have nN:=Nat.le_trans HB.out.size n0N
   have neN_X:=Nat.ne_of_gt (Nat.lt_of_lt_of_le KX.out.lt n0N)
   replace HB:=Lib.hid (HB.out.trans (FB.out.mono HB.out.size))
   replace KX:=Lib.hid (KX.out.below FB.out)
   have yN:=KN.out
   have yN0:=yN.c 0 _ rfl
   have yN1:=yN.c 1 _ rfl
   have yNz:=yN.lt
   clear yN
   go_wp2_with fail
   refine (IN.out _).mono ?_
   rintro e2 w2 ⟨rfl,hb2⟩
   replace HB:=hT HB hb2
   replace KX:=Lib.hid (KX.out.below hb2)
   replace KN:=Lib.hid (KN.out.below hb2)
   clear yN0 yN1 yNz
   clear hb2
   go_wp2
   all_goals go_ret2
   all_goals exact ⟨rfl,HB.out⟩
theorem rpair_any (x y d:Int) (w:World) (hx0:0≤x) (hx:x < 85070591730234615865843651857942052864) (hy0:0≤y) (hy:y < 85070591730234615865843651857942052864) (hd:0 < d) (hd1:d≤9223372036854775807) :
 Calls Tryz.prog 114 #[wv x,wv y,.int .i64 d] w fun e w'=>e = .returned (.tuple #[.int .i64 (pairF x y d).1.1,.int .i64 (pairF x y d).1.2,.int .i64 (pairF x y d).2])∧Below w.heap.size w w':=by
 have SX:=Lib.hid fun w=>rup_any x d w hx0 hx hd hd1
 have SY:=Lib.hid fun w=>rup_any y d w hy0 hy hd hd1
 have E0:pairF x y d = if ceilI x d≤8000000∧ceilI y d≤8000000 then ((ceilI x d,ceilI y d),0) else ((0,0),2):=rfl
 have IX:ceilI x d≤8000000→I64 (ceilI x d):=fun h=>by have:=ceil_bd hd hx0; exact ⟨by omega,by omega⟩
 have IY:ceilI y d≤8000000→I64 (ceilI y d):=fun h=>by have:=ceil_bd hd hy0; exact ⟨by omega,by omega⟩
 clear hx0 hx hy0 hy hd hd1
 generalize pairF x y d = P at *
 generalize ceilI x d = u at *
 generalize ceilI y d = v at *
 unfold wv at *
 by_cases h:u≤8000000
 ·rw [if_pos (IX h),decide_eq_true h] at SX
  by_cases k:v≤8000000
  ·rw [if_pos (IY k),decide_eq_true k] at SY
   have E:=Lib.hid (E0.trans (if_pos ⟨h,k⟩))
   clear E0 h k IX IY
   have KX:=Lib.hid ((Blk.of (vs:=#[.int .i64 (hiW x),.int .u64 (loW x)]) (t:=112) (w:=w) (b:=w.heap.size) (by simp)).alloc (.cells #[.int .i64 (hiW y),.int .u64 (loW y)] 112))
   have KY:=Lib.hid (Blk.of (vs:=#[.int .i64 (hiW y),.int .u64 (loW y)]) (t:=112) (w:=(w.alloc (.cells #[.int .i64 (hiW x),.int .u64 (loW x)] 112))) (b:=w.heap.size + 1) (by simp))
   have HB:=Lib.hid (((Below.refl w.heap.size w).alloc (by simp; try omega) (.cells #[.int .i64 (hiW x),.int .u64 (loW x)] 112)).alloc (by simp; try omega) (.cells #[.int .i64 (hiW y),.int .u64 (loW y)] 112))
   go_enter Tryz.func114,Tryz.ntmps114
   go_wp2_with fail
   generalize (w.alloc _).alloc _ = w0 at *
   refine (SX.out _).mono ?_
   rintro e1 w1 ⟨rfl,hb1⟩
   replace HB:=hT HB hb1
   replace KX:=Lib.hid (KX.out.below hb1)
   replace KY:=Lib.hid (KY.out.below hb1)
   clear hb1
   have yY:=KY.out
   have yY0:=yY.c 0 _ rfl
   have yY1:=yY.c 1 _ rfl
   have yYz:=yY.lt
   clear yY
   go_wp2_with fail
   refine (SY.out _).mono ?_
   rintro e2 w2 ⟨rfl,hb2⟩
   replace HB:=hT HB hb2
   replace KX:=Lib.hid (KX.out.below hb2)
   replace KY:=Lib.hid (KY.out.below hb2)
   clear yY0 yY1 yYz
   clear hb2
   go_wp2
   refine bodyPost_ret (v:=.tuple #[.int .i64 u,.int .i64 v,.int .i64 0]) (by simp [results,Tryz.results114,go_sem]) rfl ⟨by rw [E.out],HB.out⟩
  ·rw [decide_eq_false k] at SY
   have E:=Lib.hid (E0.trans (if_neg fun q=>k q.2))
   generalize (if I64 v then v else 0) = v' at *
   clear E0 h k IX IY
   have KX:=Lib.hid ((Blk.of (vs:=#[.int .i64 (hiW x),.int .u64 (loW x)]) (t:=112) (w:=w) (b:=w.heap.size) (by simp)).alloc (.cells #[.int .i64 (hiW y),.int .u64 (loW y)] 112))
   have KY:=Lib.hid (Blk.of (vs:=#[.int .i64 (hiW y),.int .u64 (loW y)]) (t:=112) (w:=(w.alloc (.cells #[.int .i64 (hiW x),.int .u64 (loW x)] 112))) (b:=w.heap.size + 1) (by simp))
   have HB:=Lib.hid (((Below.refl w.heap.size w).alloc (by simp; try omega) (.cells #[.int .i64 (hiW x),.int .u64 (loW x)] 112)).alloc (by simp; try omega) (.cells #[.int .i64 (hiW y),.int .u64 (loW y)] 112))
   go_enter Tryz.func114,Tryz.ntmps114
   go_wp2_with fail
   generalize (w.alloc _).alloc _ = w0 at *
   refine (SX.out _).mono ?_
   rintro e1 w1 ⟨rfl,hb1⟩
   replace HB:=hT HB hb1
   replace KX:=Lib.hid (KX.out.below hb1)
   replace KY:=Lib.hid (KY.out.below hb1)
   clear hb1
   have yY:=KY.out
   have yY0:=yY.c 0 _ rfl
   have yY1:=yY.c 1 _ rfl
   have yYz:=yY.lt
   clear yY
   go_wp2_with fail
   refine (SY.out _).mono ?_
   rintro e2 w2 ⟨rfl,hb2⟩
   replace HB:=hT HB hb2
   replace KX:=Lib.hid (KX.out.below hb2)
   replace KY:=Lib.hid (KY.out.below hb2)
   clear yY0 yY1 yYz
   clear hb2
   go_wp2
   refine bodyPost_ret (v:=.tuple #[.int .i64 0,.int .i64 0,.int .i64 2]) (by simp [results,Tryz.results114,go_sem]) rfl ⟨by rw [E.out],HB.out⟩
 ·rw [decide_eq_false h] at SX
  have E:=Lib.hid (E0.trans (if_neg fun q=>h q.1))
  obtain ⟨bk,hbk⟩:∃ b,decide (v≤8000000) = b:=⟨_,rfl⟩
  rw [hbk] at SY
  generalize (if I64 u then u else 0) = u' at *
  generalize (if I64 v then v else 0) = v' at *
  clear E0 h IX IY hbk
  have KX:=Lib.hid ((Blk.of (vs:=#[.int .i64 (hiW x),.int .u64 (loW x)]) (t:=112) (w:=w) (b:=w.heap.size) (by simp)).alloc (.cells #[.int .i64 (hiW y),.int .u64 (loW y)] 112))
  have KY:=Lib.hid (Blk.of (vs:=#[.int .i64 (hiW y),.int .u64 (loW y)]) (t:=112) (w:=(w.alloc (.cells #[.int .i64 (hiW x),.int .u64 (loW x)] 112))) (b:=w.heap.size + 1) (by simp))
  have HB:=Lib.hid (((Below.refl w.heap.size w).alloc (by simp; try omega) (.cells #[.int .i64 (hiW x),.int .u64 (loW x)] 112)).alloc (by simp; try omega) (.cells #[.int .i64 (hiW y),.int .u64 (loW y)] 112))
  go_enter Tryz.func114,Tryz.ntmps114
  go_wp2_with fail
  generalize (w.alloc _).alloc _ = w0 at *
  refine (SX.out _).mono ?_
  rintro e1 w1 ⟨rfl,hb1⟩
  replace HB:=hT HB hb1
  replace KX:=Lib.hid (KX.out.below hb1)
  replace KY:=Lib.hid (KY.out.below hb1)
  clear hb1
  have yY:=KY.out
  have yY0:=yY.c 0 _ rfl
  have yY1:=yY.c 1 _ rfl
  have yYz:=yY.lt
  clear yY
  go_wp2_with fail
  refine (SY.out _).mono ?_
  rintro e2 w2 ⟨rfl,hb2⟩
  replace HB:=hT HB hb2
  replace KX:=Lib.hid (KX.out.below hb2)
  replace KY:=Lib.hid (KY.out.below hb2)
  clear yY0 yY1 yYz
  clear hb2
  go_wp2
  refine bodyPost_ret (v:=.tuple #[.int .i64 0,.int .i64 0,.int .i64 2]) (by simp [results,Tryz.results114,go_sem]) rfl ⟨by rw [E.out],HB.out⟩
end Go.Proofs.YtajmjkliblippaaGreatDoor
