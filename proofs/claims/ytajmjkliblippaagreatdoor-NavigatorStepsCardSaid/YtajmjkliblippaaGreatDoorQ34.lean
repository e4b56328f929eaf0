/-
  Walks and laws of the layers below, gathered from several texts.
-/
import Derived.Lib.Hide
import Derived.Laws.Bits64b
import Derived.Laws.Bits64
import Derived.WalkKit
import Derived.WalkSpells
import Derived.IntWalk
import Derived.BigQuiet
import Derived.Deep.QuietTactic
import Derived.Deep.Cut
import Derived.Deep.RegionHeld3
import Derived.Test.YtajmjkliblippaaGreatDoorShelfQ
import Derived.LoopTactic
import Derived.Lib.QuietBelow
import Derived.Deep.LoopGhost
import Derived.Test.YtajmjkliblippaaGreatDoorQ3
import Derived.Test.YtajmjkliblippaaGreatDoorQ9
import Derived.Test.YtajmjkliblippaaGreatDoorQ14
import Derived.Test.YtajmjkliblippaaGreatDoorQ15
import Derived.Test.YtajmjkliblippaaGreatDoorQ16
import Derived.Test.YtajmjkliblippaaGreatDoorQ17
import Derived.Test.YtajmjkliblippaaGreatDoorQ32
set_option linter.unusedVariables false
namespace Go.Proofs.YtajmjkliblippaaGreatDoor
open Go.RowKit
set_option maxHeartbeats 16000000
set_option maxRecDepth 100000
theorem quo_nearP1gt (x d q r v:Int) (w:World) (h:QuoW x d q r) (hx:0≤x) (h0:0≤q) (h1:q < 85070591730234615865843651857942052864) (hr:¬ r = 0) (hr0:0≤r) (hr1:r < d) (hd1:d < 9223372036854775808) (hc:d - r < r) (hv:v = sgn false (q + 1)) :
 Calls Tryz.prog 229 #[wv x,.agg #[.int .i64 0,.int .u64 d],.int .i64 2] w fun e w'=>e = .returned (.tuple #[wv v,.bool true])∧Below w.heap.size w w':=by
 by_cases hcy:loW (q + 1) = 0
 ·have gx:decide (hiW x < 0) = false:=by have:=hi_neg x; simp; omega
  have gr:(r == 0) = false:=by simpa using hr
  have gr':(r != 0) = true:=by simpa using hr
  have gd:decide (d < r) = false:=by simp; omega
  have gs:IntKind.u64.wrap (d - r) = d - r:=by rw [IntKind.wrap_u64]; omega
  have gc:decide (d - r < r) = true:=by simp; omega
  have ge:(r == d - r) = false:=by simp; omega
  have ge':(d - r == r) = false:=by simp; omega
  have qs:IntKind.u64.wrap (loW q + 1) = loW (q + 1):=by rw [IntKind.wrap_u64]; unfold loW; omega
  have qc:(loW (q + 1) == 0) = true:=by simpa using hcy
  have qh:IntKind.u64.wrap (hiW q + 1) = hiW (q + 1):=by rw [IntKind.wrap_u64]; unfold hiW loW at *; omega
  have J:=Lib.hid fun w=>rsigned_any (q + 1) false w (by omega) (by omega)
  rw [← hv] at J
  unfold wv at J ⊢
  clear hv
  generalize loW (q + 1) = ql at *
  clear h0 h1 hr0 hr1 hd1 hx hr hcy hc
  have SG:=Lib.hid h.sg
  have SX:=Lib.hid h.sx
  have SY:=Lib.hid h.sy
  have DV:=Lib.hid h.dv
  clear h
  obtain ⟨KX,KY,KZ,HB⟩:=ent3 w #[.int .i64 (hiW x),.int .u64 (loW x)] 112 #[.int .i64 0,.int .u64 d] 112 #[.int .i64 0,.int .u64 0] 112
  go_enter Tryz.func229,Tryz.ntmps229
  go_wp2_with fail
  generalize ((w.alloc _).alloc _).alloc _ = w0 at *
  refine (SG.out _).mono ?_
  rintro e1 w1 ⟨rfl,hb1⟩
  refine up3 hb1 HB KX KY KZ ?_
  clear hb1 HB KX KY KZ
  intro HB KX KY KZ
  obtain ⟨yX0,yX1,yXz⟩:=blk2 KX
  obtain ⟨yY0,yY1,yYz⟩:=blk2 KY
  go_wp2_with fail
  refine (SX.out _).mono ?_
  rintro e2 w2 ⟨rfl,hb2⟩
  refine up3 hb2 HB KX KY KZ ?_
  clear hb2 yX0 yX1 yXz yY0 yY1 yYz HB KX KY KZ
  intro HB KX KY KZ
  obtain ⟨yY0,yY1,yYz⟩:=blk2 KY
  go_wp2_with fail
  refine (SY.out _).mono ?_
  rintro e3 w3 ⟨rfl,hb3⟩
  refine up3 hb3 HB KX KY KZ ?_
  clear hb3 yY0 yY1 yYz HB KX KY KZ
  intro HB KX KY KZ
  go_wp2_with fail
  refine (DV.out _).mono ?_
  rintro e4 w4 ⟨rfl,hb4⟩
  refine up3 hb4 HB KX KY KZ ?_
  clear hb4 HB KX KY KZ
  intro HB KX KY KZ
  go_wp2_with fail
  refine (J.out _).mono ?_
  rintro e5 w5 ⟨rfl,hb5⟩
  refine up3 hb5 HB KX KY KZ ?_
  clear hb5 HB KX KY KZ
  intro HB KX KY KZ
  obtain ⟨yZ0,yZ1,yZz,yZf0,yZf1⟩:=blf2 KZ
  go_wp2
  replace KZ:=kst (kst KZ 0 (.int .i64 (hiW v))) 1 (.int .u64 (loW v))
  refine ot2 (st2 w5 (w.heap.size + 1 + 1) 0 (.int .i64 (hiW v)) 1 (.int .u64 (loW v))) HB KX KY (by omega) (by omega) (by omega) ?_
  clear HB KX KY
  intro HB KX KY
  clear yZ0 yZ1 yZz yZf0 yZf1
  generalize (w5.setCell _ _).setCell _ _ = w6 at *
  simp only [List.set] at KZ
  obtain ⟨yZ0,yZ1,yZz⟩:=blk2 KZ
  refine bodyPost_ret (v:=.tuple #[.agg #[.int .i64 (hiW v),.int .u64 (loW v)],.bool true]) (by simp [results,Tryz.results229,go_sem,yZ0,yZ1]) rfl ⟨rfl,HB.out⟩
 ·have gx:decide (hiW x < 0) = false:=by have:=hi_neg x; simp; omega
  have gr:(r == 0) = false:=by simpa using hr
  have gr':(r != 0) = true:=by simpa using hr
  have gd:decide (d < r) = false:=by simp; omega
  have gs:IntKind.u64.wrap (d - r) = d - r:=by rw [IntKind.wrap_u64]; omega
  have gc:decide (d - r < r) = true:=by simp; omega
  have ge:(r == d - r) = false:=by simp; omega
  have ge':(d - r == r) = false:=by simp; omega
  have qs:IntKind.u64.wrap (loW q + 1) = loW (q + 1):=by rw [IntKind.wrap_u64]; unfold loW; omega
  have qc:(loW (q + 1) == 0) = false:=by simpa using hcy
  have qh:hiW q = hiW (q + 1):=by unfold hiW loW at *; omega
  have J:=Lib.hid fun w=>rsigned_any (q + 1) false w (by omega) (by omega)
  rw [← hv] at J
  unfold wv at J ⊢
  clear hv
  rw [← qh] at J
  clear qh
  generalize loW (q + 1) = ql at *
  clear h0 h1 hr0 hr1 hd1 hx hr hcy hc
  have SG:=Lib.hid h.sg
  have SX:=Lib.hid h.sx
  have SY:=Lib.hid h.sy
  have DV:=Lib.hid h.dv
  clear h
  obtain ⟨KX,KY,KZ,HB⟩:=ent3 w #[.int .i64 (hiW x),.int .u64 (loW x)] 112 #[.int .i64 0,.int .u64 d] 112 #[.int .i64 0,.int .u64 0] 112
  go_enter Tryz.func229,Tryz.ntmps229
  go_wp2_with fail
  generalize ((w.alloc _).alloc _).alloc _ = w0 at *
  refine (SG.out _).mono ?_
  rintro e1 w1 ⟨rfl,hb1⟩
  refine up3 hb1 HB KX KY KZ ?_
  clear hb1 HB KX KY KZ
  intro HB KX KY KZ
  obtain ⟨yX0,yX1,yXz⟩:=blk2 KX
  obtain ⟨yY0,yY1,yYz⟩:=blk2 KY
  go_wp2_with fail
  refine (SX.out _).mono ?_
  rintro e2 w2 ⟨rfl,hb2⟩
  refine up3 hb2 HB KX KY KZ ?_
  clear hb2 yX0 yX1 yXz yY0 yY1 yYz HB KX KY KZ
  intro HB KX KY KZ
  obtain ⟨yY0,yY1,yYz⟩:=blk2 KY
  go_wp2_with fail
  refine (SY.out _).mono ?_
  rintro e3 w3 ⟨rfl,hb3⟩
  refine up3 hb3 HB KX KY KZ ?_
  clear hb3 yY0 yY1 yYz HB KX KY KZ
  intro HB KX KY KZ
  go_wp2_with fail
  refine (DV.out _).mono ?_
  rintro e4 w4 ⟨rfl,hb4⟩
  refine up3 hb4 HB KX KY KZ ?_
  clear hb4 HB KX KY KZ
  intro HB KX KY KZ
  go_wp2_with fail
  refine (J.out _).mono ?_
  rintro e5 w5 ⟨rfl,hb5⟩
  refine up3 hb5 HB KX KY KZ ?_
  clear hb5 HB KX KY KZ
  intro HB KX KY KZ
  obtain ⟨yZ0,yZ1,yZz,yZf0,yZf1⟩:=blf2 KZ
  go_wp2
  replace KZ:=kst (kst KZ 0 (.int .i64 (hiW v))) 1 (.int .u64 (loW v))
  refine ot2 (st2 w5 (w.heap.size + 1 + 1) 0 (.int .i64 (hiW v)) 1 (.int .u64 (loW v))) HB KX KY (by omega) (by omega) (by omega) ?_
  clear HB KX KY
  intro HB KX KY
  clear yZ0 yZ1 yZz yZf0 yZf1
  generalize (w5.setCell _ _).setCell _ _ = w6 at *
  simp only [List.set] at KZ
  obtain ⟨yZ0,yZ1,yZz⟩:=blk2 KZ
  refine bodyPost_ret (v:=.tuple #[.agg #[.int .i64 (hiW v),.int .u64 (loW v)],.bool true]) (by simp [results,Tryz.results229,go_sem,yZ0,yZ1]) rfl ⟨rfl,HB.out⟩
theorem quo_nearN0lt (x d q r v:Int) (w:World) (h:QuoW x d q r) (hx:x < 0) (h0:0≤q) (h1:q < 85070591730234615865843651857942052864) (hr:r = 0) (hr0:0≤r) (hr1:r < d) (hd1:d < 9223372036854775808) (hc:r < d - r) (hv:v = sgn true q) :
 Calls Tryz.prog 229 #[wv x,.agg #[.int .i64 0,.int .u64 d],.int .i64 2] w fun e w'=>e = .returned (.tuple #[wv v,.bool true])∧Below w.heap.size w w':=by
 by_cases hnz:hiW q = 0
 ·by_cases hnl:loW q = 0
  ·have gx:decide (hiW x < 0) = true:=by have:=hi_neg x; simp; omega
   have gr:(r == 0) = true:=by simpa using hr
   have gr':(r != 0) = false:=by simpa using hr
   have gd:decide (d < r) = false:=by simp; omega
   have gs:IntKind.u64.wrap (d - r) = d - r:=by rw [IntKind.wrap_u64]; omega
   have gc:decide (d - r < r) = false:=by simp; omega
   have ge:(r == d - r) = false:=by simp; omega
   have ge':(d - r == r) = false:=by simp; omega
   have n1:(hiW q != 0) = false:=by simpa using hnz
   have n2:(loW q != 0) = false:=by simpa using hnl
   have J:=Lib.hid fun w=>rsigned_any q false w (by omega) (by omega)
   have e0:sgn false q = v:=by rw [hv]; unfold sgn; simp; unfold hiW loW at *; omega
   rw [e0] at J
   unfold wv at J ⊢
   clear hv
   clear h0 h1 hr0 hr1 hd1 hx hr hnz hnl hc
   have SG:=Lib.hid h.sg
   have SX:=Lib.hid h.sx
   have SY:=Lib.hid h.sy
   have DV:=Lib.hid h.dv
   clear h
   obtain ⟨KX,KY,KZ,HB⟩:=ent3 w #[.int .i64 (hiW x),.int .u64 (loW x)] 112 #[.int .i64 0,.int .u64 d] 112 #[.int .i64 0,.int .u64 0] 112
   go_enter Tryz.func229,Tryz.ntmps229
   go_wp2_with fail
   generalize ((w.alloc _).alloc _).alloc _ = w0 at *
   refine (SG.out _).mono ?_
   rintro e1 w1 ⟨rfl,hb1⟩
   refine up3 hb1 HB KX KY KZ ?_
   clear hb1 HB KX KY KZ
   intro HB KX KY KZ
   obtain ⟨yX0,yX1,yXz⟩:=blk2 KX
   obtain ⟨yY0,yY1,yYz⟩:=blk2 KY
   go_wp2_with fail
   refine (SX.out _).mono ?_
   rintro e2 w2 ⟨rfl,hb2⟩
   refine up3 hb2 HB KX KY KZ ?_
   clear hb2 yX0 yX1 yXz yY0 yY1 yYz HB KX KY KZ
   intro HB KX KY KZ
   obtain ⟨yY0,yY1,yYz⟩:=blk2 KY
   go_wp2_with fail
   refine (SY.out _).mono ?_
   rintro e3 w3 ⟨rfl,hb3⟩
   refine up3 hb3 HB KX KY KZ ?_
   clear hb3 yY0 yY1 yYz HB KX KY KZ
   intro HB KX KY KZ
   go_wp2_with fail
   refine (DV.out _).mono ?_
   rintro e4 w4 ⟨rfl,hb4⟩
   refine up3 hb4 HB KX KY KZ ?_
   clear hb4 HB KX KY KZ
   intro HB KX KY KZ
   go_wp2_with fail
   refine (J.out _).mono ?_
   rintro e5 w5 ⟨rfl,hb5⟩
   refine up3 hb5 HB KX KY KZ ?_
   clear hb5 HB KX KY KZ
   intro HB KX KY KZ
   obtain ⟨yZ0,yZ1,yZz,yZf0,yZf1⟩:=blf2 KZ
   go_wp2
   replace KZ:=kst (kst KZ 0 (.int .i64 (hiW v))) 1 (.int .u64 (loW v))
   refine ot2 (st2 w5 (w.heap.size + 1 + 1) 0 (.int .i64 (hiW v)) 1 (.int .u64 (loW v))) HB KX KY (by omega) (by omega) (by omega) ?_
   clear HB KX KY
   intro HB KX KY
   clear yZ0 yZ1 yZz yZf0 yZf1
   generalize (w5.setCell _ _).setCell _ _ = w6 at *
   simp only [List.set] at KZ
   obtain ⟨yZ0,yZ1,yZz⟩:=blk2 KZ
   refine bodyPost_ret (v:=.tuple #[.agg #[.int .i64 (hiW v),.int .u64 (loW v)],.bool true]) (by simp [results,Tryz.results229,go_sem,yZ0,yZ1]) rfl ⟨rfl,HB.out⟩
  ·have gx:decide (hiW x < 0) = true:=by have:=hi_neg x; simp; omega
   have gr:(r == 0) = true:=by simpa using hr
   have gr':(r != 0) = false:=by simpa using hr
   have gd:decide (d < r) = false:=by simp; omega
   have gs:IntKind.u64.wrap (d - r) = d - r:=by rw [IntKind.wrap_u64]; omega
   have gc:decide (d - r < r) = false:=by simp; omega
   have ge:(r == d - r) = false:=by simp; omega
   have ge':(d - r == r) = false:=by simp; omega
   have n1:(hiW q != 0) = false:=by simpa using hnz
   have n2:(loW q != 0) = true:=by simpa using hnl
   have J:=Lib.hid fun w=>rsigned_any q true w (by omega) (by omega)
   rw [← hv] at J
   unfold wv at J ⊢
   clear hv
   clear h0 h1 hr0 hr1 hd1 hx hr hnz hnl hc
   have SG:=Lib.hid h.sg
   have SX:=Lib.hid h.sx
   have SY:=Lib.hid h.sy
   have DV:=Lib.hid h.dv
   clear h
   obtain ⟨KX,KY,KZ,HB⟩:=ent3 w #[.int .i64 (hiW x),.int .u64 (loW x)] 112 #[.int .i64 0,.int .u64 d] 112 #[.int .i64 0,.int .u64 0] 112
   go_enter Tryz.func229,Tryz.ntmps229
   go_wp2_with fail
   generalize ((w.alloc _).alloc _).alloc _ = w0 at *
   refine (SG.out _).mono ?_
   rintro e1 w1 ⟨rfl,hb1⟩
   refine up3 hb1 HB KX KY KZ ?_
   clear hb1 HB KX KY KZ
   intro HB KX KY KZ
   obtain ⟨yX0,yX1,yXz⟩:=blk2 KX
   obtain ⟨yY0,yY1,yYz⟩:=blk2 KY
   go_wp2_with fail
   refine (SX.out _).mono ?_
   rintro e2 w2 ⟨rfl,hb2⟩
   refine up3 hb2 HB KX KY KZ ?_
   clear hb2 yX0 yX1 yXz yY0 yY1 yYz HB KX KY KZ
   intro HB KX KY KZ
   obtain ⟨yY0,yY1,yYz⟩:=blk2 KY
   go_wp2_with fail
   refine (SY.out _).mono ?_
   rintro e3 w3 ⟨rfl,hb3⟩
   refine up3 hb3 HB KX KY KZ ?_
   clear hb3 yY0 yY1 yYz HB KX KY KZ
   intro HB KX KY KZ
   go_wp2_with fail
   refine (DV.out _).mono ?_
   rintro e4 w4 ⟨rfl,hb4⟩
   refine up3 hb4 HB KX KY KZ ?_
   clear hb4 HB KX KY KZ
   intro HB KX KY KZ
   go_wp2_with fail
   refine (J.out _).mono ?_
   rintro e5 w5 ⟨rfl,hb5⟩
   refine up3 hb5 HB KX KY KZ ?_
   clear hb5 HB KX KY KZ
   intro HB KX KY KZ
   obtain ⟨yZ0,yZ1,yZz,yZf0,yZf1⟩:=blf2 KZ
   go_wp2
   replace KZ:=kst (kst KZ 0 (.int .i64 (hiW v))) 1 (.int .u64 (loW v))
   refine ot2 (st2 w5 (w.heap.size + 1 + 1) 0 (.int .i64 (hiW v)) 1 (.int .u64 (loW v))) HB KX KY (by omega) (by omega) (by omega) ?_
   clear HB KX KY
   intro HB KX KY
   clear yZ0 yZ1 yZz yZf0 yZf1
   generalize (w5.setCell _ _).setCell _ _ = w6 at *
   simp only [List.set] at KZ
   obtain ⟨yZ0,yZ1,yZz⟩:=blk2 KZ
   refine bodyPost_ret (v:=.tuple #[.agg #[.int .i64 (hiW v),.int .u64 (loW v)],.bool true]) (by simp [results,Tryz.results229,go_sem,yZ0,yZ1]) rfl ⟨rfl,HB.out⟩
 ·have gx:decide (hiW x < 0) = true:=by have:=hi_neg x; simp; omega
  have gr:(r == 0) = true:=by simpa using hr
  have gr':(r != 0) = false:=by simpa using hr
  have gd:decide (d < r) = false:=by simp; omega
  have gs:IntKind.u64.wrap (d - r) = d - r:=by rw [IntKind.wrap_u64]; omega
  have gc:decide (d - r < r) = false:=by simp; omega
  have ge:(r == d - r) = false:=by simp; omega
  have ge':(d - r == r) = false:=by simp; omega
  have n1:(hiW q != 0) = true:=by simpa using hnz
  have J:=Lib.hid fun w=>rsigned_any q true w (by omega) (by omega)
  rw [← hv] at J
  unfold wv at J ⊢
  clear hv
  clear h0 h1 hr0 hr1 hd1 hx hr hnz hc
  have SG:=Lib.hid h.sg
  have SX:=Lib.hid h.sx
  have SY:=Lib.hid h.sy
  have DV:=Lib.hid h.dv
  clear h
  obtain ⟨KX,KY,KZ,HB⟩:=ent3 w #[.int .i64 (hiW x),.int .u64 (loW x)] 112 #[.int .i64 0,.int .u64 d] 112 #[.int .i64 0,.int .u64 0] 112
  go_enter Tryz.func229,Tryz.ntmps229
  go_wp2_with fail
  generalize ((w.alloc _).alloc _).alloc _ = w0 at *
  refine (SG.out _).mono ?_
  rintro e1 w1 ⟨rfl,hb1⟩
  refine up3 hb1 HB KX KY KZ ?_
  clear hb1 HB KX KY KZ
  intro HB KX KY KZ
  obtain ⟨yX0,yX1,yXz⟩:=blk2 KX
  obtain ⟨yY0,yY1,yYz⟩:=blk2 KY
  go_wp2_with fail
  refine (SX.out _).mono ?_
  rintro e2 w2 ⟨rfl,hb2⟩
  refine up3 hb2 HB KX KY KZ ?_
  clear hb2 yX0 yX1 yXz yY0 yY1 yYz HB KX KY KZ
  intro HB KX KY KZ
  obtain ⟨yY0,yY1,yYz⟩:=blk2 KY
  go_wp2_with fail
  refine (SY.out _).mono ?_
  rintro e3 w3 ⟨rfl,hb3⟩
  refine up3 hb3 HB KX KY KZ ?_
  clear hb3 yY0 yY1 yYz HB KX KY KZ
  intro HB KX KY KZ
  go_wp2_with fail
  refine (DV.out _).mono ?_
  rintro e4 w4 ⟨rfl,hb4⟩
  refine up3 hb4 HB KX KY KZ ?_
  clear hb4 HB KX KY KZ
  intro HB KX KY KZ
  go_wp2_with fail
  refine (J.out _).mono ?_
  rintro e5 w5 ⟨rfl,hb5⟩
  refine up3 hb5 HB KX KY KZ ?_
  clear hb5 HB KX KY KZ
  intro HB KX KY KZ
  obtain ⟨yZ0,yZ1,yZz,yZf0,yZf1⟩:=blf2 KZ
  go_wp2
  replace KZ:=kst (kst KZ 0 (.int .i64 (hiW v))) 1 (.int .u64 (loW v))
  refine ot2 (st2 w5 (w.heap.size + 1 + 1) 0 (.int .i64 (hiW v)) 1 (.int .u64 (loW v))) HB KX KY (by omega) (by omega) (by omega) ?_
  clear HB KX KY
  intro HB KX KY
  clear yZ0 yZ1 yZz yZf0 yZf1
  generalize (w5.setCell _ _).setCell _ _ = w6 at *
  simp only [List.set] at KZ
  obtain ⟨yZ0,yZ1,yZz⟩:=blk2 KZ
  refine bodyPost_ret (v:=.tuple #[.agg #[.int .i64 (hiW v),.int .u64 (loW v)],.bool true]) (by simp [results,Tryz.results229,go_sem,yZ0,yZ1]) rfl ⟨rfl,HB.out⟩
theorem quo_nearN1lt (x d q r v:Int) (w:World) (h:QuoW x d q r) (hx:x < 0) (h0:0≤q) (h1:q < 85070591730234615865843651857942052864) (hr:¬ r = 0) (hr0:0≤r) (hr1:r < d) (hd1:d < 9223372036854775808) (hc:r < d - r) (hv:v = sgn true q) :
 Calls Tryz.prog 229 #[wv x,.agg #[.int .i64 0,.int .u64 d],.int .i64 2] w fun e w'=>e = .returned (.tuple #[wv v,.bool true])∧Below w.heap.size w w':=by
 by_cases hnz:hiW q = 0
 ·by_cases hnl:loW q = 0
  ·have gx:decide (hiW x < 0) = true:=by have:=hi_neg x; simp; omega
   have gr:(r == 0) = false:=by simpa using hr
   have gr':(r != 0) = true:=by simpa using hr
   have gd:decide (d < r) = false:=by simp; omega
   have gs:IntKind.u64.wrap (d - r) = d - r:=by rw [IntKind.wrap_u64]; omega
   have gc:decide (d - r < r) = false:=by simp; omega
   have ge:(r == d - r) = false:=by simp; omega
   have ge':(d - r == r) = false:=by simp; omega
   have n1:(hiW q != 0) = false:=by simpa using hnz
   have n2:(loW q != 0) = false:=by simpa using hnl
   have J:=Lib.hid fun w=>rsigned_any q false w (by omega) (by omega)
   have e0:sgn false q = v:=by rw [hv]; unfold sgn; simp; unfold hiW loW at *; omega
   rw [e0] at J
   unfold wv at J ⊢
   clear hv
   clear h0 h1 hr0 hr1 hd1 hx hr hnz hnl hc
   have SG:=Lib.hid h.sg
   have SX:=Lib.hid h.sx
   have SY:=Lib.hid h.sy
   have DV:=Lib.hid h.dv
   clear h
   obtain ⟨KX,KY,KZ,HB⟩:=ent3 w #[.int .i64 (hiW x),.int .u64 (loW x)] 112 #[.int .i64 0,.int .u64 d] 112 #[.int .i64 0,.int .u64 0] 112
   go_enter Tryz.func229,Tryz.ntmps229
   go_wp2_with fail
   generalize ((w.alloc _).alloc _).alloc _ = w0 at *
   refine (SG.out _).mono ?_
   rintro e1 w1 ⟨rfl,hb1⟩
   refine up3 hb1 HB KX KY KZ ?_
   clear hb1 HB KX KY KZ
   intro HB KX KY KZ
   obtain ⟨yX0,yX1,yXz⟩:=blk2 KX
   obtain ⟨yY0,yY1,yYz⟩:=blk2 KY
   go_wp2_with fail
   refine (SX.out _).mono ?_
   rintro e2 w2 ⟨rfl,hb2⟩
   refine up3 hb2 HB KX KY KZ ?_
   clear hb2 yX0 yX1 yXz yY0 yY1 yYz HB KX KY KZ
   intro HB KX KY KZ
   obtain ⟨yY0,yY1,yYz⟩:=blk2 KY
   go_wp2_with fail
   refine (SY.out _).mono ?_
   rintro e3 w3 ⟨rfl,hb3⟩
   refine up3 hb3 HB KX KY KZ ?_
   clear hb3 yY0 yY1 yYz HB KX KY KZ
   intro HB KX KY KZ
   go_wp2_with fail
   refine (DV.out _).mono ?_
   rintro e4 w4 ⟨rfl,hb4⟩
   refine up3 hb4 HB KX KY KZ ?_
   clear hb4 HB KX KY KZ
   intro HB KX KY KZ
   go_wp2_with fail
   refine (J.out _).mono ?_
   rintro e5 w5 ⟨rfl,hb5⟩
   refine up3 hb5 HB KX KY KZ ?_
   clear hb5 HB KX KY KZ
   intro HB KX KY KZ
   obtain ⟨yZ0,yZ1,yZz,yZf0,yZf1⟩:=blf2 KZ
   go_wp2
   replace KZ:=kst (kst KZ 0 (.int .i64 (hiW v))) 1 (.int .u64 (loW v))
   refine ot2 (st2 w5 (w.heap.size + 1 + 1) 0 (.int .i64 (hiW v)) 1 (.int .u64 (loW v))) HB KX KY (by omega) (by omega) (by omega) ?_
   clear HB KX KY
   intro HB KX KY
   clear yZ0 yZ1 yZz yZf0 yZf1
   generalize (w5.setCell _ _).setCell _ _ = w6 at *
   simp only [List.set] at KZ
   obtain ⟨yZ0,yZ1,yZz⟩:=blk2 KZ
   refine bodyPost_ret (v:=.tuple #[.agg #[.int .i64 (hiW v),.int .u64 (loW v)],.bool true]) (by simp [results,Tryz.results229,go_sem,yZ0,yZ1]) rfl ⟨rfl,HB.out⟩
  ·have gx:decide (hiW x < 0) = true:=by have:=hi_neg x; simp; omega
   have gr:(r == 0) = false:=by simpa using hr
   have gr':(r != 0) = true:=by simpa using hr
   have gd:decide (d < r) = false:=by simp; omega
   have gs:IntKind.u64.wrap (d - r) = d - r:=by rw [IntKind.wrap_u64]; omega
   have gc:decide (d - r < r) = false:=by simp; omega
   have ge:(r == d - r) = false:=by simp; omega
   have ge':(d - r == r) = false:=by simp; omega
   have n1:(hiW q != 0) = false:=by simpa using hnz
   have n2:(loW q != 0) = true:=by simpa using hnl
   have J:=Lib.hid fun w=>rsigned_any q true w (by omega) (by omega)
   rw [← hv] at J
   unfold wv at J ⊢
   clear hv
   clear h0 h1 hr0 hr1 hd1 hx hr hnz hnl hc
   have SG:=Lib.hid h.sg
   have SX:=Lib.hid h.sx
   have SY:=Lib.hid h.sy
   have DV:=Lib.hid h.dv
   clear h
   obtain ⟨KX,KY,KZ,HB⟩:=ent3 w #[.int .i64 (hiW x),.int .u64 (loW x)] 112 #[.int .i64 0,.int .u64 d] 112 #[.int .i64 0,.int .u64 0] 112
   go_enter Tryz.func229,Tryz.ntmps229
   go_wp2_with fail
   generalize ((w.alloc _).alloc _).alloc _ = w0 at *
   refine (SG.out _).mono ?_
   rintro e1 w1 ⟨rfl,hb1⟩
   refine up3 hb1 HB KX KY KZ ?_
   clear hb1 HB KX KY KZ
   intro HB KX KY KZ
   obtain ⟨yX0,yX1,yXz⟩:=blk2 KX
   obtain ⟨yY0,yY1,yYz⟩:=blk2 KY
   go_wp2_with fail
   refine (SX.out _).mono ?_
   rintro e2 w2 ⟨rfl,hb2⟩
   refine up3 hb2 HB KX KY KZ ?_
   clear hb2 yX0 yX1 yXz yY0 yY1 yYz HB KX KY KZ
   intro HB KX KY KZ
   obtain ⟨yY0,yY1,yYz⟩:=blk2 KY
   go_wp2_with fail
   refine (SY.out _).mono ?_
   rintro e3 w3 ⟨rfl,hb3⟩
   refine up3 hb3 HB KX KY KZ ?_
   clear hb3 yY0 yY1 yYz HB KX KY KZ
   intro HB KX KY KZ
   go_wp2_with fail
   refine (DV.out _).mono ?_
   rintro e4 w4 ⟨rfl,hb4⟩
   refine up3 hb4 HB KX KY KZ ?_
   clear hb4 HB KX KY KZ
   intro HB KX KY KZ
   go_wp2_with fail
   refine (J.out _).mono ?_
   rintro e5 w5 ⟨rfl,hb5⟩
   refine up3 hb5 HB KX KY KZ ?_
   clear hb5 HB KX KY KZ
   intro HB KX KY KZ
   obtain ⟨yZ0,yZ1,yZz,yZf0,yZf1⟩:=blf2 KZ
   go_wp2
   replace KZ:=kst (kst KZ 0 (.int .i64 (hiW v))) 1 (.int .u64 (loW v))
   refine ot2 (st2 w5 (w.heap.size + 1 + 1) 0 (.int .i64 (hiW v)) 1 (.int .u64 (loW v))) HB KX KY (by omega) (by omega) (by omega) ?_
   clear HB KX KY
   intro HB KX KY
   clear yZ0 yZ1 yZz yZf0 yZf1
   generalize (w5.setCell _ _).setCell _ _ = w6 at *
   simp only [List.set] at KZ
   obtain ⟨yZ0,yZ1,yZz⟩:=blk2 KZ
   refine bodyPost_ret (v:=.tuple #[.agg #[.int .i64 (hiW v),.int .u64 (loW v)],.bool true]) (by simp [results,Tryz.results229,go_sem,yZ0,yZ1]) rfl ⟨rfl,HB.out⟩
 ·have gx:decide (hiW x < 0) = true:=by have:=hi_neg x; simp; omega
  have gr:(r == 0) = false:=by simpa using hr
  have gr':(r != 0) = true:=by simpa using hr
  have gd:decide (d < r) = false:=by simp; omega
  have gs:IntKind.u64.wrap (d - r) = d - r:=by rw [IntKind.wrap_u64]; omega
  have gc:decide (d - r < r) = false:=by simp; omega
  have ge:(r == d - r) = false:=by simp; omega
  have ge':(d - r == r) = false:=by simp; omega
  have n1:(hiW q != 0) = true:=by simpa using hnz
  have J:=Lib.hid fun w=>rsigned_any q true w (by omega) (by omega)
  rw [← hv] at J
  unfold wv at J ⊢
  clear hv
  clear h0 h1 hr0 hr1 hd1 hx hr hnz hc
  have SG:=Lib.hid h.sg
  have SX:=Lib.hid h.sx
  have SY:=Lib.hid h.sy
  have DV:=Lib.hid h.dv
  clear h
  obtain ⟨KX,KY,KZ,HB⟩:=ent3 w #[.int .i64 (hiW x),.int .u64 (loW x)] 112 #[.int .i64 0,.int .u64 d] 112 #[.int .i64 0,.int .u64 0] 112
  go_enter Tryz.func229,Tryz.ntmps229
  go_wp2_with fail
  generalize ((w.alloc _).alloc _).alloc _ = w0 at *
  refine (SG.out _).mono ?_
  rintro e1 w1 ⟨rfl,hb1⟩
  refine up3 hb1 HB KX KY KZ ?_
  clear hb1 HB KX KY KZ
  intro HB KX KY KZ
  obtain ⟨yX0,yX1,yXz⟩:=blk2 KX
  obtain ⟨yY0,yY1,yYz⟩:=blk2 KY
  go_wp2_with fail
  refine (SX.out _).mono ?_
  rintro e2 w2 ⟨rfl,hb2⟩
  refine up3 hb2 HB KX KY KZ ?_
  clear hb2 yX0 yX1 yXz yY0 yY1 yYz HB KX KY KZ
  intro HB KX KY KZ
  obtain ⟨yY0,yY1,yYz⟩:=blk2 KY
  go_wp2_with fail
  refine (SY.out _).mono ?_
  rintro e3 w3 ⟨rfl,hb3⟩
  refine up3 hb3 HB KX KY KZ ?_
  clear hb3 yY0 yY1 yYz HB KX KY KZ
  intro HB KX KY KZ
  go_wp2_with fail
  refine (DV.out _).mono ?_
  rintro e4 w4 ⟨rfl,hb4⟩
  refine up3 hb4 HB KX KY KZ ?_
  clear hb4 HB KX KY KZ
  intro HB KX KY KZ
  go_wp2_with fail
  refine (J.out _).mono ?_
  rintro e5 w5 ⟨rfl,hb5⟩
  refine up3 hb5 HB KX KY KZ ?_
  clear hb5 HB KX KY KZ
  intro HB KX KY KZ
  obtain ⟨yZ0,yZ1,yZz,yZf0,yZf1⟩:=blf2 KZ
  go_wp2
  replace KZ:=kst (kst KZ 0 (.int .i64 (hiW v))) 1 (.int .u64 (loW v))
  refine ot2 (st2 w5 (w.heap.size + 1 + 1) 0 (.int .i64 (hiW v)) 1 (.int .u64 (loW v))) HB KX KY (by omega) (by omega) (by omega) ?_
  clear HB KX KY
  intro HB KX KY
  clear yZ0 yZ1 yZz yZf0 yZf1
  generalize (w5.setCell _ _).setCell _ _ = w6 at *
  simp only [List.set] at KZ
  obtain ⟨yZ0,yZ1,yZz⟩:=blk2 KZ
  refine bodyPost_ret (v:=.tuple #[.agg #[.int .i64 (hiW v),.int .u64 (loW v)],.bool true]) (by simp [results,Tryz.results229,go_sem,yZ0,yZ1]) rfl ⟨rfl,HB.out⟩
theorem quo_nearN1eq (x d q r v:Int) (w:World) (h:QuoW x d q r) (hx:x < 0) (h0:0≤q) (h1:q < 85070591730234615865843651857942052864) (hr:¬ r = 0) (hr0:0≤r) (hr1:r < d) (hd1:d < 9223372036854775808) (hc:r = d - r) (hv:v = sgn true q) :
 Calls Tryz.prog 229 #[wv x,.agg #[.int .i64 0,.int .u64 d],.int .i64 2] w fun e w'=>e = .returned (.tuple #[wv v,.bool true])∧Below w.heap.size w w':=by
 by_cases hnz:hiW q = 0
 ·by_cases hnl:loW q = 0
  ·have gx:decide (hiW x < 0) = true:=by have:=hi_neg x; simp; omega
   have gr:(r == 0) = false:=by simpa using hr
   have gr':(r != 0) = true:=by simpa using hr
   have gd:decide (d < r) = false:=by simp; omega
   have gs:IntKind.u64.wrap (d - r) = d - r:=by rw [IntKind.wrap_u64]; omega
   have gc:decide (d - r < r) = false:=by simp; omega
   have ge:(r == d - r) = true:=by simp; omega
   have ge':(d - r == r) = true:=by simp; omega
   have n1:(hiW q != 0) = false:=by simpa using hnz
   have n2:(loW q != 0) = false:=by simpa using hnl
   have J:=Lib.hid fun w=>rsigned_any q false w (by omega) (by omega)
   have e0:sgn false q = v:=by rw [hv]; unfold sgn; simp; unfold hiW loW at *; omega
   rw [e0] at J
   unfold wv at J ⊢
   clear hv
   clear h0 h1 hr0 hr1 hd1 hx hr hnz hnl hc
   have SG:=Lib.hid h.sg
   have SX:=Lib.hid h.sx
   have SY:=Lib.hid h.sy
   have DV:=Lib.hid h.dv
   clear h
   obtain ⟨KX,KY,KZ,HB⟩:=ent3 w #[.int .i64 (hiW x),.int .u64 (loW x)] 112 #[.int .i64 0,.int .u64 d] 112 #[.int .i64 0,.int .u64 0] 112
   go_enter Tryz.func229,Tryz.ntmps229
   go_wp2_with fail
   generalize ((w.alloc _).alloc _).alloc _ = w0 at *
   refine (SG.out _).mono ?_
   rintro e1 w1 ⟨rfl,hb1⟩
   refine up3 hb1 HB KX KY KZ ?_
   clear hb1 HB KX KY KZ
   intro HB KX KY KZ
   obtain ⟨yX0,yX1,yXz⟩:=blk2 KX
   obtain ⟨yY0,yY1,yYz⟩:=blk2 KY
   go_wp2_with fail
   refine (SX.out _).mono ?_
   rintro e2 w2 ⟨rfl,hb2⟩
   refine up3 hb2 HB KX KY KZ ?_
   clear hb2 yX0 yX1 yXz yY0 yY1 yYz HB KX KY KZ
   intro HB KX KY KZ
   obtain ⟨yY0,yY1,yYz⟩:=blk2 KY
   go_wp2_with fail
   refine (SY.out _).mono ?_
   rintro e3 w3 ⟨rfl,hb3⟩
   refine up3 hb3 HB KX KY KZ ?_
   clear hb3 yY0 yY1 yYz HB KX KY KZ
   intro HB KX KY KZ
   go_wp2_with fail
   refine (DV.out _).mono ?_
   rintro e4 w4 ⟨rfl,hb4⟩
   refine up3 hb4 HB KX KY KZ ?_
   clear hb4 HB KX KY KZ
   intro HB KX KY KZ
   go_wp2_with fail
   refine (J.out _).mono ?_
   rintro e5 w5 ⟨rfl,hb5⟩
   refine up3 hb5 HB KX KY KZ ?_
   clear hb5 HB KX KY KZ
   intro HB KX KY KZ
   obtain ⟨yZ0,yZ1,yZz,yZf0,yZf1⟩:=blf2 KZ
   go_wp2
   replace KZ:=kst (kst KZ 0 (.int .i64 (hiW v))) 1 (.int .u64 (loW v))
   refine ot2 (st2 w5 (w.heap.size + 1 + 1) 0 (.int .i64 (hiW v)) 1 (.int .u64 (loW v))) HB KX KY (by omega) (by omega) (by omega) ?_
   clear HB KX KY
   intro HB KX KY
   clear yZ0 yZ1 yZz yZf0 yZf1
   generalize (w5.setCell _ _).setCell _ _ = w6 at *
   simp only [List.set] at KZ
   obtain ⟨yZ0,yZ1,yZz⟩:=blk2 KZ
   refine bodyPost_ret (v:=.tuple #[.agg #[.int .i64 (hiW v),.int .u64 (loW v)],.bool true]) (by simp [results,Tryz.results229,go_sem,yZ0,yZ1]) rfl ⟨rfl,HB.out⟩
  ·have gx:decide (hiW x < 0) = true:=by have:=hi_neg x; simp; omega
   have gr:(r == 0) = false:=by simpa using hr
   have gr':(r != 0) = true:=by simpa using hr
   have gd:decide (d < r) = false:=by simp; omega
   have gs:IntKind.u64.wrap (d - r) = d - r:=by rw [IntKind.wrap_u64]; omega
   have gc:decide (d - r < r) = false:=by simp; omega
   have ge:(r == d - r) = true:=by simp; omega
   have ge':(d - r == r) = true:=by simp; omega
   have n1:(hiW q != 0) = false:=by simpa using hnz
   have n2:(loW q != 0) = true:=by simpa using hnl
   have J:=Lib.hid fun w=>rsigned_any q true w (by omega) (by omega)
   rw [← hv] at J
   unfold wv at J ⊢
   clear hv
   clear h0 h1 hr0 hr1 hd1 hx hr hnz hnl hc
   have SG:=Lib.hid h.sg
   have SX:=Lib.hid h.sx
   have SY:=Lib.hid h.sy
   have DV:=Lib.hid h.dv
   clear h
   obtain ⟨KX,KY,KZ,HB⟩:=ent3 w #[.int .i64 (hiW x),.int .u64 (loW x)] 112 #[.int .i64 0,.int .u64 d] 112 #[.int .i64 0,.int .u64 0] 112
   go_enter Tryz.func229,Tryz.ntmps229
   go_wp2_with fail
   generalize ((w.alloc _).alloc _).alloc _ = w0 at *
   refine (SG.out _).mono ?_
   rintro e1 w1 ⟨rfl,hb1⟩
   refine up3 hb1 HB KX KY KZ ?_
   clear hb1 HB KX KY KZ
   intro HB KX KY KZ
   obtain ⟨yX0,yX1,yXz⟩:=blk2 KX
   obtain ⟨yY0,yY1,yYz⟩:=blk2 KY
   go_wp2_with fail
   refine (SX.out _).mono ?_
   rintro e2 w2 ⟨rfl,hb2⟩
   refine up3 hb2 HB KX KY KZ ?_
   clear hb2 yX0 yX1 yXz yY0 yY1 yYz HB KX KY KZ
   intro HB KX KY KZ
   obtain ⟨yY0,yY1,yYz⟩:=blk2 KY
   go_wp2_with fail
   refine (SY.out _).mono ?_
   rintro e3 w3 ⟨rfl,hb3⟩
   refine up3 hb3 HB KX KY KZ ?_
   clear hb3 yY0 yY1 yYz HB KX KY KZ
   intro HB KX KY KZ
   go_wp2_with fail
   refine (DV.out _).mono ?_
   rintro e4 w4 ⟨rfl,hb4⟩
   refine up3 hb4 HB KX KY KZ ?_
   clear hb4 HB KX KY KZ
   intro HB KX KY KZ
   go_wp2_with fail
   refine (J.out _).mono ?_
   rintro e5 w5 ⟨rfl,hb5⟩
   refine up3 hb5 HB KX KY KZ ?_
   clear hb5 HB KX KY KZ
   intro HB KX KY KZ
   obtain ⟨yZ0,yZ1,yZz,yZf0,yZf1⟩:=blf2 KZ
   go_wp2
   replace KZ:=kst (kst KZ 0 (.int .i64 (hiW v))) 1 (.int .u64 (loW v))
   refine ot2 (st2 w5 (w.heap.size + 1 + 1) 0 (.int .i64 (hiW v)) 1 (.int .u64 (loW v))) HB KX KY (by omega) (by omega) (by omega) ?_
   clear HB KX KY
   intro HB KX KY
   clear yZ0 yZ1 yZz yZf0 yZf1
   generalize (w5.setCell _ _).setCell _ _ = w6 at *
   simp only [List.set] at KZ
   obtain ⟨yZ0,yZ1,yZz⟩:=blk2 KZ
   refine bodyPost_ret (v:=.tuple #[.agg #[.int .i64 (hiW v),.int .u64 (loW v)],.bool true]) (by simp [results,Tryz.results229,go_sem,yZ0,yZ1]) rfl ⟨rfl,HB.out⟩
 ·have gx:decide (hiW x < 0) = true:=by have:=hi_neg x; simp; omega
  have gr:(r == 0) = false:=by simpa using hr
  have gr':(r != 0) = true:=by simpa using hr
  have gd:decide (d < r) = false:=by simp; omega
  have gs:IntKind.u64.wrap (d - r) = d - r:=by rw [IntKind.wrap_u64]; omega
  have gc:decide (d - r < r) = false:=by simp; omega
  have ge:(r == d - r) = true:=by simp; omega
  have ge':(d - r == r) = true:=by simp; omega
  have n1:(hiW q != 0) = true:=by simpa using hnz
  have J:=Lib.hid fun w=>rsigned_any q true w (by omega) (by omega)
  rw [← hv] at J
  unfold wv at J ⊢
  clear hv
  clear h0 h1 hr0 hr1 hd1 hx hr hnz hc
  have SG:=Lib.hid h.sg
  have SX:=Lib.hid h.sx
  have SY:=Lib.hid h.sy
  have DV:=Lib.hid h.dv
  clear h
  obtain ⟨KX,KY,KZ,HB⟩:=ent3 w #[.int .i64 (hiW x),.int .u64 (loW x)] 112 #[.int .i64 0,.int .u64 d] 112 #[.int .i64 0,.int .u64 0] 112
  go_enter Tryz.func229,Tryz.ntmps229
  go_wp2_with fail
  generalize ((w.alloc _).alloc _).alloc _ = w0 at *
  refine (SG.out _).mono ?_
  rintro e1 w1 ⟨rfl,hb1⟩
  refine up3 hb1 HB KX KY KZ ?_
  clear hb1 HB KX KY KZ
  intro HB KX KY KZ
  obtain ⟨yX0,yX1,yXz⟩:=blk2 KX
  obtain ⟨yY0,yY1,yYz⟩:=blk2 KY
  go_wp2_with fail
  refine (SX.out _).mono ?_
  rintro e2 w2 ⟨rfl,hb2⟩
  refine up3 hb2 HB KX KY KZ ?_
  clear hb2 yX0 yX1 yXz yY0 yY1 yYz HB KX KY KZ
  intro HB KX KY KZ
  obtain ⟨yY0,yY1,yYz⟩:=blk2 KY
  go_wp2_with fail
  refine (SY.out _).mono ?_
  rintro e3 w3 ⟨rfl,hb3⟩
  refine up3 hb3 HB KX KY KZ ?_
  clear hb3 yY0 yY1 yYz HB KX KY KZ
  intro HB KX KY KZ
  go_wp2_with fail
  refine (DV.out _).mono ?_
  rintro e4 w4 ⟨rfl,hb4⟩
  refine up3 hb4 HB KX KY KZ ?_
  clear hb4 HB KX KY KZ
  intro HB KX KY KZ
  go_wp2_with fail
  refine (J.out _).mono ?_
  rintro e5 w5 ⟨rfl,hb5⟩
  refine up3 hb5 HB KX KY KZ ?_
  clear hb5 HB KX KY KZ
  intro HB KX KY KZ
  obtain ⟨yZ0,yZ1,yZz,yZf0,yZf1⟩:=blf2 KZ
  go_wp2
  replace KZ:=kst (kst KZ 0 (.int .i64 (hiW v))) 1 (.int .u64 (loW v))
  refine ot2 (st2 w5 (w.heap.size + 1 + 1) 0 (.int .i64 (hiW v)) 1 (.int .u64 (loW v))) HB KX KY (by omega) (by omega) (by omega) ?_
  clear HB KX KY
  intro HB KX KY
  clear yZ0 yZ1 yZz yZf0 yZf1
  generalize (w5.setCell _ _).setCell _ _ = w6 at *
  simp only [List.set] at KZ
  obtain ⟨yZ0,yZ1,yZz⟩:=blk2 KZ
  refine bodyPost_ret (v:=.tuple #[.agg #[.int .i64 (hiW v),.int .u64 (loW v)],.bool true]) (by simp [results,Tryz.results229,go_sem,yZ0,yZ1]) rfl ⟨rfl,HB.out⟩
theorem quo_nearN1gt (x d q r v:Int) (w:World) (h:QuoW x d q r) (hx:x < 0) (h0:0≤q) (h1:q < 85070591730234615865843651857942052864) (hr:¬ r = 0) (hr0:0≤r) (hr1:r < d) (hd1:d < 9223372036854775808) (hc:d - r < r) (hv:v = sgn true (q + 1)) :
 Calls Tryz.prog 229 #[wv x,.agg #[.int .i64 0,.int .u64 d],.int .i64 2] w fun e w'=>e = .returned (.tuple #[wv v,.bool true])∧Below w.heap.size w w':=by
 by_cases hcy:loW (q + 1) = 0
 ·have hnz:¬ hiW (q + 1) = 0:=by unfold hiW loW at *; omega
  have gx:decide (hiW x < 0) = true:=by have:=hi_neg x; simp; omega
  have gr:(r == 0) = false:=by simpa using hr
  have gr':(r != 0) = true:=by simpa using hr
  have gd:decide (d < r) = false:=by simp; omega
  have gs:IntKind.u64.wrap (d - r) = d - r:=by rw [IntKind.wrap_u64]; omega
  have gc:decide (d - r < r) = true:=by simp; omega
  have ge:(r == d - r) = false:=by simp; omega
  have ge':(d - r == r) = false:=by simp; omega
  have qs:IntKind.u64.wrap (loW q + 1) = loW (q + 1):=by rw [IntKind.wrap_u64]; unfold loW; omega
  have qc:(loW (q + 1) == 0) = true:=by simpa using hcy
  have qh:IntKind.u64.wrap (hiW q + 1) = hiW (q + 1):=by rw [IntKind.wrap_u64]; unfold hiW loW at *; omega
  have n1:(hiW (q + 1) != 0) = true:=by simpa using hnz
  have J:=Lib.hid fun w=>rsigned_any (q + 1) true w (by omega) (by omega)
  rw [← hv] at J
  unfold wv at J ⊢
  clear hv
  generalize loW (q + 1) = ql at *
  clear h0 h1 hr0 hr1 hd1 hx hr hcy hnz hc
  have SG:=Lib.hid h.sg
  have SX:=Lib.hid h.sx
  have SY:=Lib.hid h.sy
  have DV:=Lib.hid h.dv
  clear h
  obtain ⟨KX,KY,KZ,HB⟩:=ent3 w #[.int .i64 (hiW x),.int .u64 (loW x)] 112 #[.int .i64 0,.int .u64 d] 112 #[.int .i64 0,.int .u64 0] 112
  go_enter Tryz.func229,Tryz.ntmps229
  go_wp2_with fail
  generalize ((w.alloc _).alloc _).alloc _ = w0 at *
  refine (SG.out _).mono ?_
  rintro e1 w1 ⟨rfl,hb1⟩
  refine up3 hb1 HB KX KY KZ ?_
  clear hb1 HB KX KY KZ
  intro HB KX KY KZ
  obtain ⟨yX0,yX1,yXz⟩:=blk2 KX
  obtain ⟨yY0,yY1,yYz⟩:=blk2 KY
  go_wp2_with fail
  refine (SX.out _).mono ?_
  rintro e2 w2 ⟨rfl,hb2⟩
  refine up3 hb2 HB KX KY KZ ?_
  clear hb2 yX0 yX1 yXz yY0 yY1 yYz HB KX KY KZ
  intro HB KX KY KZ
  obtain ⟨yY0,yY1,yYz⟩:=blk2 KY
  go_wp2_with fail
  refine (SY.out _).mono ?_
  rintro e3 w3 ⟨rfl,hb3⟩
  refine up3 hb3 HB KX KY KZ ?_
  clear hb3 yY0 yY1 yYz HB KX KY KZ
  intro HB KX KY KZ
  go_wp2_with fail
  refine (DV.out _).mono ?_
  rintro e4 w4 ⟨rfl,hb4⟩
  refine up3 hb4 HB KX KY KZ ?_
  clear hb4 HB KX KY KZ
  intro HB KX KY KZ
  go_wp2_with fail
  refine (J.out _).mono ?_
  rintro e5 w5 ⟨rfl,hb5⟩
  refine up3 hb5 HB KX KY KZ ?_
  clear hb5 HB KX KY KZ
  intro HB KX KY KZ
  obtain ⟨yZ0,yZ1,yZz,yZf0,yZf1⟩:=blf2 KZ
  go_wp2
  replace KZ:=kst (kst KZ 0 (.int .i64 (hiW v))) 1 (.int .u64 (loW v))
  refine ot2 (st2 w5 (w.heap.size + 1 + 1) 0 (.int .i64 (hiW v)) 1 (.int .u64 (loW v))) HB KX KY (by omega) (by omega) (by omega) ?_
  clear HB KX KY
  intro HB KX KY
  clear yZ0 yZ1 yZz yZf0 yZf1
  generalize (w5.setCell _ _).setCell _ _ = w6 at *
  simp only [List.set] at KZ
  obtain ⟨yZ0,yZ1,yZz⟩:=blk2 KZ
  refine bodyPost_ret (v:=.tuple #[.agg #[.int .i64 (hiW v),.int .u64 (loW v)],.bool true]) (by simp [results,Tryz.results229,go_sem,yZ0,yZ1]) rfl ⟨rfl,HB.out⟩
 ·have hnl:¬ loW (q + 1) = 0:=hcy
  by_cases hnz:hiW (q + 1) = 0
  ·have gx:decide (hiW x < 0) = true:=by have:=hi_neg x; simp; omega
   have gr:(r == 0) = false:=by simpa using hr
   have gr':(r != 0) = true:=by simpa using hr
   have gd:decide (d < r) = false:=by simp; omega
   have gs:IntKind.u64.wrap (d - r) = d - r:=by rw [IntKind.wrap_u64]; omega
   have gc:decide (d - r < r) = true:=by simp; omega
   have ge:(r == d - r) = false:=by simp; omega
   have ge':(d - r == r) = false:=by simp; omega
   have qs:IntKind.u64.wrap (loW q + 1) = loW (q + 1):=by rw [IntKind.wrap_u64]; unfold loW; omega
   have qc:(loW (q + 1) == 0) = false:=by simpa using hcy
   have qh:hiW q = hiW (q + 1):=by unfold hiW loW at *; omega
   have n1:(hiW (q + 1) != 0) = false:=by simpa using hnz
   have n2:(loW (q + 1) != 0) = true:=by simpa using hnl
   have J:=Lib.hid fun w=>rsigned_any (q + 1) true w (by omega) (by omega)
   rw [← hv] at J
   unfold wv at J ⊢
   clear hv
   rw [← qh] at J n1
   clear qh
   generalize loW (q + 1) = ql at *
   clear h0 h1 hr0 hr1 hd1 hx hr hcy hnz hnl hc
   have SG:=Lib.hid h.sg
   have SX:=Lib.hid h.sx
   have SY:=Lib.hid h.sy
   have DV:=Lib.hid h.dv
   clear h
   obtain ⟨KX,KY,KZ,HB⟩:=ent3 w #[.int .i64 (hiW x),.int .u64 (loW x)] 112 #[.int .i64 0,.int .u64 d] 112 #[.int .i64 0,.int .u64 0] 112
   go_enter Tryz.func229,Tryz.ntmps229
   go_wp2_with fail
   generalize ((w.alloc _).alloc _).alloc _ = w0 at *
   refine (SG.out _).mono ?_
   rintro e1 w1 ⟨rfl,hb1⟩
   refine up3 hb1 HB KX KY KZ ?_
   clear hb1 HB KX KY KZ
   intro HB KX KY KZ
   obtain ⟨yX0,yX1,yXz⟩:=blk2 KX
   obtain ⟨yY0,yY1,yYz⟩:=blk2 KY
   go_wp2_with fail
   refine (SX.out _).mono ?_
   rintro e2 w2 ⟨rfl,hb2⟩
   refine up3 hb2 HB KX KY KZ ?_
   clear hb2 yX0 yX1 yXz yY0 yY1 yYz HB KX KY KZ
   intro HB KX KY KZ
   obtain ⟨yY0,yY1,yYz⟩:=blk2 KY
   go_wp2_with fail
   refine (SY.out _).mono ?_
   rintro e3 w3 ⟨rfl,hb3⟩
   refine up3 hb3 HB KX KY KZ ?_
   clear hb3 yY0 yY1 yYz HB KX KY KZ
   intro HB KX KY KZ
   go_wp2_with fail
   refine (DV.out _).mono ?_
   rintro e4 w4 ⟨rfl,hb4⟩
   refine up3 hb4 HB KX KY KZ ?_
   clear hb4 HB KX KY KZ
   intro HB KX KY KZ
   go_wp2_with fail
   refine (J.out _).mono ?_
   rintro e5 w5 ⟨rfl,hb5⟩
   refine up3 hb5 HB KX KY KZ ?_
   clear hb5 HB KX KY KZ
   intro HB KX KY KZ
   obtain ⟨yZ0,yZ1,yZz,yZf0,yZf1⟩:=blf2 KZ
   go_wp2
   replace KZ:=kst (kst KZ 0 (.int .i64 (hiW v))) 1 (.int .u64 (loW v))
   refine ot2 (st2 w5 (w.heap.size + 1 + 1) 0 (.int .i64 (hiW v)) 1 (.int .u64 (loW v))) HB KX KY (by omega) (by omega) (by omega) ?_
   clear HB KX KY
   intro HB KX KY
   clear yZ0 yZ1 yZz yZf0 yZf1
   generalize (w5.setCell _ _).setCell _ _ = w6 at *
   simp only [List.set] at KZ
   obtain ⟨yZ0,yZ1,yZz⟩:=blk2 KZ
   refine bodyPost_ret (v:=.tuple #[.agg #[.int .i64 (hiW v),.int .u64 (loW v)],.bool true]) (by simp [results,Tryz.results229,go_sem,yZ0,yZ1]) rfl ⟨rfl,HB.out⟩
  ·have gx:decide (hiW x < 0) = true:=by have:=hi_neg x; simp; omega
   have gr:(r == 0) = false:=by simpa using hr
   have gr':(r != 0) = true:=by simpa using hr
   have gd:decide (d < r) = false:=by simp; omega
   have gs:IntKind.u64.wrap (d - r) = d - r:=by rw [IntKind.wrap_u64]; omega
   have gc:decide (d - r < r) = true:=by simp; omega
   have ge:(r == d - r) = false:=by simp; omega
   have ge':(d - r == r) = false:=by simp; omega
   have qs:IntKind.u64.wrap (loW q + 1) = loW (q + 1):=by rw [IntKind.wrap_u64]; unfold loW; omega
   have qc:(loW (q + 1) == 0) = false:=by simpa using hcy
   have qh:hiW q = hiW (q + 1):=by unfold hiW loW at *; omega
   have n1:(hiW (q + 1) != 0) = true:=by simpa using hnz
   have J:=Lib.hid fun w=>rsigned_any (q + 1) true w (by omega) (by omega)
   rw [← hv] at J
   unfold wv at J ⊢
   clear hv
   rw [← qh] at J n1
   clear qh
   generalize loW (q + 1) = ql at *
   clear h0 h1 hr0 hr1 hd1 hx hr hcy hnz hnl hc
   have SG:=Lib.hid h.sg
   have SX:=Lib.hid h.sx
   have SY:=Lib.hid h.sy
   have DV:=Lib.hid h.dv
   clear h
   obtain ⟨KX,KY,KZ,HB⟩:=ent3 w #[.int .i64 (hiW x),.int .u64 (loW x)] 112 #[.int .i64 0,.int .u64 d] 112 #[.int .i64 0,.int .u64 0] 112
   go_enter Tryz.func229,Tryz.ntmps229
   go_wp2_with fail
   generalize ((w.alloc _).alloc _).alloc _ = w0 at *
   refine (SG.out _).mono ?_
   rintro e1 w1 ⟨rfl,hb1⟩
   refine up3 hb1 HB KX KY KZ ?_
   clear hb1 HB KX KY KZ
   intro HB KX KY KZ
   obtain ⟨yX0,yX1,yXz⟩:=blk2 KX
   obtain ⟨yY0,yY1,yYz⟩:=blk2 KY
   go_wp2_with fail
   refine (SX.out _).mono ?_
   rintro e2 w2 ⟨rfl,hb2⟩
   refine up3 hb2 HB KX KY KZ ?_
   clear hb2 yX0 yX1 yXz yY0 yY1 yYz HB KX KY KZ
   intro HB KX KY KZ
   obtain ⟨yY0,yY1,yYz⟩:=blk2 KY
   go_wp2_with fail
   refine (SY.out _).mono ?_
   rintro e3 w3 ⟨rfl,hb3⟩
   refine up3 hb3 HB KX KY KZ ?_
   clear hb3 yY0 yY1 yYz HB KX KY KZ
   intro HB KX KY KZ
   go_wp2_with fail
   refine (DV.out _).mono ?_
   rintro e4 w4 ⟨rfl,hb4⟩
   refine up3 hb4 HB KX KY KZ ?_
   clear hb4 HB KX KY KZ
   intro HB KX KY KZ
   go_wp2_with fail
   refine (J.out _).mono ?_
   rintro e5 w5 ⟨rfl,hb5⟩
   refine up3 hb5 HB KX KY KZ ?_
   clear hb5 HB KX KY KZ
   intro HB KX KY KZ
   obtain ⟨yZ0,yZ1,yZz,yZf0,yZf1⟩:=blf2 KZ
   go_wp2
   replace KZ:=kst (kst KZ 0 (.int .i64 (hiW v))) 1 (.int .u64 (loW v))
   refine ot2 (st2 w5 (w.heap.size + 1 + 1) 0 (.int .i64 (hiW v)) 1 (.int .u64 (loW v))) HB KX KY (by omega) (by omega) (by omega) ?_
   clear HB KX KY
   intro HB KX KY
   clear yZ0 yZ1 yZz yZf0 yZf1
   generalize (w5.setCell _ _).setCell _ _ = w6 at *
   simp only [List.set] at KZ
   obtain ⟨yZ0,yZ1,yZz⟩:=blk2 KZ
   refine bodyPost_ret (v:=.tuple #[.agg #[.int .i64 (hiW v),.int .u64 (loW v)],.bool true]) (by simp [results,Tryz.results229,go_sem,yZ0,yZ1]) rfl ⟨rfl,HB.out⟩
end Go.Proofs.YtajmjkliblippaaGreatDoor
namespace Go.Proofs.YtajmjkliblippaaGreatDoor
open Go.RowKit
theorem quo_parts {x d:Int} (hx0:-85070591730234615865843651857942052864 < x) (hx:x < 85070591730234615865843651857942052864) (hd:0 < d) :
 0≤absW x / d∧absW x / d < 85070591730234615865843651857942052864∧0≤absW x % d∧absW x % d < d:=by
 have ax0:=absW_nonneg x
 have ax1:absW x < 85070591730234615865843651857942052864:=by unfold absW; split <;> omega
 refine ⟨Int.ediv_nonneg ax0 (by omega),?_,Int.emod_nonneg _ (by omega),Int.emod_lt_of_pos _ hd⟩
 exact Int.lt_of_le_of_lt (Int.ediv_le_self _ ax0) ax1
theorem rquo_up (x d:Int) (w:World) (hx0:0≤x) (hx:x < 85070591730234615865843651857942052864) (hd:0 < d) (hd1:d < 9223372036854775808) :
 Calls Tryz.prog 229 #[wv x,.agg #[.int .i64 0,.int .u64 d],.int .i64 1] w fun e w'=>e = .returned (.tuple #[wv (ceilI x d),.bool true])∧Below w.heap.size w w':=by
 have W:=quo_world (x:=x) (d:=d) (q:=absW x / d) (r:=absW x % d) (by omega) hx hd hd1 rfl rfl
 obtain ⟨p0,p1,p2,p3⟩:=quo_parts (x:=x) (by omega) hx hd
 have ea:absW x = x:=by unfold absW; rw [if_neg (by omega)]
 have U:=up_pos (x:=x) hd
 rw [ea] at W p0 p1 p2 p3
 by_cases hr:x % d = 0
 ·exact quo_upP0lt x d _ _ _ w W hx0 p0 p1 hr p2 p3 hd1 (by rw [U,if_neg (by omega)]; unfold sgn; simp)
 ·exact quo_upP1lt x d _ _ _ w W hx0 p0 p1 hr p2 p3 hd1 (by rw [U,if_pos hr]; unfold sgn; simp)
theorem rquo_near (x d:Int) (w:World) (hx0:-85070591730234615865843651857942052864 < x) (hx:x < 85070591730234615865843651857942052864) (hd:0 < d) (hd1:d < 9223372036854775808) :
 Calls Tryz.prog 229 #[wv x,.agg #[.int .i64 0,.int .u64 d],.int .i64 2] w fun e w'=>e = .returned (.tuple #[wv (nearI2 x d),.bool true])∧Below w.heap.size w w':=by
 have W:=quo_world (x:=x) (d:=d) (q:=absW x / d) (r:=absW x % d) hx0 hx hd hd1 rfl rfl
 obtain ⟨p0,p1,p2,p3⟩:=quo_parts (x:=x) hx0 hx hd
 by_cases hn:x < 0
 ·have U:=near_negW (x:=x) hd
  have ea:absW x = -x:=by unfold absW; rw [if_pos hn]
  rw [ea] at W p0 p1 p2 p3
  generalize (-x) / d = q at *
  generalize (-x) % d = r at *
  by_cases hr:r = 0
  ·exact quo_nearN0lt x d _ _ _ w W hn p0 p1 hr p2 p3 hd1 (by omega) (by rw [U,if_neg (by omega)]; unfold sgn; simp)
  ·rcases Int.lt_trichotomy r (d - r) with h | h | h
   ·exact quo_nearN1lt x d _ _ _ w W hn p0 p1 hr p2 p3 hd1 h (by rw [U,if_neg (by omega)]; unfold sgn; simp)
   ·exact quo_nearN1eq x d _ _ _ w W hn p0 p1 hr p2 p3 hd1 h (by rw [U,if_neg (by omega)]; unfold sgn; simp)
   ·exact quo_nearN1gt x d _ _ _ w W hn p0 p1 hr p2 p3 hd1 h (by rw [U,if_pos (by omega)]; unfold sgn; simp)
 ·have U:=near_posW (x:=x) hd
  have ea:absW x = x:=by unfold absW; rw [if_neg hn]
  have hp:0≤x:=by omega
  rw [ea] at W p0 p1 p2 p3
  generalize x / d = q at *
  generalize x % d = r at *
  by_cases hr:r = 0
  ·exact quo_nearP0lt x d _ _ _ w W hp p0 p1 hr p2 p3 hd1 (by omega) (by rw [U,if_neg (by omega)]; unfold sgn; simp)
  ·rcases Int.lt_trichotomy r (d - r) with h | h | h
   ·exact quo_nearP1lt x d _ _ _ w W hp p0 p1 hr p2 p3 hd1 h (by rw [U,if_neg (by omega)]; unfold sgn; simp)
   ·exact quo_nearP1eq x d _ _ _ w W hp p0 p1 hr p2 p3 hd1 h (by rw [U,if_pos (by omega)]; unfold sgn; simp)
   ·exact quo_nearP1gt x d _ _ _ w W hp p0 p1 hr p2 p3 hd1 h (by rw [U,if_pos (by omega)]; unfold sgn; simp)
set_option maxHeartbeats 8000000
set_option maxRecDepth 100000
theorem rdivup_any (x d:Int) (w:World) (hx0:0≤x) (hx:x < 85070591730234615865843651857942052864) (hd:0 < d) (hd1:d < 9223372036854775808) :
 Calls Tryz.prog 199 #[wv x,wv d] w fun e w'=>e = .returned (.tuple #[wv (ceilI x d),.bool true])∧Below w.heap.size w w':=by
 have DV:=Lib.hid fun w=>rquo_up x d w hx0 hx hd hd1
 have ed:wv d = .agg #[.int .i64 0,.int .u64 d]:=by unfold wv; rw [(small_words (d:=d) (by omega) hd1).1,(small_words (d:=d) (by omega) hd1).2]
 rw [ed]
 generalize ceilI x d = v at *
 clear hx0 hx hd hd1 ed
 unfold wv at DV ⊢
 obtain ⟨KX,KY,KZ,HB⟩:=ent3 w #[.int .i64 (hiW x),.int .u64 (loW x)] 112 #[.int .i64 0,.int .u64 d] 112 #[.int .i64 0,.int .u64 0] 112
 go_enter Tryz.func199,Tryz.ntmps199
 go_wp2_with fail
 generalize ((w.alloc _).alloc _).alloc _ = w0 at *
 refine (DV.out _).mono ?_
 rintro e1 w1 ⟨rfl,hb1⟩
 refine up3 hb1 HB KX KY KZ ?_
 clear hb1 HB KX KY KZ
 intro HB KX KY KZ
 obtain ⟨yZ0,yZ1,yZz,yZf0,yZf1⟩:=blf2 KZ
 go_wp2
 replace KZ:=kst (kst KZ 0 (.int .i64 (hiW v))) 1 (.int .u64 (loW v))
 refine ot2 (st2 w1 (w.heap.size + 1 + 1) 0 (.int .i64 (hiW v)) 1 (.int .u64 (loW v))) HB KX KY (by omega) (by omega) (by omega) ?_
 clear HB KX KY
 intro HB KX KY
 clear yZ0 yZ1 yZz yZf0 yZf1
 generalize (w1.setCell _ _).setCell _ _ = w2 at *
 simp only [List.set] at KZ
 obtain ⟨yZ0,yZ1,yZz⟩:=blk2 KZ
 refine bodyPost_ret (v:=.tuple #[.agg #[.int .i64 (hiW v),.int .u64 (loW v)],.bool true]) (by simp [results,Tryz.results199,go_sem,yZ0,yZ1]) rfl ⟨rfl,HB.out⟩
theorem rnear_any (x d:Int) (w:World) (hx0:-85070591730234615865843651857942052864 < x) (hx:x < 85070591730234615865843651857942052864) (hd:0 < d) (hd1:d < 9223372036854775808) :
 Calls Tryz.prog 194 #[wv x,wv d] w fun e w'=>e = .returned (.tuple #[wv (nearI2 x d),.bool true])∧Below w.heap.size w w':=by
 have DV:=Lib.hid fun w=>rquo_near x d w hx0 hx hd hd1
 have ed:wv d = .agg #[.int .i64 0,.int .u64 d]:=by unfold wv; rw [(small_words (d:=d) (by omega) hd1).1,(small_words (d:=d) (by omega) hd1).2]
 rw [ed]
 generalize nearI2 x d = v at *
 clear hx0 hx hd hd1 ed
 unfold wv at DV ⊢
 obtain ⟨KX,KY,KZ,HB⟩:=ent3 w #[.int .i64 (hiW x),.int .u64 (loW x)] 112 #[.int .i64 0,.int .u64 d] 112 #[.int .i64 0,.int .u64 0] 112
 go_enter Tryz.func194,Tryz.ntmps194
 go_wp2_with fail
 generalize ((w.alloc _).alloc _).alloc _ = w0 at *
 refine (DV.out _).mono ?_
 rintro e1 w1 ⟨rfl,hb1⟩
 refine up3 hb1 HB KX KY KZ ?_
 clear hb1 HB KX KY KZ
 intro HB KX KY KZ
 obtain ⟨yZ0,yZ1,yZz,yZf0,yZf1⟩:=blf2 KZ
 go_wp2
 replace KZ:=kst (kst KZ 0 (.int .i64 (hiW v))) 1 (.int .u64 (loW v))
 refine ot2 (st2 w1 (w.heap.size + 1 + 1) 0 (.int .i64 (hiW v)) 1 (.int .u64 (loW v))) HB KX KY (by omega) (by omega) (by omega) ?_
 clear HB KX KY
 intro HB KX KY
 clear yZ0 yZ1 yZz yZf0 yZf1
 generalize (w1.setCell _ _).setCell _ _ = w2 at *
 simp only [List.set] at KZ
 obtain ⟨yZ0,yZ1,yZz⟩:=blk2 KZ
 refine bodyPost_ret (v:=.tuple #[.agg #[.int .i64 (hiW v),.int .u64 (loW v)],.bool true]) (by simp [results,Tryz.results194,go_sem,yZ0,yZ1]) rfl ⟨rfl,HB.out⟩
end Go.Proofs.YtajmjkliblippaaGreatDoor
namespace Go.Proofs.YtajmjkliblippaaGreatDoor
open Go.RowKit
set_option maxHeartbeats 4000000
set_option maxRecDepth 100000
theorem rnear_int {x:Int} (w:World) (hf:FitW x):Calls Tryz.prog 196 #[wv x] w fun e w'=>e = .returned (.tuple #[.int .i64 (if I64 x then x else 0),.bool (decide (I64 x))])∧Below w.heap.size w w':=by
 obtain ⟨t,ht⟩:∃ t,IntKind.i64.wrap (loW x) = t:=⟨_,rfl⟩
 have tb:-9223372036854775808≤t∧t≤9223372036854775807:=by rw [← ht]; unfold loW; simp [IntKind.wrap,IntKind.bits,IntKind.signed]; omega
 have OF:=Lib.hid fun w=>rof_any t w tb.1 tb.2
 by_cases h:I64 x
 ·have e:t = x:=by obtain ⟨a,b⟩:=h; rw [← ht]; unfold loW; simp [IntKind.wrap,IntKind.bits,IntKind.signed]; omega
  rw [if_pos h,decide_eq_true h]
  rw [e] at OF ht
  unfold wv at *
  clear h hf tb e t
  obtain ⟨KX,HB⟩:=ent1 w #[.int .i64 (hiW x),.int .u64 (loW x)] 112
  go_enter Tryz.func196,Tryz.ntmps196
  go_wp2_with fail
  generalize w.alloc _ = w0 at *
  have gX_0:=fun d os=>cell_regrown (KX.out.c 0 _ rfl) d os
  have gX_1:=fun d os=>cell_regrown (KX.out.c 1 _ rfl) d os
  have rv0:=Lib.hid (fun d os=>Calls.regrown_of (OF.out (Go.Sort.grow (redrawn w0 d) os)))
  refine wp_region_quiet_below (by kernel_rfl) (by kernel_rfl) ?_
  repeat (quiet_step (first | with_reducible exact rv0.out _ _))
  refine wpQuiet_nil ?_
  intro w1 hw1
  have hb1:Below w0.heap.size w0 w1:=by
   obtain ⟨⟨dq,osq⟩,hw2⟩:=hw1
   rw [hw2]; exact below_regrown _ dq osq
  clear gX_0 gX_1 rv0 hw1
  replace HB:=hT HB hb1
  replace KX:=hK KX hb1
  clear hb1
  obtain ⟨yX0,yX1,yXz⟩:=blk2 KX
  go_wp2
  go_ret2
  exact ⟨rfl,HB.out⟩
 ·have g:(hiW t == hiW x) = false:=by
   obtain ⟨f0,f1⟩:=hf
   have:x < -9223372036854775808∨9223372036854775807 < x:=by
    rcases Int.lt_or_le x (-9223372036854775808) with a | a
    ·exact .inl a
    ·rcases Int.lt_or_le 9223372036854775807 x with b | b
     ·exact .inr b
     ·exact absurd ⟨a,b⟩ h
   have tt:(loW x < 9223372036854775808∧t = loW x)∨(9223372036854775808≤loW x∧t = loW x - 18446744073709551616):=by
    obtain ⟨l0,l1⟩:=lo_rng x
    rw [← ht]
    simp [IntKind.wrap,IntKind.bits,IntKind.signed]
    omega
   simp
   unfold hiW loW at *
   omega
  have g':¬ hiW t = hiW x:=by simpa using g
  rw [if_neg h,decide_eq_false h]
  unfold wv at *
  clear h hf tb
  obtain ⟨KX,HB⟩:=ent1 w #[.int .i64 (hiW x),.int .u64 (loW x)] 112
  go_enter Tryz.func196,Tryz.ntmps196
  go_wp2_with fail
  generalize w.alloc _ = w0 at *
  have gX_0:=fun d os=>cell_regrown (KX.out.c 0 _ rfl) d os
  have gX_1:=fun d os=>cell_regrown (KX.out.c 1 _ rfl) d os
  have rv0:=Lib.hid (fun d os=>Calls.regrown_of (OF.out (Go.Sort.grow (redrawn w0 d) os)))
  refine wp_region_quiet_below (by kernel_rfl) (by kernel_rfl) ?_
  repeat (quiet_step (first | with_reducible exact rv0.out _ _))
  refine wpQuiet_nil ?_
  intro w1 hw1
  have hb1:Below w0.heap.size w0 w1:=by
   obtain ⟨⟨dq,osq⟩,hw2⟩:=hw1
   rw [hw2]; exact below_regrown _ dq osq
  clear gX_0 gX_1 rv0 hw1
  replace HB:=hT HB hb1
  replace KX:=hK KX hb1
  clear hb1
  obtain ⟨yX0,yX1,yXz⟩:=blk2 KX
  go_wp2
  go_ret2
  exact ⟨rfl,HB.out⟩
end Go.Proofs.YtajmjkliblippaaGreatDoor
