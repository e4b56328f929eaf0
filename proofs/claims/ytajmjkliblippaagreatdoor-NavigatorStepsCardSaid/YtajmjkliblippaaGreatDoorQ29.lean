/-
  Walks and laws of the layers below, gathered from several texts.
-/
import Derived.Test.YtajmjkliblippaaGreatDoorQ20
import Derived.Test.YtajmjkliblippaaGreatDoorQ25
import Derived.Test.YtajmjkliblippaaGreatDoorQ26
set_option linter.unusedVariables false
namespace Go.Proofs.YtajmjkliblippaaGreatDoor
open Go.RowKit
set_option maxHeartbeats 40000000
set_option maxRecDepth 100000
theorem step_badR (b:Bx4) (t m tick ve vn dr rq:Int) (L:List Rp) (v:Value) (w:World) (h:RlG L v w) (hl:L.length≤9223372036854775807) (he:stpE2 b t m tick ve vn dr rq L.length≠0) :
 Calls Tryz.prog 17 #[.agg #[.int .i64 b.cx,.int .i64 b.cy,.int .i64 b.x,.int .i64 b.y,.int .i64 t,.int .i64 m],.agg #[.int .i64 tick,v,.int .i64 ve,.int .i64 vn,.int .i64 dr,.int .i64 rq]] w fun e w'=>e = .returned (.tuple #[.agg #[.int .i64 0,.int .i64 0,.int .i64 0,.int .i64 0,.int .i64 0,.int .i64 0],.agg #[.int .i64 0,.int .i64 0,.int .i64 0,.int .i64 0,.bool false,.int .i64 0],.int .i64 (stpE2 b t m tick ve vn dr rq L.length)])∧Below w.heap.size w w':=by
 obtain ⟨p,cap,rfl⟩:=rg_form h
 clear h
 have CK0:=fun w=>ncheck_any b t m w
 have EV0:stpE2 b t m tick ve vn dr rq L.length = if chkS b t m≠0 then chkS b t m else if tick≤t then 16 else if 1099511627776 < tick∨rq < 0∨2000000 < rq then 2 else if 8 < L.length then 3 else (cstF b ve vn dr (tick - t)).2:=rfl
 have CO0:=fun w=>coast_any b ve vn dr (tick - t) w
 have CB:=cst_bad (b:=b) (ve:=ve) (vn:=vn) (dr:=dr) (tk:=tick - t)
 have CS:=chkS_ok (b:=b) (t:=t) (m:=m)
 generalize stpE2 b t m tick ve vn dr rq L.length = q at *
 generalize L.length = n at *
 by_cases hc:chkS b t m = 0
 ·obtain ⟨_,⟨c0,c1⟩,_,_⟩:=CS hc
  clear CS
  rw [if_neg (by omega)] at EV0
  rw [hc] at CK0
  have CK:=Lib.hid CK0
  clear CK0 hc
  by_cases h0:tick≤t
  ·have g0:decide (tick≤t) = true:=by simpa using h0
   have EV:=Lib.hid (EV0.trans (if_pos h0))
   clear EV0 h0 CO0 CB he c0 c1
   obtain ⟨cx,cy,x,y⟩:=b
   simp only at CK
   obtain ⟨KS,KI,KA,KE,KC,HB⟩:=ent5 w #[.int .i64 cx,.int .i64 cy,.int .i64 x,.int .i64 y,.int .i64 t,.int .i64 m] 27 #[.int .i64 tick,.slice p n cap,.int .i64 ve,.int .i64 vn,.int .i64 dr,.int .i64 rq] 38 #[.int .i64 0,.int .i64 0,.int .i64 0,.int .i64 0,.int .i64 0,.int .i64 0] 27 #[.int .i64 0,.int .i64 0,.int .i64 0,.int .i64 0,.bool false,.int .i64 0] 41 #[.int .i64 0,.int .i64 0,.int .i64 0,.int .i64 0] 25
   go_enter Tryz.func17,Tryz.ntmps17
   go_wp2_with fail
   generalize ((((w.alloc _).alloc _).alloc _).alloc _).alloc _ = w0 at *
   refine (CK.out _).mono ?_
   rintro e1 w1 ⟨rfl,hb1⟩
   refine up5 hb1 HB KS KI KA KE KC ?_
   clear hb1 HB KS KI KA KE KC
   intro HB KS KI KA KE KC
   obtain ⟨yS0,yS1,yS2,yS3,yS4,yS5,ySz⟩:=blk6 KS
   obtain ⟨yI0,yI1,yI2,yI3,yI4,yI5,yIz⟩:=blk6 KI
   obtain ⟨yA0,yA1,yA2,yA3,yA4,yA5,yAz,yAf0,yAf1,yAf2,yAf3,yAf4,yAf5⟩:=blf6 KA
   obtain ⟨yE0,yE1,yE2,yE3,yE4,yE5,yEz,yEf0,yEf1,yEf2,yEf3,yEf4,yEf5⟩:=blf6 KE
   go_wp2
   replace KA:=kst (kst (kst (kst (kst (kst KA 0 (.int .i64 0)) 1 (.int .i64 0)) 2 (.int .i64 0)) 3 (.int .i64 0)) 4 (.int .i64 0)) 5 (.int .i64 0)
   refine ot4 (st6 w1 (w.heap.size + 1 + 1) 0 (.int .i64 0) 1 (.int .i64 0) 2 (.int .i64 0) 3 (.int .i64 0) 4 (.int .i64 0) 5 (.int .i64 0)) HB KS KI KE KC (by omega) (by omega) (by omega) (by omega) (by omega) ?_
   clear HB KS KI KE KC
   intro HB KS KI KE KC
   clear yS0 yS1 yS2 yS3 yS4 yS5 ySz yI0 yI1 yI2 yI3 yI4 yI5 yIz yA0 yA1 yA2 yA3 yA4 yA5 yAz yAf0 yAf1 yAf2 yAf3 yAf4 yAf5 yE0 yE1 yE2 yE3 yE4 yE5 yEz yEf0 yEf1 yEf2 yEf3 yEf4 yEf5
   simp only [List.set] at KA
   replace KE:=kst (kst (kst (kst (kst (kst KE 0 (.int .i64 0)) 1 (.int .i64 0)) 2 (.int .i64 0)) 3 (.int .i64 0)) 4 (.bool false)) 5 (.int .i64 0)
   refine ot4 (st6 ((((((w1.setCell ⟨(w.heap.size + 1 + 1),0,none⟩ (.int .i64 0)).setCell ⟨(w.heap.size + 1 + 1),1,none⟩ (.int .i64 0)).setCell ⟨(w.heap.size + 1 + 1),2,none⟩ (.int .i64 0)).setCell ⟨(w.heap.size + 1 + 1),3,none⟩ (.int .i64 0)).setCell ⟨(w.heap.size + 1 + 1),4,none⟩ (.int .i64 0)).setCell ⟨(w.heap.size + 1 + 1),5,none⟩ (.int .i64 0)) (w.heap.size + 1 + 1 + 1) 0 (.int .i64 0) 1 (.int .i64 0) 2 (.int .i64 0) 3 (.int .i64 0) 4 (.bool false) 5 (.int .i64 0)) HB KS KI KA KC (by omega) (by omega) (by omega) (by omega) (by omega) ?_
   clear HB KS KI KA KC
   intro HB KS KI KA KC
   generalize (((((((((((w1.setCell _ _).setCell _ _).setCell _ _).setCell _ _).setCell _ _).setCell _ _).setCell _ _).setCell _ _).setCell _ _).setCell _ _).setCell _ _).setCell _ _ = w3 at *
   simp only [List.set] at KE
   obtain ⟨yA0,yA1,yA2,yA3,yA4,yA5,yAz⟩:=blk6 KA
   obtain ⟨yE0,yE1,yE2,yE3,yE4,yE5,yEz⟩:=blk6 KE
   refine bodyPost_ret (v:=.tuple #[.agg #[.int .i64 0,.int .i64 0,.int .i64 0,.int .i64 0,.int .i64 0,.int .i64 0],.agg #[.int .i64 0,.int .i64 0,.int .i64 0,.int .i64 0,.bool false,.int .i64 0],.int .i64 16]) (by simp [results,Tryz.results17,go_sem,yA0,yA1,yA2,yA3,yA4,yA5,yE0,yE1,yE2,yE3,yE4,yE5]) rfl ⟨by rw [EV.out],HB.out⟩
  ·have g0:decide (tick≤t) = false:=by simpa using h0
   rw [if_neg h0] at EV0
   by_cases h1:1099511627776 < tick
   ·have g1:decide (1099511627776 < tick) = true:=by simpa using h1
    have EV:=Lib.hid (EV0.trans (if_pos (by omega)))
    clear EV0 h0 h1 CO0 CB he c0 c1
    obtain ⟨cx,cy,x,y⟩:=b
    simp only at CK
    obtain ⟨KS,KI,KA,KE,KC,HB⟩:=ent5 w #[.int .i64 cx,.int .i64 cy,.int .i64 x,.int .i64 y,.int .i64 t,.int .i64 m] 27 #[.int .i64 tick,.slice p n cap,.int .i64 ve,.int .i64 vn,.int .i64 dr,.int .i64 rq] 38 #[.int .i64 0,.int .i64 0,.int .i64 0,.int .i64 0,.int .i64 0,.int .i64 0] 27 #[.int .i64 0,.int .i64 0,.int .i64 0,.int .i64 0,.bool false,.int .i64 0] 41 #[.int .i64 0,.int .i64 0,.int .i64 0,.int .i64 0] 25
    go_enter Tryz.func17,Tryz.ntmps17
    go_wp2_with fail
    generalize ((((w.alloc _).alloc _).alloc _).alloc _).alloc _ = w0 at *
    refine (CK.out _).mono ?_
    rintro e1 w1 ⟨rfl,hb1⟩
    refine up5 hb1 HB KS KI KA KE KC ?_
    clear hb1 HB KS KI KA KE KC
    intro HB KS KI KA KE KC
    obtain ⟨yS0,yS1,yS2,yS3,yS4,yS5,ySz⟩:=blk6 KS
    obtain ⟨yI0,yI1,yI2,yI3,yI4,yI5,yIz⟩:=blk6 KI
    obtain ⟨yA0,yA1,yA2,yA3,yA4,yA5,yAz,yAf0,yAf1,yAf2,yAf3,yAf4,yAf5⟩:=blf6 KA
    obtain ⟨yE0,yE1,yE2,yE3,yE4,yE5,yEz,yEf0,yEf1,yEf2,yEf3,yEf4,yEf5⟩:=blf6 KE
    go_wp2
    replace KA:=kst (kst (kst (kst (kst (kst KA 0 (.int .i64 0)) 1 (.int .i64 0)) 2 (.int .i64 0)) 3 (.int .i64 0)) 4 (.int .i64 0)) 5 (.int .i64 0)
    refine ot4 (st6 w1 (w.heap.size + 1 + 1) 0 (.int .i64 0) 1 (.int .i64 0) 2 (.int .i64 0) 3 (.int .i64 0) 4 (.int .i64 0) 5 (.int .i64 0)) HB KS KI KE KC (by omega) (by omega) (by omega) (by omega) (by omega) ?_
    clear HB KS KI KE KC
    intro HB KS KI KE KC
    clear yS0 yS1 yS2 yS3 yS4 yS5 ySz yI0 yI1 yI2 yI3 yI4 yI5 yIz yA0 yA1 yA2 yA3 yA4 yA5 yAz yAf0 yAf1 yAf2 yAf3 yAf4 yAf5 yE0 yE1 yE2 yE3 yE4 yE5 yEz yEf0 yEf1 yEf2 yEf3 yEf4 yEf5
    simp only [List.set] at KA
    replace KE:=kst (kst (kst (kst (kst (kst KE 0 (.int .i64 0)) 1 (.int .i64 0)) 2 (.int .i64 0)) 3 (.int .i64 0)) 4 (.bool false)) 5 (.int .i64 0)
    refine ot4 (st6 ((((((w1.setCell ⟨(w.heap.size + 1 + 1),0,none⟩ (.int .i64 0)).setCell ⟨(w.heap.size + 1 + 1),1,none⟩ (.int .i64 0)).setCell ⟨(w.heap.size + 1 + 1),2,none⟩ (.int .i64 0)).setCell ⟨(w.heap.size + 1 + 1),3,none⟩ (.int .i64 0)).setCell ⟨(w.heap.size + 1 + 1),4,none⟩ (.int .i64 0)).setCell ⟨(w.heap.size + 1 + 1),5,none⟩ (.int .i64 0)) (w.heap.size + 1 + 1 + 1) 0 (.int .i64 0) 1 (.int .i64 0) 2 (.int .i64 0) 3 (.int .i64 0) 4 (.bool false) 5 (.int .i64 0)) HB KS KI KA KC (by omega) (by omega) (by omega) (by omega) (by omega) ?_
    clear HB KS KI KA KC
    intro HB KS KI KA KC
    generalize (((((((((((w1.setCell _ _).setCell _ _).setCell _ _).setCell _ _).setCell _ _).setCell _ _).setCell _ _).setCell _ _).setCell _ _).setCell _ _).setCell _ _).setCell _ _ = w3 at *
    simp only [List.set] at KE
    obtain ⟨yA0,yA1,yA2,yA3,yA4,yA5,yAz⟩:=blk6 KA
    obtain ⟨yE0,yE1,yE2,yE3,yE4,yE5,yEz⟩:=blk6 KE
    refine bodyPost_ret (v:=.tuple #[.agg #[.int .i64 0,.int .i64 0,.int .i64 0,.int .i64 0,.int .i64 0,.int .i64 0],.agg #[.int .i64 0,.int .i64 0,.int .i64 0,.int .i64 0,.bool false,.int .i64 0],.int .i64 2]) (by simp [results,Tryz.results17,go_sem,yA0,yA1,yA2,yA3,yA4,yA5,yE0,yE1,yE2,yE3,yE4,yE5]) rfl ⟨by rw [EV.out],HB.out⟩
   ·have g1:decide (1099511627776 < tick) = false:=by simpa using h1
    by_cases h2:rq < 0
    ·have g2:decide (rq < 0) = true:=by simpa using h2
     have EV:=Lib.hid (EV0.trans (if_pos (by omega)))
     clear EV0 h0 h1 h2 CO0 CB he c0 c1
     obtain ⟨cx,cy,x,y⟩:=b
     simp only at CK
     obtain ⟨KS,KI,KA,KE,KC,HB⟩:=ent5 w #[.int .i64 cx,.int .i64 cy,.int .i64 x,.int .i64 y,.int .i64 t,.int .i64 m] 27 #[.int .i64 tick,.slice p n cap,.int .i64 ve,.int .i64 vn,.int .i64 dr,.int .i64 rq] 38 #[.int .i64 0,.int .i64 0,.int .i64 0,.int .i64 0,.int .i64 0,.int .i64 0] 27 #[.int .i64 0,.int .i64 0,.int .i64 0,.int .i64 0,.bool false,.int .i64 0] 41 #[.int .i64 0,.int .i64 0,.int .i64 0,.int .i64 0] 25
     go_enter Tryz.func17,Tryz.ntmps17
     go_wp2_with fail
     generalize ((((w.alloc _).alloc _).alloc _).alloc _).alloc _ = w0 at *
     refine (CK.out _).mono ?_
     rintro e1 w1 ⟨rfl,hb1⟩
     refine up5 hb1 HB KS KI KA KE KC ?_
     clear hb1 HB KS KI KA KE KC
     intro HB KS KI KA KE KC
     obtain ⟨yS0,yS1,yS2,yS3,yS4,yS5,ySz⟩:=blk6 KS
     obtain ⟨yI0,yI1,yI2,yI3,yI4,yI5,yIz⟩:=blk6 KI
     obtain ⟨yA0,yA1,yA2,yA3,yA4,yA5,yAz,yAf0,yAf1,yAf2,yAf3,yAf4,yAf5⟩:=blf6 KA
     obtain ⟨yE0,yE1,yE2,yE3,yE4,yE5,yEz,yEf0,yEf1,yEf2,yEf3,yEf4,yEf5⟩:=blf6 KE
     go_wp2
     replace KA:=kst (kst (kst (kst (kst (kst KA 0 (.int .i64 0)) 1 (.int .i64 0)) 2 (.int .i64 0)) 3 (.int .i64 0)) 4 (.int .i64 0)) 5 (.int .i64 0)
     refine ot4 (st6 w1 (w.heap.size + 1 + 1) 0 (.int .i64 0) 1 (.int .i64 0) 2 (.int .i64 0) 3 (.int .i64 0) 4 (.int .i64 0) 5 (.int .i64 0)) HB KS KI KE KC (by omega) (by omega) (by omega) (by omega) (by omega) ?_
     clear HB KS KI KE KC
     intro HB KS KI KE KC
     clear yS0 yS1 yS2 yS3 yS4 yS5 ySz yI0 yI1 yI2 yI3 yI4 yI5 yIz yA0 yA1 yA2 yA3 yA4 yA5 yAz yAf0 yAf1 yAf2 yAf3 yAf4 yAf5 yE0 yE1 yE2 yE3 yE4 yE5 yEz yEf0 yEf1 yEf2 yEf3 yEf4 yEf5
     simp only [List.set] at KA
     replace KE:=kst (kst (kst (kst (kst (kst KE 0 (.int .i64 0)) 1 (.int .i64 0)) 2 (.int .i64 0)) 3 (.int .i64 0)) 4 (.bool false)) 5 (.int .i64 0)
     refine ot4 (st6 ((((((w1.setCell ⟨(w.heap.size + 1 + 1),0,none⟩ (.int .i64 0)).setCell ⟨(w.heap.size + 1 + 1),1,none⟩ (.int .i64 0)).setCell ⟨(w.heap.size + 1 + 1),2,none⟩ (.int .i64 0)).setCell ⟨(w.heap.size + 1 + 1),3,none⟩ (.int .i64 0)).setCell ⟨(w.heap.size + 1 + 1),4,none⟩ (.int .i64 0)).setCell ⟨(w.heap.size + 1 + 1),5,none⟩ (.int .i64 0)) (w.heap.size + 1 + 1 + 1) 0 (.int .i64 0) 1 (.int .i64 0) 2 (.int .i64 0) 3 (.int .i64 0) 4 (.bool false) 5 (.int .i64 0)) HB KS KI KA KC (by omega) (by omega) (by omega) (by omega) (by omega) ?_
     clear HB KS KI KA KC
     intro HB KS KI KA KC
     generalize (((((((((((w1.setCell _ _).setCell _ _).setCell _ _).setCell _ _).setCell _ _).setCell _ _).setCell _ _).setCell _ _).setCell _ _).setCell _ _).setCell _ _).setCell _ _ = w3 at *
     simp only [List.set] at KE
     obtain ⟨yA0,yA1,yA2,yA3,yA4,yA5,yAz⟩:=blk6 KA
     obtain ⟨yE0,yE1,yE2,yE3,yE4,yE5,yEz⟩:=blk6 KE
     refine bodyPost_ret (v:=.tuple #[.agg #[.int .i64 0,.int .i64 0,.int .i64 0,.int .i64 0,.int .i64 0,.int .i64 0],.agg #[.int .i64 0,.int .i64 0,.int .i64 0,.int .i64 0,.bool false,.int .i64 0],.int .i64 2]) (by simp [results,Tryz.results17,go_sem,yA0,yA1,yA2,yA3,yA4,yA5,yE0,yE1,yE2,yE3,yE4,yE5]) rfl ⟨by rw [EV.out],HB.out⟩
    ·have g2:decide (rq < 0) = false:=by simpa using h2
     by_cases h3:2000000 < rq
     ·have g3:decide (2000000 < rq) = true:=by simpa using h3
      have EV:=Lib.hid (EV0.trans (if_pos (by omega)))
      clear EV0 h0 h1 h2 h3 CO0 CB he c0 c1
      obtain ⟨cx,cy,x,y⟩:=b
      simp only at CK
      obtain ⟨KS,KI,KA,KE,KC,HB⟩:=ent5 w #[.int .i64 cx,.int .i64 cy,.int .i64 x,.int .i64 y,.int .i64 t,.int .i64 m] 27 #[.int .i64 tick,.slice p n cap,.int .i64 ve,.int .i64 vn,.int .i64 dr,.int .i64 rq] 38 #[.int .i64 0,.int .i64 0,.int .i64 0,.int .i64 0,.int .i64 0,.int .i64 0] 27 #[.int .i64 0,.int .i64 0,.int .i64 0,.int .i64 0,.bool false,.int .i64 0] 41 #[.int .i64 0,.int .i64 0,.int .i64 0,.int .i64 0] 25
      go_enter Tryz.func17,Tryz.ntmps17
      go_wp2_with fail
      generalize ((((w.alloc _).alloc _).alloc _).alloc _).alloc _ = w0 at *
      refine (CK.out _).mono ?_
      rintro e1 w1 ⟨rfl,hb1⟩
      refine up5 hb1 HB KS KI KA KE KC ?_
      clear hb1 HB KS KI KA KE KC
      intro HB KS KI KA KE KC
      obtain ⟨yS0,yS1,yS2,yS3,yS4,yS5,ySz⟩:=blk6 KS
      obtain ⟨yI0,yI1,yI2,yI3,yI4,yI5,yIz⟩:=blk6 KI
      obtain ⟨yA0,yA1,yA2,yA3,yA4,yA5,yAz,yAf0,yAf1,yAf2,yAf3,yAf4,yAf5⟩:=blf6 KA
      obtain ⟨yE0,yE1,yE2,yE3,yE4,yE5,yEz,yEf0,yEf1,yEf2,yEf3,yEf4,yEf5⟩:=blf6 KE
      go_wp2
      replace KA:=kst (kst (kst (kst (kst (kst KA 0 (.int .i64 0)) 1 (.int .i64 0)) 2 (.int .i64 0)) 3 (.int .i64 0)) 4 (.int .i64 0)) 5 (.int .i64 0)
      refine ot4 (st6 w1 (w.heap.size + 1 + 1) 0 (.int .i64 0) 1 (.int .i64 0) 2 (.int .i64 0) 3 (.int .i64 0) 4 (.int .i64 0) 5 (.int .i64 0)) HB KS KI KE KC (by omega) (by omega) (by omega) (by omega) (by omega) ?_
      clear HB KS KI KE KC
      intro HB KS KI KE KC
      clear yS0 yS1 yS2 yS3 yS4 yS5 ySz yI0 yI1 yI2 yI3 yI4 yI5 yIz yA0 yA1 yA2 yA3 yA4 yA5 yAz yAf0 yAf1 yAf2 yAf3 yAf4 yAf5 yE0 yE1 yE2 yE3 yE4 yE5 yEz yEf0 yEf1 yEf2 yEf3 yEf4 yEf5
      simp only [List.set] at KA
      replace KE:=kst (kst (kst (kst (kst (kst KE 0 (.int .i64 0)) 1 (.int .i64 0)) 2 (.int .i64 0)) 3 (.int .i64 0)) 4 (.bool false)) 5 (.int .i64 0)
      refine ot4 (st6 ((((((w1.setCell ⟨(w.heap.size + 1 + 1),0,none⟩ (.int .i64 0)).setCell ⟨(w.heap.size + 1 + 1),1,none⟩ (.int .i64 0)).setCell ⟨(w.heap.size + 1 + 1),2,none⟩ (.int .i64 0)).setCell ⟨(w.heap.size + 1 + 1),3,none⟩ (.int .i64 0)).setCell ⟨(w.heap.size + 1 + 1),4,none⟩ (.int .i64 0)).setCell ⟨(w.heap.size + 1 + 1),5,none⟩ (.int .i64 0)) (w.heap.size + 1 + 1 + 1) 0 (.int .i64 0) 1 (.int .i64 0) 2 (.int .i64 0) 3 (.int .i64 0) 4 (.bool false) 5 (.int .i64 0)) HB KS KI KA KC (by omega) (by omega) (by omega) (by omega) (by omega) ?_
      clear HB KS KI KA KC
      intro HB KS KI KA KC
      generalize (((((((((((w1.setCell _ _).setCell _ _).setCell _ _).setCell _ _).setCell _ _).setCell _ _).setCell _ _).setCell _ _).setCell _ _).setCell _ _).setCell _ _).setCell _ _ = w3 at *
      simp only [List.set] at KE
      obtain ⟨yA0,yA1,yA2,yA3,yA4,yA5,yAz⟩:=blk6 KA
      obtain ⟨yE0,yE1,yE2,yE3,yE4,yE5,yEz⟩:=blk6 KE
      refine bodyPost_ret (v:=.tuple #[.agg #[.int .i64 0,.int .i64 0,.int .i64 0,.int .i64 0,.int .i64 0,.int .i64 0],.agg #[.int .i64 0,.int .i64 0,.int .i64 0,.int .i64 0,.bool false,.int .i64 0],.int .i64 2]) (by simp [results,Tryz.results17,go_sem,yA0,yA1,yA2,yA3,yA4,yA5,yE0,yE1,yE2,yE3,yE4,yE5]) rfl ⟨by rw [EV.out],HB.out⟩
     ·have g3:decide (2000000 < rq) = false:=by simpa using h3
      rw [if_neg (by omega)] at EV0
      by_cases h4:8 < n
      ·have g4:decide (8 < n) = true:=by simpa using h4
       have g5:decide ((8:Int) < n) = true:=by simp; omega
       have EV:=Lib.hid (EV0.trans (if_pos h4))
       clear EV0 h0 h1 h2 h3 h4 CO0 CB he c0 c1
       obtain ⟨cx,cy,x,y⟩:=b
       simp only at CK
       obtain ⟨KS,KI,KA,KE,KC,HB⟩:=ent5 w #[.int .i64 cx,.int .i64 cy,.int .i64 x,.int .i64 y,.int .i64 t,.int .i64 m] 27 #[.int .i64 tick,.slice p n cap,.int .i64 ve,.int .i64 vn,.int .i64 dr,.int .i64 rq] 38 #[.int .i64 0,.int .i64 0,.int .i64 0,.int .i64 0,.int .i64 0,.int .i64 0] 27 #[.int .i64 0,.int .i64 0,.int .i64 0,.int .i64 0,.bool false,.int .i64 0] 41 #[.int .i64 0,.int .i64 0,.int .i64 0,.int .i64 0] 25
       go_enter Tryz.func17,Tryz.ntmps17
       go_wp2_with fail
       generalize ((((w.alloc _).alloc _).alloc _).alloc _).alloc _ = w0 at *
       refine (CK.out _).mono ?_
       rintro e1 w1 ⟨rfl,hb1⟩
       refine up5 hb1 HB KS KI KA KE KC ?_
       clear hb1 HB KS KI KA KE KC
       intro HB KS KI KA KE KC
       obtain ⟨yS0,yS1,yS2,yS3,yS4,yS5,ySz⟩:=blk6 KS
       obtain ⟨yI0,yI1,yI2,yI3,yI4,yI5,yIz⟩:=blk6 KI
       obtain ⟨yA0,yA1,yA2,yA3,yA4,yA5,yAz,yAf0,yAf1,yAf2,yAf3,yAf4,yAf5⟩:=blf6 KA
       obtain ⟨yE0,yE1,yE2,yE3,yE4,yE5,yEz,yEf0,yEf1,yEf2,yEf3,yEf4,yEf5⟩:=blf6 KE
       go_wp2
       replace KA:=kst (kst (kst (kst (kst (kst KA 0 (.int .i64 0)) 1 (.int .i64 0)) 2 (.int .i64 0)) 3 (.int .i64 0)) 4 (.int .i64 0)) 5 (.int .i64 0)
       refine ot4 (st6 w1 (w.heap.size + 1 + 1) 0 (.int .i64 0) 1 (.int .i64 0) 2 (.int .i64 0) 3 (.int .i64 0) 4 (.int .i64 0) 5 (.int .i64 0)) HB KS KI KE KC (by omega) (by omega) (by omega) (by omega) (by omega) ?_
       clear HB KS KI KE KC
       intro HB KS KI KE KC
       clear yS0 yS1 yS2 yS3 yS4 yS5 ySz yI0 yI1 yI2 yI3 yI4 yI5 yIz yA0 yA1 yA2 yA3 yA4 yA5 yAz yAf0 yAf1 yAf2 yAf3 yAf4 yAf5 yE0 yE1 yE2 yE3 yE4 yE5 yEz yEf0 yEf1 yEf2 yEf3 yEf4 yEf5
       simp only [List.set] at KA
       replace KE:=kst (kst (kst (kst (kst (kst KE 0 (.int .i64 0)) 1 (.int .i64 0)) 2 (.int .i64 0)) 3 (.int .i64 0)) 4 (.bool false)) 5 (.int .i64 0)
       refine ot4 (st6 ((((((w1.setCell ⟨(w.heap.size + 1 + 1),0,none⟩ (.int .i64 0)).setCell ⟨(w.heap.size + 1 + 1),1,none⟩ (.int .i64 0)).setCell ⟨(w.heap.size + 1 + 1),2,none⟩ (.int .i64 0)).setCell ⟨(w.heap.size + 1 + 1),3,none⟩ (.int .i64 0)).setCell ⟨(w.heap.size + 1 + 1),4,none⟩ (.int .i64 0)).setCell ⟨(w.heap.size + 1 + 1),5,none⟩ (.int .i64 0)) (w.heap.size + 1 + 1 + 1) 0 (.int .i64 0) 1 (.int .i64 0) 2 (.int .i64 0) 3 (.int .i64 0) 4 (.bool false) 5 (.int .i64 0)) HB KS KI KA KC (by omega) (by omega) (by omega) (by omega) (by omega) ?_
       clear HB KS KI KA KC
       intro HB KS KI KA KC
       generalize (((((((((((w1.setCell _ _).setCell _ _).setCell _ _).setCell _ _).setCell _ _).setCell _ _).setCell _ _).setCell _ _).setCell _ _).setCell _ _).setCell _ _).setCell _ _ = w3 at *
       simp only [List.set] at KE
       obtain ⟨yA0,yA1,yA2,yA3,yA4,yA5,yAz⟩:=blk6 KA
       obtain ⟨yE0,yE1,yE2,yE3,yE4,yE5,yEz⟩:=blk6 KE
       refine bodyPost_ret (v:=.tuple #[.agg #[.int .i64 0,.int .i64 0,.int .i64 0,.int .i64 0,.int .i64 0,.int .i64 0],.agg #[.int .i64 0,.int .i64 0,.int .i64 0,.int .i64 0,.bool false,.int .i64 0],.int .i64 3]) (by simp [results,Tryz.results17,go_sem,yA0,yA1,yA2,yA3,yA4,yA5,yE0,yE1,yE2,yE3,yE4,yE5]) rfl ⟨by rw [EV.out],HB.out⟩
      ·have g4:decide (8 < n) = false:=by simpa using h4
       have g5:decide ((8:Int) < n) = false:=by simp; omega
       rw [if_neg h4] at EV0
       have sw:IntKind.i64.wrap (tick - t) = tick - t:=IntWalk.i64_in _ (by omega)
       rw [EV0] at he
       have CB:=CB he
       obtain ⟨r,hr⟩:∃ z,cstF b ve vn dr (tick - t) = z:=⟨_,rfl⟩
       rw [hr] at EV0 CO0 CB he
       clear hr h0 h1 h2 h3 h4 c0 c1
       obtain ⟨r,e⟩:=r
       simp only at EV0 CB he CO0
       subst CB
       have EV:=Lib.hid EV0
       have ge:(e != 0) = true:=by simpa using he
       have ge':(e == 0) = false:=by simpa using he
       unfold bx0 at CO0
       simp only at CO0
       clear EV0 he
       obtain ⟨cx,cy,x,y⟩:=b
       simp only at CK CO0
       have CO:=Lib.hid CO0
       clear CO0
       obtain ⟨KS,KI,KA,KE,KC,HB⟩:=ent5 w #[.int .i64 cx,.int .i64 cy,.int .i64 x,.int .i64 y,.int .i64 t,.int .i64 m] 27 #[.int .i64 tick,.slice p n cap,.int .i64 ve,.int .i64 vn,.int .i64 dr,.int .i64 rq] 38 #[.int .i64 0,.int .i64 0,.int .i64 0,.int .i64 0,.int .i64 0,.int .i64 0] 27 #[.int .i64 0,.int .i64 0,.int .i64 0,.int .i64 0,.bool false,.int .i64 0] 41 #[.int .i64 0,.int .i64 0,.int .i64 0,.int .i64 0] 25
       go_enter Tryz.func17,Tryz.ntmps17
       go_wp2_with fail
       generalize ((((w.alloc _).alloc _).alloc _).alloc _).alloc _ = w0 at *
       refine (CK.out _).mono ?_
       rintro e1 w1 ⟨rfl,hb1⟩
       refine up5 hb1 HB KS KI KA KE KC ?_
       clear hb1 HB KS KI KA KE KC
       intro HB KS KI KA KE KC
       obtain ⟨yS0,yS1,yS2,yS3,yS4,yS5,ySz⟩:=blk6 KS
       obtain ⟨yI0,yI1,yI2,yI3,yI4,yI5,yIz⟩:=blk6 KI
       go_wp2_with fail
       refine (CO.out _).mono ?_
       rintro e2 w2 ⟨rfl,hb2⟩
       refine up5 hb2 HB KS KI KA KE KC ?_
       clear hb2 yS0 yS1 yS2 yS3 yS4 yS5 ySz yI0 yI1 yI2 yI3 yI4 yI5 yIz HB KS KI KA KE KC
       intro HB KS KI KA KE KC
       obtain ⟨yA0,yA1,yA2,yA3,yA4,yA5,yAz,yAf0,yAf1,yAf2,yAf3,yAf4,yAf5⟩:=blf6 KA
       obtain ⟨yE0,yE1,yE2,yE3,yE4,yE5,yEz,yEf0,yEf1,yEf2,yEf3,yEf4,yEf5⟩:=blf6 KE
       obtain ⟨yC0,yC1,yC2,yC3,yCz,yCf0,yCf1,yCf2,yCf3⟩:=blf4 KC
       go_wp2
       replace KC:=kst (kst (kst (kst KC 0 (.int .i64 0)) 1 (.int .i64 0)) 2 (.int .i64 0)) 3 (.int .i64 0)
       refine ot4 (st4 w2 (w.heap.size + 1 + 1 + 1 + 1) 0 (.int .i64 0) 1 (.int .i64 0) 2 (.int .i64 0) 3 (.int .i64 0)) HB KS KI KA KE (by omega) (by omega) (by omega) (by omega) (by omega) ?_
       clear HB KS KI KA KE
       intro HB KS KI KA KE
       clear yA0 yA1 yA2 yA3 yA4 yA5 yAz yAf0 yAf1 yAf2 yAf3 yAf4 yAf5 yE0 yE1 yE2 yE3 yE4 yE5 yEz yEf0 yEf1 yEf2 yEf3 yEf4 yEf5 yC0 yC1 yC2 yC3 yCz yCf0 yCf1 yCf2 yCf3
       simp only [List.set] at KC
       replace KA:=kst (kst (kst (kst (kst (kst KA 0 (.int .i64 0)) 1 (.int .i64 0)) 2 (.int .i64 0)) 3 (.int .i64 0)) 4 (.int .i64 0)) 5 (.int .i64 0)
       refine ot4 (st6 ((((w2.setCell ⟨(w.heap.size + 1 + 1 + 1 + 1),0,none⟩ (.int .i64 0)).setCell ⟨(w.heap.size + 1 + 1 + 1 + 1),1,none⟩ (.int .i64 0)).setCell ⟨(w.heap.size + 1 + 1 + 1 + 1),2,none⟩ (.int .i64 0)).setCell ⟨(w.heap.size + 1 + 1 + 1 + 1),3,none⟩ (.int .i64 0)) (w.heap.size + 1 + 1) 0 (.int .i64 0) 1 (.int .i64 0) 2 (.int .i64 0) 3 (.int .i64 0) 4 (.int .i64 0) 5 (.int .i64 0)) HB KS KI KE KC (by omega) (by omega) (by omega) (by omega) (by omega) ?_
       clear HB KS KI KE KC
       intro HB KS KI KE KC
       simp only [List.set] at KA
       replace KE:=kst (kst (kst (kst (kst (kst KE 0 (.int .i64 0)) 1 (.int .i64 0)) 2 (.int .i64 0)) 3 (.int .i64 0)) 4 (.bool false)) 5 (.int .i64 0)
       refine ot4 (st6 ((((((((((w2.setCell ⟨(w.heap.size + 1 + 1 + 1 + 1),0,none⟩ (.int .i64 0)).setCell ⟨(w.heap.size + 1 + 1 + 1 + 1),1,none⟩ (.int .i64 0)).setCell ⟨(w.heap.size + 1 + 1 + 1 + 1),2,none⟩ (.int .i64 0)).setCell ⟨(w.heap.size + 1 + 1 + 1 + 1),3,none⟩ (.int .i64 0)).setCell ⟨(w.heap.size + 1 + 1),0,none⟩ (.int .i64 0)).setCell ⟨(w.heap.size + 1 + 1),1,none⟩ (.int .i64 0)).setCell ⟨(w.heap.size + 1 + 1),2,none⟩ (.int .i64 0)).setCell ⟨(w.heap.size + 1 + 1),3,none⟩ (.int .i64 0)).setCell ⟨(w.heap.size + 1 + 1),4,none⟩ (.int .i64 0)).setCell ⟨(w.heap.size + 1 + 1),5,none⟩ (.int .i64 0)) (w.heap.size + 1 + 1 + 1) 0 (.int .i64 0) 1 (.int .i64 0) 2 (.int .i64 0) 3 (.int .i64 0) 4 (.bool false) 5 (.int .i64 0)) HB KS KI KA KC (by omega) (by omega) (by omega) (by omega) (by omega) ?_
       clear HB KS KI KA KC
       intro HB KS KI KA KC
       generalize (((((((((((((((w2.setCell _ _).setCell _ _).setCell _ _).setCell _ _).setCell _ _).setCell _ _).setCell _ _).setCell _ _).setCell _ _).setCell _ _).setCell _ _).setCell _ _).setCell _ _).setCell _ _).setCell _ _).setCell _ _ = w5 at *
       simp only [List.set] at KE
       obtain ⟨yA0,yA1,yA2,yA3,yA4,yA5,yAz⟩:=blk6 KA
       obtain ⟨yE0,yE1,yE2,yE3,yE4,yE5,yEz⟩:=blk6 KE
       refine bodyPost_ret (v:=.tuple #[.agg #[.int .i64 0,.int .i64 0,.int .i64 0,.int .i64 0,.int .i64 0,.int .i64 0],.agg #[.int .i64 0,.int .i64 0,.int .i64 0,.int .i64 0,.bool false,.int .i64 0],.int .i64 e]) (by simp [results,Tryz.results17,go_sem,yA0,yA1,yA2,yA3,yA4,yA5,yE0,yE1,yE2,yE3,yE4,yE5]) rfl ⟨by rw [EV.out],HB.out⟩
 ·rw [if_pos hc] at EV0
  have EV:=Lib.hid EV0
  have ge:(chkS b t m != 0) = true:=by simpa using hc
  have ge':(chkS b t m == 0) = false:=by simpa using hc
  have CK:=Lib.hid CK0
  clear EV0 CK0 hc CO0 CB he CS
  generalize chkS b t m = e at *
  obtain ⟨cx,cy,x,y⟩:=b
  simp only at CK
  obtain ⟨KS,KI,KA,KE,KC,HB⟩:=ent5 w #[.int .i64 cx,.int .i64 cy,.int .i64 x,.int .i64 y,.int .i64 t,.int .i64 m] 27 #[.int .i64 tick,.slice p n cap,.int .i64 ve,.int .i64 vn,.int .i64 dr,.int .i64 rq] 38 #[.int .i64 0,.int .i64 0,.int .i64 0,.int .i64 0,.int .i64 0,.int .i64 0] 27 #[.int .i64 0,.int .i64 0,.int .i64 0,.int .i64 0,.bool false,.int .i64 0] 41 #[.int .i64 0,.int .i64 0,.int .i64 0,.int .i64 0] 25
  go_enter Tryz.func17,Tryz.ntmps17
  go_wp2_with fail
  generalize ((((w.alloc _).alloc _).alloc _).alloc _).alloc _ = w0 at *
  refine (CK.out _).mono ?_
  rintro e1 w1 ⟨rfl,hb1⟩
  refine up5 hb1 HB KS KI KA KE KC ?_
  clear hb1 HB KS KI KA KE KC
  intro HB KS KI KA KE KC
  obtain ⟨yA0,yA1,yA2,yA3,yA4,yA5,yAz,yAf0,yAf1,yAf2,yAf3,yAf4,yAf5⟩:=blf6 KA
  obtain ⟨yE0,yE1,yE2,yE3,yE4,yE5,yEz,yEf0,yEf1,yEf2,yEf3,yEf4,yEf5⟩:=blf6 KE
  go_wp2
  replace KA:=kst (kst (kst (kst (kst (kst KA 0 (.int .i64 0)) 1 (.int .i64 0)) 2 (.int .i64 0)) 3 (.int .i64 0)) 4 (.int .i64 0)) 5 (.int .i64 0)
  refine ot4 (st6 w1 (w.heap.size + 1 + 1) 0 (.int .i64 0) 1 (.int .i64 0) 2 (.int .i64 0) 3 (.int .i64 0) 4 (.int .i64 0) 5 (.int .i64 0)) HB KS KI KE KC (by omega) (by omega) (by omega) (by omega) (by omega) ?_
  clear HB KS KI KE KC
  intro HB KS KI KE KC
  clear yA0 yA1 yA2 yA3 yA4 yA5 yAz yAf0 yAf1 yAf2 yAf3 yAf4 yAf5 yE0 yE1 yE2 yE3 yE4 yE5 yEz yEf0 yEf1 yEf2 yEf3 yEf4 yEf5
  simp only [List.set] at KA
  replace KE:=kst (kst (kst (kst (kst (kst KE 0 (.int .i64 0)) 1 (.int .i64 0)) 2 (.int .i64 0)) 3 (.int .i64 0)) 4 (.bool false)) 5 (.int .i64 0)
  refine ot4 (st6 ((((((w1.setCell ⟨(w.heap.size + 1 + 1),0,none⟩ (.int .i64 0)).setCell ⟨(w.heap.size + 1 + 1),1,none⟩ (.int .i64 0)).setCell ⟨(w.heap.size + 1 + 1),2,none⟩ (.int .i64 0)).setCell ⟨(w.heap.size + 1 + 1),3,none⟩ (.int .i64 0)).setCell ⟨(w.heap.size + 1 + 1),4,none⟩ (.int .i64 0)).setCell ⟨(w.heap.size + 1 + 1),5,none⟩ (.int .i64 0)) (w.heap.size + 1 + 1 + 1) 0 (.int .i64 0) 1 (.int .i64 0) 2 (.int .i64 0) 3 (.int .i64 0) 4 (.bool false) 5 (.int .i64 0)) HB KS KI KA KC (by omega) (by omega) (by omega) (by omega) (by omega) ?_
  clear HB KS KI KA KC
  intro HB KS KI KA KC
  generalize (((((((((((w1.setCell _ _).setCell _ _).setCell _ _).setCell _ _).setCell _ _).setCell _ _).setCell _ _).setCell _ _).setCell _ _).setCell _ _).setCell _ _).setCell _ _ = w3 at *
  simp only [List.set] at KE
  obtain ⟨yA0,yA1,yA2,yA3,yA4,yA5,yAz⟩:=blk6 KA
  obtain ⟨yE0,yE1,yE2,yE3,yE4,yE5,yEz⟩:=blk6 KE
  refine bodyPost_ret (v:=.tuple #[.agg #[.int .i64 0,.int .i64 0,.int .i64 0,.int .i64 0,.int .i64 0,.int .i64 0],.agg #[.int .i64 0,.int .i64 0,.int .i64 0,.int .i64 0,.bool false,.int .i64 0],.int .i64 e]) (by simp [results,Tryz.results17,go_sem,yA0,yA1,yA2,yA3,yA4,yA5,yE0,yE1,yE2,yE3,yE4,yE5]) rfl ⟨by rw [EV.out],HB.out⟩
end Go.Proofs.YtajmjkliblippaaGreatDoor
