/-
  Walks and laws of the layers below, gathered from several texts.
-/
import Derived.Test.YtajmjkliblippaaGreatDoorQ17
import Derived.Test.YtajmjkliblippaaGreatDoorQ20
import Derived.Test.YtajmjkliblippaaGreatDoorQ25
import Derived.Test.YtajmjkliblippaaGreatDoorQ26
import Derived.Test.YtajmjkliblippaaGreatDoorQ27
set_option linter.unusedVariables false
namespace Go.Proofs.YtajmjkliblippaaGreatDoor
open Go.RowKit
def OneV (F:Nat→Value→Act) (R:Nat→World→Prop) (a:Act) (w:World):Prop:=∃ b u,a = F b u∧R b w
theorem OneV.mk {F:Nat→Value→Act} {R:Nat→World→Prop} {a:Act} {w:World} (b:Nat) (u:Value) (h:a = F b u) (k:R b w):OneV F R a w:=⟨b,u,h,k⟩
theorem wp_onev {P:Program} {c:Code} {Q:Exit→Act→World→Prop} {a:Act} {w:World} {F:Nat→Value→Act} {R:Nat→World→Prop} (h:c.wp P (OneOut (OneV F R)) a w) (k:∀ b u w',R b w'→Q .normal (F b u) w'):c.wp P Q a w:=
 Code.wp_mono (OneOut.imp fun a' w' ⟨b,u,ha,hr⟩=>by subst ha; exact k b u w' hr) h
set_option maxHeartbeats 40000000
set_option maxRecDepth 100000
theorem step_okR (b:Bx4) (t m tick ve vn dr rq:Int) (L:List Rp) (v:Value) (w:World) (h:RlG L v w) (hK:∀ i,i < L.length→0≤(nthR L i).k∧(nthR L i).k≤255) (he:stpE2 b t m tick ve vn dr rq L.length = 0) :
 Calls Tryz.prog 17 #[.agg #[.int .i64 b.cx,.int .i64 b.cy,.int .i64 b.x,.int .i64 b.y,.int .i64 t,.int .i64 m],.agg #[.int .i64 tick,v,.int .i64 ve,.int .i64 vn,.int .i64 dr,.int .i64 rq]] w fun e w'=>e = .returned (.tuple #[.agg #[.int .i64 (stpC b t m tick ve vn dr L).box.cx,.int .i64 (stpC b t m tick ve vn dr L).box.cy,.int .i64 (stpC b t m tick ve vn dr L).box.x,.int .i64 (stpC b t m tick ve vn dr L).box.y,.int .i64 tick,.int .i64 (stpC b t m tick ve vn dr L).ms],.agg #[.int .i64 (stpC b t m tick ve vn dr L).box.cx,.int .i64 (stpC b t m tick ve vn dr L).box.cy,.int .i64 (stpC b t m tick ve vn dr L).box.x,.int .i64 (stpC b t m tick ve vn dr L).box.y,.bool (useB (stpC b t m tick ve vn dr L).box.x (stpC b t m tick ve vn dr L).box.y rq),.int .i64 (stpC b t m tick ve vn dr L).ex],.int .i64 0])∧Below w.heap.size w w':=by
 obtain ⟨p,cap,rfl⟩:=rg_form h
 have H:=Lib.hid h
 clear h
 obtain ⟨hc,h0,⟨h1,h2,h3⟩,h8,h4⟩:=stp_ok2 he
 obtain ⟨_,⟨c0,c1⟩,c2,c3⟩:=chkS_ok hc
 have CK0:=fun w=>ncheck_any b t m w
 rw [hc] at CK0
 have CO0:=fun w=>coast_any b ve vn dr (tick - t) w
 rw [(cst_val h4).2.2.2] at CO0
 have US0:=Lib.hid fun a0 a1 a2 a3 k w=>usable_any a0 a1 a2 a3 k rq false w
 have E0:stpC b t m tick ve vn dr L = cycF (movB b ve vn dr (tick - t)) m (rowsT tick (movB b ve vn dr (tick - t)).cx (movB b ve vn dr (tick - t)).cy (movB b ve vn dr (tick - t)).x (movB b ve vn dr (tick - t)).y L):=rfl
 generalize stpC b t m tick ve vn dr L = q at *
 have sw:IntKind.i64.wrap (tick - t) = tick - t:=IntWalk.i64_in _ (by omega)
 have sm:IntKind.i64.wrap (m + 1) = m + 1:=IntWalk.i64_in _ (by omega)
 have g0:decide (tick≤t) = false:=by simp; omega
 have g1:decide (1099511627776 < tick) = false:=by simp; omega
 have g2:decide (rq < 0) = false:=by simp; omega
 have g3:decide (2000000 < rq) = false:=by simp; omega
 have g4:decide (8 < L.length) = false:=by simp; omega
 have g5:decide ((8:Int) < (L.length:Int)) = false:=by simp; omega
 have hn:L.length≤20000:=by omega
 clear he hc h0 h1 h2 h3 h4 h8 c0 c1 c2 c3
 generalize movB b ve vn dr (tick - t) = r at *
 have RW:=Lib.hid fun w h=>nrows_any L (.slice p L.length cap) tick ve vn dr rq r.cx r.cy r.x r.y w h hK hn
 obtain ⟨l,hl⟩:∃ z,rowsT tick r.cx r.cy r.x r.y L = z:=⟨_,rfl⟩
 rw [hl] at RW E0
 clear hl hn hK
 have FX:=Lib.hid fun v w h=>fix_any l v r w h
 unfold cycF at E0
 generalize fixF l r = f at *
 obtain ⟨⟨⟨dx,dy,d1,d2⟩,k⟩,ok⟩:=f
 obtain ⟨cx',cy',x',y'⟩:=r
 obtain ⟨cx,cy,x,y⟩:=b
 simp only at CK0 CO0 E0 RW FX
 obtain ⟨m1,hm1⟩:∃ z,min (m + 1) 1000 = z:=⟨_,rfl⟩
 rw [hm1] at E0
 have EV0:=Lib.hid E0
 have CK:=Lib.hid CK0
 have CO:=Lib.hid CO0
 clear CK0 CO0 E0
 obtain ⟨KS,KI,KA,KE,KC,HB⟩:=ent5 w #[.int .i64 cx,.int .i64 cy,.int .i64 x,.int .i64 y,.int .i64 t,.int .i64 m] 27 #[.int .i64 tick,.slice p L.length cap,.int .i64 ve,.int .i64 vn,.int .i64 dr,.int .i64 rq] 38 #[.int .i64 0,.int .i64 0,.int .i64 0,.int .i64 0,.int .i64 0,.int .i64 0] 27 #[.int .i64 0,.int .i64 0,.int .i64 0,.int .i64 0,.bool false,.int .i64 0] 41 #[.int .i64 0,.int .i64 0,.int .i64 0,.int .i64 0] 25
 go_enter Tryz.func17,Tryz.ntmps17
 go_wp2_with fail
 generalize ((((w.alloc _).alloc _).alloc _).alloc _).alloc _ = w0 at *
 refine (CK.out _).mono ?_
 rintro e1 w1 ⟨rfl,hb1⟩
 refine up5 hb1 HB KS KI KA KE KC ?_
 clear hb1 HB KS KI KA KE KC
 intro HB KS KI KA KE KC
 obtain ⟨yS0,yS1,yS2,yS3,yS4,yS5,ySz⟩:=blk6 KS
 obtain ⟨yI0,yI1,yI2,yI3,yI4,yI5,yIz⟩:=blk6 KI
 go_wp2_with fail
 refine (CO.out _).mono ?_
 rintro e2 w2 ⟨rfl,hb2⟩
 refine up5 hb2 HB KS KI KA KE KC ?_
 clear hb2 yS0 yS1 yS2 yS3 yS4 yS5 ySz yI0 yI1 yI2 yI3 yI4 yI5 yIz HB KS KI KA KE KC
 intro HB KS KI KA KE KC
 obtain ⟨yS0,yS1,yS2,yS3,yS4,yS5,ySz⟩:=blk6 KS
 obtain ⟨yI0,yI1,yI2,yI3,yI4,yI5,yIz⟩:=blk6 KI
 obtain ⟨yC0,yC1,yC2,yC3,yCz,yCf0,yCf1,yCf2,yCf3⟩:=blf4 KC
 go_wp2_with fail
 replace KC:=kst (kst (kst (kst KC 0 (.int .i64 (cx'))) 1 (.int .i64 (cy'))) 2 (.int .i64 (x'))) 3 (.int .i64 (y'))
 refine ot4 (st4 w2 (w.heap.size + 1 + 1 + 1 + 1) 0 (.int .i64 (cx')) 1 (.int .i64 (cy')) 2 (.int .i64 (x')) 3 (.int .i64 (y'))) HB KS KI KA KE (by omega) (by omega) (by omega) (by omega) (by omega) ?_
 clear HB KS KI KA KE
 intro HB KS KI KA KE
 clear yS0 yS1 yS2 yS3 yS4 yS5 ySz yI0 yI1 yI2 yI3 yI4 yI5 yIz yC0 yC1 yC2 yC3 yCz yCf0 yCf1 yCf2 yCf3
 simp only [List.set] at KC
 have hz9:((((w2.setCell ⟨(w.heap.size + 1 + 1 + 1 + 1),0,none⟩ (.int .i64 (cx'))).setCell ⟨(w.heap.size + 1 + 1 + 1 + 1),1,none⟩ (.int .i64 (cy'))).setCell ⟨(w.heap.size + 1 + 1 + 1 + 1),2,none⟩ (.int .i64 (x'))).setCell ⟨(w.heap.size + 1 + 1 + 1 + 1),3,none⟩ (.int .i64 (y'))).heap.size = w2.heap.size:=by simp [World.setCell]
 generalize (((w2.setCell _ _).setCell _ _).setCell _ _).setCell _ _ = w9 at *
 rw [← hz9]
 clear hz9
 obtain ⟨KN,hb4⟩:=alB w9 #[.int .i64 (cx'),.int .i64 (cy'),.int .i64 (x'),.int .i64 (y'),.int .i64 tick,.int .i64 m1] 27
 have hnN:=HB.out.size
 have nzN_S:=KS.out.lt
 have nzN_I:=KI.out.lt
 have nzN_A:=KA.out.lt
 have nzN_E:=KE.out.lt
 have nzN_C:=KC.out.lt
 refine up5 hb4 HB KS KI KA KE KC ?_
 clear hb4 HB KS KI KA KE KC
 intro HB KS KI KA KE KC
 generalize w9.alloc _ = w4 at *
 generalize w9.heap.size = bN at *
 have neN_S:bN≠w.heap.size:=by omega
 have neN_I:bN≠(w.heap.size + 1):=by omega
 have neN_A:bN≠(w.heap.size + 1 + 1):=by omega
 have neN_E:bN≠(w.heap.size + 1 + 1 + 1):=by omega
 have neN_C:bN≠(w.heap.size + 1 + 1 + 1 + 1):=by omega
 clear nzN_S nzN_I nzN_A nzN_E nzN_C
 have gI_0:=fun d os=>cell_regrown (KI.out.c 0 _ rfl) d os
 have gI_1:=fun d os=>cell_regrown (KI.out.c 1 _ rfl) d os
 have gI_2:=fun d os=>cell_regrown (KI.out.c 2 _ rfl) d os
 have gI_3:=fun d os=>cell_regrown (KI.out.c 3 _ rfl) d os
 have gI_4:=fun d os=>cell_regrown (KI.out.c 4 _ rfl) d os
 have gI_5:=fun d os=>cell_regrown (KI.out.c 5 _ rfl) d os
 have gC_0:=fun d os=>cell_regrown (KC.out.c 0 _ rfl) d os
 have gC_1:=fun d os=>cell_regrown (KC.out.c 1 _ rfl) d os
 have gC_2:=fun d os=>cell_regrown (KC.out.c 2 _ rfl) d os
 have gC_3:=fun d os=>cell_regrown (KC.out.c 3 _ rfl) d os
 apply wp_onev (R:=fun b w'=>w.heap.size≤b∧b≠w.heap.size∧b≠(w.heap.size + 1)∧b≠(w.heap.size + 1 + 1)∧b≠(w.heap.size + 1 + 1 + 1)∧b≠(w.heap.size + 1 + 1 + 1 + 1)∧b≠bN∧Hid (Below w.heap.size w w')∧Hid (Blk [.int .i64 dx,.int .i64 dy,.int .i64 d1,.int .i64 d2] b w')∧Hid (Blk [.int .i64 cx,.int .i64 cy,.int .i64 x,.int .i64 y,.int .i64 t,.int .i64 m] w.heap.size w')∧Hid (Blk [.int .i64 tick,.slice p L.length cap,.int .i64 ve,.int .i64 vn,.int .i64 dr,.int .i64 rq] (w.heap.size + 1) w')∧Hid (Blk [.int .i64 0,.int .i64 0,.int .i64 0,.int .i64 0,.int .i64 0,.int .i64 0] (w.heap.size + 1 + 1) w')∧Hid (Blk [.int .i64 0,.int .i64 0,.int .i64 0,.int .i64 0,.bool false,.int .i64 0] (w.heap.size + 1 + 1 + 1) w')∧Hid (Blk [.int .i64 (cx'),.int .i64 (cy'),.int .i64 (x'),.int .i64 (y')] (w.heap.size + 1 + 1 + 1 + 1) w')∧Hid (Blk [.int .i64 (cx'),.int .i64 (cy'),.int .i64 (x'),.int .i64 (y'),.int .i64 tick,.int .i64 m1] bN w'))
 ·refine wp_region_calm (fun w'=>∃ p:Regrown,w' = Go.Sort.grow (redrawn w4 p.d) p.os) (by kernel_rfl) ?_
  refine wpAnyC_heads oneOut_normal (by kernel_rfl) [0,1,3] 10 (Array.replicate 13 false) _ _ (by kernel_rfl) ?_
  simp only [pick,List.filterMap_cons,List.filterMap_nil,List.getElem?_cons_zero,List.getElem?_cons_succ]
  repeat (refine wpCalm_step (fun K hK=>?_); go_simp; first | (refine hK _ ?_; clear hK K) | (refine ⟨_,fun _=>calm_intro,hK _ ?_⟩; clear hK K))
  refine wpCalm_nil ?_
  have HX:=Lib.hid (below_drew1 (Below.refl w4.heap.size w4))
  generalize w4.drew = wa at HX ⊢
  refine wpAnyC_node (i:=2) (rs:=[9]) (by kernel_rfl) (regrown_of_below HX.out) (all2 ?_ ?_)
  ·refine wpOp_of_list (by rfl) ?_
   go_wp2_with fail
   refine (RW.out _ (H.out.below (HB.out.trans (HX.out.mono HB.out.size)))).mono ?_
   rintro e71 wc71 ⟨⟨ur,rfl,hom⟩,hb71⟩
   have OL:=Lib.hid hom.lst
   clear hom
   go_wp2_with fail
   refine Then1.mk ?_
   replace HX:=hT HX hb71
   clear hb71
   refine wpAnyC_node (i:=4) (rs:=[9]) (by kernel_rfl) (regrown_of_below HX.out) (all2 ?_ ?_)
   ·refine wpOp_of_list (by rfl) ?_
    go_wp2_with fail
    refine (FX.out _ _ OL.out).mono ?_
    rintro e72 wc72 ⟨rfl,hb72⟩
    go_wp2_with fail
    refine Then1.mk ?_
    replace HX:=hT HX hb72
    clear hb72
    clear OL
    refine wpAnyC_heads oneOut_normal (by kernel_rfl) [5,6,7,8] 4 _ _ _ (by kernel_rfl) ?_
    simp only [pick,List.filterMap_cons,List.filterMap_nil,List.getElem?_cons_zero,List.getElem?_cons_succ]
    repeat (refine wpCalm_step (fun K hK=>?_); go_simp; first | (refine hK _ ?_; clear hK K) | (refine ⟨_,fun _=>calm_intro,hK _ ?_⟩; clear hK K))
    refine wpCalm_nil ?_
    refine wpAnyC_node (i:=9) (rs:=[]) (by kernel_rfl) (regrown_of_below HX.out) (all1 ?_)
    ·refine wpOp_of_list (by rfl) ?_
     go_wp2_with fail
     refine Then1.mk ?_
     have KM:=Lib.hid (Blk.of (vs:=#[.int .i64 0,.int .i64 0,.int .i64 0,.int .i64 0]) (t:=25) (w:=wc72) (b:=wc72.heap.size) rfl)
     have hM:=HX.out.size
     replace HX:=Lib.hid (HX.out.alloc HX.out.size (.cells #[.int .i64 0,.int .i64 0,.int .i64 0,.int .i64 0] 25))
     generalize wc72.alloc _ = wc73 at *
     generalize wc72.heap.size = bM at *
     refine wpAnyC_node (i:=10) (rs:=[]) (by kernel_rfl) (regrown_of_below HX.out) (all1 ?_)
     refine wpOp_of_list (by rfl) ?_
     have yM:=KM.out
     have yM0:=yM.c 0 _ rfl
     have yM1:=yM.c 1 _ rfl
     have yM2:=yM.c 2 _ rfl
     have yM3:=yM.c 3 _ rfl
     have yMf0:=yM.f 0 _ rfl
     have yMf1:=yM.f 1 _ rfl
     have yMf2:=yM.f 2 _ rfl
     have yMf3:=yM.f 3 _ rfl
     have yMz:=yM.lt
     clear yM
     go_wp2_with fail
     refine Then1.mk ?_
     replace KM:=kst (kst (kst (kst KM 0 (.int .i64 dx)) 1 (.int .i64 dy)) 2 (.int .i64 d1)) 3 (.int .i64 d2)
     replace HX:=Lib.hid ((((HX.out.setCell (p:=⟨bM,0,none⟩) hM (.int .i64 dx)).setCell (p:=⟨bM,1,none⟩) hM (.int .i64 dy)).setCell (p:=⟨bM,2,none⟩) hM (.int .i64 d1)).setCell (p:=⟨bM,3,none⟩) hM (.int .i64 d2))
     clear yM0 yMf0 yM1 yMf1 yM2 yMf2 yM3 yMf3 yMz
     generalize (((wc73.setCell _ _).setCell _ _).setCell _ _).setCell _ _ = wz at *
     simp only [List.set] at KM
     refine wpAnyC_heads oneOut_normal (by kernel_rfl) [11,12] 0 _ _ _ (by kernel_rfl) ?_
     simp only [pick,List.filterMap_cons,List.filterMap_nil,List.getElem?_cons_zero,List.getElem?_cons_succ]
     repeat (refine wpCalm_step (fun K hK=>?_); go_simp; first | (refine hK _ ?_; clear hK K) | (refine ⟨_,fun _=>calm_intro,hK _ ?_⟩; clear hK K))
     refine wpCalm_nil ?_
     refine wpAnyC_leaf (by kernel_rfl) (regrown_of_below HX.out) (OneOut.mk ?_)
     obtain ⟨bQ,hbQ⟩:=ex_blk KM
     rw [← hbQ] at KM hM ⊢
     refine OneV.mk bQ ur rfl ?_
     exact ⟨Nat.le_trans HB.out.size hM,Nat.ne_of_gt (Nat.lt_of_lt_of_le KS.out.lt hM),Nat.ne_of_gt (Nat.lt_of_lt_of_le KI.out.lt hM),Nat.ne_of_gt (Nat.lt_of_lt_of_le KA.out.lt hM),Nat.ne_of_gt (Nat.lt_of_lt_of_le KE.out.lt hM),Nat.ne_of_gt (Nat.lt_of_lt_of_le KC.out.lt hM),Nat.ne_of_gt (Nat.lt_of_lt_of_le KN.out.lt hM),Lib.hid (HB.out.trans (HX.out.mono HB.out.size)),KM,Lib.hid (KS.out.below HX.out),Lib.hid (KI.out.below HX.out),Lib.hid (KA.out.below HX.out),Lib.hid (KE.out.below HX.out),Lib.hid (KC.out.below HX.out),Lib.hid (KN.out.below HX.out)⟩
   ·refine wpOp_of_list (by rfl) ?_
    go_wp2_with fail
    refine Then1.mk ?_
    have hl9:=OL.out.below ((Below.refl _ _).alloc (Nat.le_refl _) (.cells #[.int .i64 0,.int .i64 0,.int .i64 0,.int .i64 0] 25))
    replace OL:=Lib.hid hl9
    clear hl9
    have KM:=Lib.hid (Blk.of (vs:=#[.int .i64 0,.int .i64 0,.int .i64 0,.int .i64 0]) (t:=25) (w:=wc71) (b:=wc71.heap.size) rfl)
    have hM:=HX.out.size
    replace HX:=Lib.hid (HX.out.alloc HX.out.size (.cells #[.int .i64 0,.int .i64 0,.int .i64 0,.int .i64 0] 25))
    generalize wc71.alloc _ = wc72 at *
    generalize wc71.heap.size = bM at *
    refine wpAnyC_node (i:=4) (rs:=[]) (by kernel_rfl) (regrown_of_below HX.out) (all1 ?_)
    ·refine wpOp_of_list (by rfl) ?_
     go_wp2_with fail
     refine (FX.out _ _ OL.out).mono ?_
     rintro e73 wc73 ⟨rfl,hb73⟩
     go_wp2_with fail
     refine Then1.mk ?_
     replace HX:=hT HX hb73
     replace KM:=Lib.hid (KM.out.below hb73)
     clear hb73
     clear OL
     refine wpAnyC_heads oneOut_normal (by kernel_rfl) [5,6,7,8] 3 _ _ _ (by kernel_rfl) ?_
     simp only [pick,List.filterMap_cons,List.filterMap_nil,List.getElem?_cons_zero,List.getElem?_cons_succ]
     repeat (refine wpCalm_step (fun K hK=>?_); go_simp; first | (refine hK _ ?_; clear hK K) | (refine ⟨_,fun _=>calm_intro,hK _ ?_⟩; clear hK K))
     refine wpCalm_nil ?_
     refine wpAnyC_node (i:=10) (rs:=[]) (by kernel_rfl) (regrown_of_below HX.out) (all1 ?_)
     refine wpOp_of_list (by rfl) ?_
     have yM:=KM.out
     have yM0:=yM.c 0 _ rfl
     have yM1:=yM.c 1 _ rfl
     have yM2:=yM.c 2 _ rfl
     have yM3:=yM.c 3 _ rfl
     have yMf0:=yM.f 0 _ rfl
     have yMf1:=yM.f 1 _ rfl
     have yMf2:=yM.f 2 _ rfl
     have yMf3:=yM.f 3 _ rfl
     have yMz:=yM.lt
     clear yM
     go_wp2_with fail
     refine Then1.mk ?_
     replace KM:=kst (kst (kst (kst KM 0 (.int .i64 dx)) 1 (.int .i64 dy)) 2 (.int .i64 d1)) 3 (.int .i64 d2)
     replace HX:=Lib.hid ((((HX.out.setCell (p:=⟨bM,0,none⟩) hM (.int .i64 dx)).setCell (p:=⟨bM,1,none⟩) hM (.int .i64 dy)).setCell (p:=⟨bM,2,none⟩) hM (.int .i64 d1)).setCell (p:=⟨bM,3,none⟩) hM (.int .i64 d2))
     clear yM0 yMf0 yM1 yMf1 yM2 yMf2 yM3 yMf3 yMz
     generalize (((wc73.setCell _ _).setCell _ _).setCell _ _).setCell _ _ = wz at *
     simp only [List.set] at KM
     refine wpAnyC_heads oneOut_normal (by kernel_rfl) [11,12] 0 _ _ _ (by kernel_rfl) ?_
     simp only [pick,List.filterMap_cons,List.filterMap_nil,List.getElem?_cons_zero,List.getElem?_cons_succ]
     repeat (refine wpCalm_step (fun K hK=>?_); go_simp; first | (refine hK _ ?_; clear hK K) | (refine ⟨_,fun _=>calm_intro,hK _ ?_⟩; clear hK K))
     refine wpCalm_nil ?_
     refine wpAnyC_leaf (by kernel_rfl) (regrown_of_below HX.out) (OneOut.mk ?_)
     obtain ⟨bQ,hbQ⟩:=ex_blk KM
     rw [← hbQ] at KM hM ⊢
     refine OneV.mk bQ ur rfl ?_
     exact ⟨Nat.le_trans HB.out.size hM,Nat.ne_of_gt (Nat.lt_of_lt_of_le KS.out.lt hM),Nat.ne_of_gt (Nat.lt_of_lt_of_le KI.out.lt hM),Nat.ne_of_gt (Nat.lt_of_lt_of_le KA.out.lt hM),Nat.ne_of_gt (Nat.lt_of_lt_of_le KE.out.lt hM),Nat.ne_of_gt (Nat.lt_of_lt_of_le KC.out.lt hM),Nat.ne_of_gt (Nat.lt_of_lt_of_le KN.out.lt hM),Lib.hid (HB.out.trans (HX.out.mono HB.out.size)),KM,Lib.hid (KS.out.below HX.out),Lib.hid (KI.out.below HX.out),Lib.hid (KA.out.below HX.out),Lib.hid (KE.out.below HX.out),Lib.hid (KC.out.below HX.out),Lib.hid (KN.out.below HX.out)⟩
  ·refine wpOp_of_list (by rfl) ?_
   go_wp2_with fail
   refine Then1.mk ?_
   have KM:=Lib.hid (Blk.of (vs:=#[.int .i64 0,.int .i64 0,.int .i64 0,.int .i64 0]) (t:=25) (w:=wa) (b:=wa.heap.size) rfl)
   have hM:=HX.out.size
   replace HX:=Lib.hid (HX.out.alloc HX.out.size (.cells #[.int .i64 0,.int .i64 0,.int .i64 0,.int .i64 0] 25))
   generalize wa.alloc _ = wc71 at *
   generalize wa.heap.size = bM at *
   refine wpAnyC_node (i:=2) (rs:=[]) (by kernel_rfl) (regrown_of_below HX.out) (all1 ?_)
   ·refine wpOp_of_list (by rfl) ?_
    go_wp2_with fail
    refine (RW.out _ (H.out.below (HB.out.trans (HX.out.mono HB.out.size)))).mono ?_
    rintro e72 wc72 ⟨⟨ur,rfl,hom⟩,hb72⟩
    have OL:=Lib.hid hom.lst
    clear hom
    go_wp2_with fail
    refine Then1.mk ?_
    replace HX:=hT HX hb72
    replace KM:=Lib.hid (KM.out.below hb72)
    clear hb72
    refine wpAnyC_node (i:=4) (rs:=[]) (by kernel_rfl) (regrown_of_below HX.out) (all1 ?_)
    ·refine wpOp_of_list (by rfl) ?_
     go_wp2_with fail
     refine (FX.out _ _ OL.out).mono ?_
     rintro e73 wc73 ⟨rfl,hb73⟩
     go_wp2_with fail
     refine Then1.mk ?_
     replace HX:=hT HX hb73
     replace KM:=Lib.hid (KM.out.below hb73)
     clear hb73
     clear OL
     refine wpAnyC_heads oneOut_normal (by kernel_rfl) [5,6,7,8] 3 _ _ _ (by kernel_rfl) ?_
     simp only [pick,List.filterMap_cons,List.filterMap_nil,List.getElem?_cons_zero,List.getElem?_cons_succ]
     repeat (refine wpCalm_step (fun K hK=>?_); go_simp; first | (refine hK _ ?_; clear hK K) | (refine ⟨_,fun _=>calm_intro,hK _ ?_⟩; clear hK K))
     refine wpCalm_nil ?_
     refine wpAnyC_node (i:=10) (rs:=[]) (by kernel_rfl) (regrown_of_below HX.out) (all1 ?_)
     refine wpOp_of_list (by rfl) ?_
     have yM:=KM.out
     have yM0:=yM.c 0 _ rfl
     have yM1:=yM.c 1 _ rfl
     have yM2:=yM.c 2 _ rfl
     have yM3:=yM.c 3 _ rfl
     have yMf0:=yM.f 0 _ rfl
     have yMf1:=yM.f 1 _ rfl
     have yMf2:=yM.f 2 _ rfl
     have yMf3:=yM.f 3 _ rfl
     have yMz:=yM.lt
     clear yM
     go_wp2_with fail
     refine Then1.mk ?_
     replace KM:=kst (kst (kst (kst KM 0 (.int .i64 dx)) 1 (.int .i64 dy)) 2 (.int .i64 d1)) 3 (.int .i64 d2)
     replace HX:=Lib.hid ((((HX.out.setCell (p:=⟨bM,0,none⟩) hM (.int .i64 dx)).setCell (p:=⟨bM,1,none⟩) hM (.int .i64 dy)).setCell (p:=⟨bM,2,none⟩) hM (.int .i64 d1)).setCell (p:=⟨bM,3,none⟩) hM (.int .i64 d2))
     clear yM0 yMf0 yM1 yMf1 yM2 yMf2 yM3 yMf3 yMz
     generalize (((wc73.setCell _ _).setCell _ _).setCell _ _).setCell _ _ = wz at *
     simp only [List.set] at KM
     refine wpAnyC_heads oneOut_normal (by kernel_rfl) [11,12] 0 _ _ _ (by kernel_rfl) ?_
     simp only [pick,List.filterMap_cons,List.filterMap_nil,List.getElem?_cons_zero,List.getElem?_cons_succ]
     repeat (refine wpCalm_step (fun K hK=>?_); go_simp; first | (refine hK _ ?_; clear hK K) | (refine ⟨_,fun _=>calm_intro,hK _ ?_⟩; clear hK K))
     refine wpCalm_nil ?_
     refine wpAnyC_leaf (by kernel_rfl) (regrown_of_below HX.out) (OneOut.mk ?_)
     obtain ⟨bQ,hbQ⟩:=ex_blk KM
     rw [← hbQ] at KM hM ⊢
     refine OneV.mk bQ ur rfl ?_
     exact ⟨Nat.le_trans HB.out.size hM,Nat.ne_of_gt (Nat.lt_of_lt_of_le KS.out.lt hM),Nat.ne_of_gt (Nat.lt_of_lt_of_le KI.out.lt hM),Nat.ne_of_gt (Nat.lt_of_lt_of_le KA.out.lt hM),Nat.ne_of_gt (Nat.lt_of_lt_of_le KE.out.lt hM),Nat.ne_of_gt (Nat.lt_of_lt_of_le KC.out.lt hM),Nat.ne_of_gt (Nat.lt_of_lt_of_le KN.out.lt hM),Lib.hid (HB.out.trans (HX.out.mono HB.out.size)),KM,Lib.hid (KS.out.below HX.out),Lib.hid (KI.out.below HX.out),Lib.hid (KA.out.below HX.out),Lib.hid (KE.out.below HX.out),Lib.hid (KC.out.below HX.out),Lib.hid (KN.out.below HX.out)⟩
 clear gI_0 gI_1 gI_2 gI_3 gI_4 gI_5 gC_0 gC_1 gC_2 gC_3 RW FX H
 rintro bM ur w80 ⟨nM,neM_S,neM_I,neM_A,neM_E,neM_C,neM_N,HB2,KM,KS2,KI2,KA2,KE2,KC2,KN2⟩
 replace HB:=HB2
 clear HB2
 replace KS:=KS2
 clear KS2
 replace KI:=KI2
 clear KI2
 replace KA:=KA2
 clear KA2
 replace KE:=KE2
 clear KE2
 replace KC:=KC2
 clear KC2
 replace KN:=KN2
 clear KN2
 cases ok with
 | false =>
  have EV:=Lib.hid (EV0.out.trans (if_neg (by decide)))
  have US:=Lib.hid (US0.out cx' cy' x' y' 0)
  obtain ⟨us,hus⟩:∃ z,useB x' y' rq = z:=⟨_,rfl⟩
  rw [hus] at US
  have EU:=Lib.hid hus
  clear hus EV0 US0
  obtain ⟨yI0,yI1,yI2,yI3,yI4,yI5,yIz⟩:=blk6 KI
  obtain ⟨yN0,yN1,yN2,yN3,yN4,yN5,yNz⟩:=blk6 KN
  go_wp2_with fail
  obtain ⟨KT,hb81⟩:=alB w80 #[.int .i64 (cx'),.int .i64 (cy'),.int .i64 (x'),.int .i64 (y'),.bool false,.int .i64 0] 41
  have hnT:=HB.out.size
  have nzT_S:=KS.out.lt
  have nzT_I:=KI.out.lt
  have nzT_A:=KA.out.lt
  have nzT_E:=KE.out.lt
  have nzT_C:=KC.out.lt
  have nzT_N:=KN.out.lt
  have nzT_M:=KM.out.lt
  refine up7 hb81 HB KS KI KA KE KC KN KM ?_
  clear hb81 yI0 yI1 yI2 yI3 yI4 yI5 yIz yN0 yN1 yN2 yN3 yN4 yN5 yNz HB KS KI KA KE KC KN KM
  intro HB KS KI KA KE KC KN KM
  generalize w80.alloc _ = w81 at *
  generalize w80.heap.size = bT at *
  have neT_S:bT≠w.heap.size:=by omega
  have neT_I:bT≠(w.heap.size + 1):=by omega
  have neT_A:bT≠(w.heap.size + 1 + 1):=by omega
  have neT_E:bT≠(w.heap.size + 1 + 1 + 1):=by omega
  have neT_C:bT≠(w.heap.size + 1 + 1 + 1 + 1):=by omega
  have neT_N:bT≠bN:=by omega
  have neT_M:bT≠bM:=by omega
  clear nzT_S nzT_I nzT_A nzT_E nzT_C nzT_N nzT_M
  refine (US.out _).mono ?_
  rintro e82 w82 ⟨rfl,hb82⟩
  refine up8 hb82 HB KS KI KA KE KC KN KM KT ?_
  clear hb82 HB KS KI KA KE KC KN KM KT
  intro HB KS KI KA KE KC KN KM KT
  obtain ⟨yA0,yA1,yA2,yA3,yA4,yA5,yAz,yAf0,yAf1,yAf2,yAf3,yAf4,yAf5⟩:=blf6 KA
  obtain ⟨yE0,yE1,yE2,yE3,yE4,yE5,yEz,yEf0,yEf1,yEf2,yEf3,yEf4,yEf5⟩:=blf6 KE
  obtain ⟨yN0,yN1,yN2,yN3,yN4,yN5,yNz⟩:=blk6 KN
  obtain ⟨yT0,yT1,yT2,yT3,yT4,yT5,yTz,yTf0,yTf1,yTf2,yTf3,yTf4,yTf5⟩:=blf6 KT
  go_wp2_with fail
  replace KT:=kst KT 4 (.bool us)
  refine ot7 (st1 w82 bT 4 (.bool us)) HB KS KI KA KE KC KN KM (by omega) (by omega) (by omega) (by omega) (by omega) (by omega) (by omega) (by omega) ?_
  clear HB KS KI KA KE KC KN KM
  intro HB KS KI KA KE KC KN KM
  clear yA0 yA1 yA2 yA3 yA4 yA5 yAz yAf0 yAf1 yAf2 yAf3 yAf4 yAf5 yE0 yE1 yE2 yE3 yE4 yE5 yEz yEf0 yEf1 yEf2 yEf3 yEf4 yEf5 yN0 yN1 yN2 yN3 yN4 yN5 yNz yT0 yT1 yT2 yT3 yT4 yT5 yTz yTf0 yTf1 yTf2 yTf3 yTf4 yTf5
  generalize w82.setCell _ _ = w83 at *
  simp only [List.set] at KT
  obtain ⟨yA0,yA1,yA2,yA3,yA4,yA5,yAz,yAf0,yAf1,yAf2,yAf3,yAf4,yAf5⟩:=blf6 KA
  obtain ⟨yE0,yE1,yE2,yE3,yE4,yE5,yEz,yEf0,yEf1,yEf2,yEf3,yEf4,yEf5⟩:=blf6 KE
  obtain ⟨yN0,yN1,yN2,yN3,yN4,yN5,yNz⟩:=blk6 KN
  obtain ⟨yT0,yT1,yT2,yT3,yT4,yT5,yTz⟩:=blk6 KT
  go_region
  replace KA:=kst (kst (kst (kst (kst (kst KA 0 (.int .i64 (cx'))) 1 (.int .i64 (cy'))) 2 (.int .i64 (x'))) 3 (.int .i64 (y'))) 4 (.int .i64 tick)) 5 (.int .i64 m1)
  refine ot7 (st6 w83 (w.heap.size + 1 + 1) 0 (.int .i64 (cx')) 1 (.int .i64 (cy')) 2 (.int .i64 (x')) 3 (.int .i64 (y')) 4 (.int .i64 tick) 5 (.int .i64 m1)) HB KS KI KE KC KN KM KT (by omega) (by omega) (by omega) (by omega) (by omega) (by omega) (by omega) (by omega) ?_
  clear HB KS KI KE KC KN KM KT
  intro HB KS KI KE KC KN KM KT
  clear yA0 yA1 yA2 yA3 yA4 yA5 yAz yAf0 yAf1 yAf2 yAf3 yAf4 yAf5 yE0 yE1 yE2 yE3 yE4 yE5 yEz yEf0 yEf1 yEf2 yEf3 yEf4 yEf5 yN0 yN1 yN2 yN3 yN4 yN5 yNz yT0 yT1 yT2 yT3 yT4 yT5 yTz
  simp only [List.set] at KA
  replace KE:=kst (kst (kst (kst (kst (kst KE 0 (.int .i64 (cx'))) 1 (.int .i64 (cy'))) 2 (.int .i64 (x'))) 3 (.int .i64 (y'))) 4 (.bool us)) 5 (.int .i64 0)
  refine ot7 (st6 ((((((w83.setCell ⟨(w.heap.size + 1 + 1),0,none⟩ (.int .i64 (cx'))).setCell ⟨(w.heap.size + 1 + 1),1,none⟩ (.int .i64 (cy'))).setCell ⟨(w.heap.size + 1 + 1),2,none⟩ (.int .i64 (x'))).setCell ⟨(w.heap.size + 1 + 1),3,none⟩ (.int .i64 (y'))).setCell ⟨(w.heap.size + 1 + 1),4,none⟩ (.int .i64 tick)).setCell ⟨(w.heap.size + 1 + 1),5,none⟩ (.int .i64 m1)) (w.heap.size + 1 + 1 + 1) 0 (.int .i64 (cx')) 1 (.int .i64 (cy')) 2 (.int .i64 (x')) 3 (.int .i64 (y')) 4 (.bool us) 5 (.int .i64 0)) HB KS KI KA KC KN KM KT (by omega) (by omega) (by omega) (by omega) (by omega) (by omega) (by omega) (by omega) ?_
  clear HB KS KI KA KC KN KM KT
  intro HB KS KI KA KC KN KM KT
  simp only [List.set] at KE
  replace KS:=Lib.hid (blk_drew1 KS.out)
  replace KI:=Lib.hid (blk_drew1 KI.out)
  replace KA:=Lib.hid (blk_drew1 KA.out)
  replace KE:=Lib.hid (blk_drew1 KE.out)
  replace KC:=Lib.hid (blk_drew1 KC.out)
  replace KN:=Lib.hid (blk_drew1 KN.out)
  replace KM:=Lib.hid (blk_drew1 KM.out)
  replace KT:=Lib.hid (blk_drew1 KT.out)
  replace HB:=Lib.hid (below_drew1 HB.out)
  generalize (((((((((((((w83.setCell ⟨(w.heap.size + 1 + 1),0,none⟩ (.int .i64 (cx'))).setCell ⟨(w.heap.size + 1 + 1),1,none⟩ (.int .i64 (cy'))).setCell ⟨(w.heap.size + 1 + 1),2,none⟩ (.int .i64 (x'))).setCell ⟨(w.heap.size + 1 + 1),3,none⟩ (.int .i64 (y'))).setCell ⟨(w.heap.size + 1 + 1),4,none⟩ (.int .i64 tick)).setCell ⟨(w.heap.size + 1 + 1),5,none⟩ (.int .i64 m1)).setCell ⟨(w.heap.size + 1 + 1 + 1),0,none⟩ (.int .i64 (cx'))).setCell ⟨(w.heap.size + 1 + 1 + 1),1,none⟩ (.int .i64 (cy'))).setCell ⟨(w.heap.size + 1 + 1 + 1),2,none⟩ (.int .i64 (x'))).setCell ⟨(w.heap.size + 1 + 1 + 1),3,none⟩ (.int .i64 (y'))).setCell ⟨(w.heap.size + 1 + 1 + 1),4,none⟩ (.bool us)).setCell ⟨(w.heap.size + 1 + 1 + 1),5,none⟩ (.int .i64 0))).drew = w86 at *
  obtain ⟨yA0,yA1,yA2,yA3,yA4,yA5,yAz⟩:=blk6 KA
  obtain ⟨yE0,yE1,yE2,yE3,yE4,yE5,yEz⟩:=blk6 KE
  go_wp2
  refine bodyPost_ret (v:=.tuple #[.agg #[.int .i64 (cx'),.int .i64 (cy'),.int .i64 (x'),.int .i64 (y'),.int .i64 tick,.int .i64 m1],.agg #[.int .i64 (cx'),.int .i64 (cy'),.int .i64 (x'),.int .i64 (y'),.bool us,.int .i64 0],.int .i64 0]) (by simp [results,Tryz.results17,go_sem,yA0,yA1,yA2,yA3,yA4,yA5,yE0,yE1,yE2,yE3,yE4,yE5]) rfl ⟨by rw [EV.out,EU.out],HB.out⟩
 | true =>
  have EV:=Lib.hid (EV0.out.trans (if_pos rfl))
  have US:=Lib.hid (US0.out dx dy d1 d2 k)
  obtain ⟨us,hus⟩:∃ z,useB d1 d2 rq = z:=⟨_,rfl⟩
  rw [hus] at US
  have EU:=Lib.hid hus
  clear hus EV0 US0
  obtain ⟨yN0,yN1,yN2,yN3,yN4,yN5,yNz,yNf0,yNf1,yNf2,yNf3,yNf4,yNf5⟩:=blf6 KN
  obtain ⟨yM0,yM1,yM2,yM3,yMz⟩:=blk4 KM
  go_upto_region 18 with (fail)
  replace KN:=kst (kst (kst (kst (kst KN 0 (.int .i64 dx)) 1 (.int .i64 dy)) 2 (.int .i64 d1)) 3 (.int .i64 d2)) 5 (.int .i64 0)
  refine ot6 (st5 w80 bN 0 (.int .i64 dx) 1 (.int .i64 dy) 2 (.int .i64 d1) 3 (.int .i64 d2) 5 (.int .i64 0)) HB KS KI KA KE KC KM (by omega) (by omega) (by omega) (by omega) (by omega) (by omega) (by omega) ?_
  clear HB KS KI KA KE KC KM
  intro HB KS KI KA KE KC KM
  clear yN0 yN1 yN2 yN3 yN4 yN5 yNz yNf0 yNf1 yNf2 yNf3 yNf4 yNf5 yM0 yM1 yM2 yM3 yMz
  generalize ((((w80.setCell _ _).setCell _ _).setCell _ _).setCell _ _).setCell _ _ = w81 at *
  simp only [List.set] at KN
  obtain ⟨yI0,yI1,yI2,yI3,yI4,yI5,yIz⟩:=blk6 KI
  obtain ⟨yN0,yN1,yN2,yN3,yN4,yN5,yNz⟩:=blk6 KN
  go_wp2_with fail
  obtain ⟨KT,hb82⟩:=alB w81 #[.int .i64 dx,.int .i64 dy,.int .i64 d1,.int .i64 d2,.bool false,.int .i64 k] 41
  have hnT:=HB.out.size
  have nzT_S:=KS.out.lt
  have nzT_I:=KI.out.lt
  have nzT_A:=KA.out.lt
  have nzT_E:=KE.out.lt
  have nzT_C:=KC.out.lt
  have nzT_N:=KN.out.lt
  have nzT_M:=KM.out.lt
  refine up7 hb82 HB KS KI KA KE KC KN KM ?_
  clear hb82 yI0 yI1 yI2 yI3 yI4 yI5 yIz yN0 yN1 yN2 yN3 yN4 yN5 yNz HB KS KI KA KE KC KN KM
  intro HB KS KI KA KE KC KN KM
  generalize w81.alloc _ = w82 at *
  generalize w81.heap.size = bT at *
  have neT_S:bT≠w.heap.size:=by omega
  have neT_I:bT≠(w.heap.size + 1):=by omega
  have neT_A:bT≠(w.heap.size + 1 + 1):=by omega
  have neT_E:bT≠(w.heap.size + 1 + 1 + 1):=by omega
  have neT_C:bT≠(w.heap.size + 1 + 1 + 1 + 1):=by omega
  have neT_N:bT≠bN:=by omega
  have neT_M:bT≠bM:=by omega
  clear nzT_S nzT_I nzT_A nzT_E nzT_C nzT_N nzT_M
  refine (US.out _).mono ?_
  rintro e83 w83 ⟨rfl,hb83⟩
  refine up8 hb83 HB KS KI KA KE KC KN KM KT ?_
  clear hb83 HB KS KI KA KE KC KN KM KT
  intro HB KS KI KA KE KC KN KM KT
  obtain ⟨yA0,yA1,yA2,yA3,yA4,yA5,yAz,yAf0,yAf1,yAf2,yAf3,yAf4,yAf5⟩:=blf6 KA
  obtain ⟨yE0,yE1,yE2,yE3,yE4,yE5,yEz,yEf0,yEf1,yEf2,yEf3,yEf4,yEf5⟩:=blf6 KE
  obtain ⟨yN0,yN1,yN2,yN3,yN4,yN5,yNz⟩:=blk6 KN
  obtain ⟨yT0,yT1,yT2,yT3,yT4,yT5,yTz,yTf0,yTf1,yTf2,yTf3,yTf4,yTf5⟩:=blf6 KT
  go_wp2_with fail
  replace KT:=kst KT 4 (.bool us)
  refine ot7 (st1 w83 bT 4 (.bool us)) HB KS KI KA KE KC KN KM (by omega) (by omega) (by omega) (by omega) (by omega) (by omega) (by omega) (by omega) ?_
  clear HB KS KI KA KE KC KN KM
  intro HB KS KI KA KE KC KN KM
  clear yA0 yA1 yA2 yA3 yA4 yA5 yAz yAf0 yAf1 yAf2 yAf3 yAf4 yAf5 yE0 yE1 yE2 yE3 yE4 yE5 yEz yEf0 yEf1 yEf2 yEf3 yEf4 yEf5 yN0 yN1 yN2 yN3 yN4 yN5 yNz yT0 yT1 yT2 yT3 yT4 yT5 yTz yTf0 yTf1 yTf2 yTf3 yTf4 yTf5
  generalize w83.setCell _ _ = w84 at *
  simp only [List.set] at KT
  obtain ⟨yA0,yA1,yA2,yA3,yA4,yA5,yAz,yAf0,yAf1,yAf2,yAf3,yAf4,yAf5⟩:=blf6 KA
  obtain ⟨yE0,yE1,yE2,yE3,yE4,yE5,yEz,yEf0,yEf1,yEf2,yEf3,yEf4,yEf5⟩:=blf6 KE
  obtain ⟨yN0,yN1,yN2,yN3,yN4,yN5,yNz⟩:=blk6 KN
  obtain ⟨yT0,yT1,yT2,yT3,yT4,yT5,yTz⟩:=blk6 KT
  go_region
  replace KA:=kst (kst (kst (kst (kst (kst KA 0 (.int .i64 dx)) 1 (.int .i64 dy)) 2 (.int .i64 d1)) 3 (.int .i64 d2)) 4 (.int .i64 tick)) 5 (.int .i64 0)
  refine ot7 (st6 w84 (w.heap.size + 1 + 1) 0 (.int .i64 dx) 1 (.int .i64 dy) 2 (.int .i64 d1) 3 (.int .i64 d2) 4 (.int .i64 tick) 5 (.int .i64 0)) HB KS KI KE KC KN KM KT (by omega) (by omega) (by omega) (by omega) (by omega) (by omega) (by omega) (by omega) ?_
  clear HB KS KI KE KC KN KM KT
  intro HB KS KI KE KC KN KM KT
  clear yA0 yA1 yA2 yA3 yA4 yA5 yAz yAf0 yAf1 yAf2 yAf3 yAf4 yAf5 yE0 yE1 yE2 yE3 yE4 yE5 yEz yEf0 yEf1 yEf2 yEf3 yEf4 yEf5 yN0 yN1 yN2 yN3 yN4 yN5 yNz yT0 yT1 yT2 yT3 yT4 yT5 yTz
  simp only [List.set] at KA
  replace KE:=kst (kst (kst (kst (kst (kst KE 0 (.int .i64 dx)) 1 (.int .i64 dy)) 2 (.int .i64 d1)) 3 (.int .i64 d2)) 4 (.bool us)) 5 (.int .i64 k)
  refine ot7 (st6 ((((((w84.setCell ⟨(w.heap.size + 1 + 1),0,none⟩ (.int .i64 dx)).setCell ⟨(w.heap.size + 1 + 1),1,none⟩ (.int .i64 dy)).setCell ⟨(w.heap.size + 1 + 1),2,none⟩ (.int .i64 d1)).setCell ⟨(w.heap.size + 1 + 1),3,none⟩ (.int .i64 d2)).setCell ⟨(w.heap.size + 1 + 1),4,none⟩ (.int .i64 tick)).setCell ⟨(w.heap.size + 1 + 1),5,none⟩ (.int .i64 0)) (w.heap.size + 1 + 1 + 1) 0 (.int .i64 dx) 1 (.int .i64 dy) 2 (.int .i64 d1) 3 (.int .i64 d2) 4 (.bool us) 5 (.int .i64 k)) HB KS KI KA KC KN KM KT (by omega) (by omega) (by omega) (by omega) (by omega) (by omega) (by omega) (by omega) ?_
  clear HB KS KI KA KC KN KM KT
  intro HB KS KI KA KC KN KM KT
  simp only [List.set] at KE
  replace KS:=Lib.hid (blk_drew1 KS.out)
  replace KI:=Lib.hid (blk_drew1 KI.out)
  replace KA:=Lib.hid (blk_drew1 KA.out)
  replace KE:=Lib.hid (blk_drew1 KE.out)
  replace KC:=Lib.hid (blk_drew1 KC.out)
  replace KN:=Lib.hid (blk_drew1 KN.out)
  replace KM:=Lib.hid (blk_drew1 KM.out)
  replace KT:=Lib.hid (blk_drew1 KT.out)
  replace HB:=Lib.hid (below_drew1 HB.out)
  generalize (((((((((((((w84.setCell ⟨(w.heap.size + 1 + 1),0,none⟩ (.int .i64 dx)).setCell ⟨(w.heap.size + 1 + 1),1,none⟩ (.int .i64 dy)).setCell ⟨(w.heap.size + 1 + 1),2,none⟩ (.int .i64 d1)).setCell ⟨(w.heap.size + 1 + 1),3,none⟩ (.int .i64 d2)).setCell ⟨(w.heap.size + 1 + 1),4,none⟩ (.int .i64 tick)).setCell ⟨(w.heap.size + 1 + 1),5,none⟩ (.int .i64 0)).setCell ⟨(w.heap.size + 1 + 1 + 1),0,none⟩ (.int .i64 dx)).setCell ⟨(w.heap.size + 1 + 1 + 1),1,none⟩ (.int .i64 dy)).setCell ⟨(w.heap.size + 1 + 1 + 1),2,none⟩ (.int .i64 d1)).setCell ⟨(w.heap.size + 1 + 1 + 1),3,none⟩ (.int .i64 d2)).setCell ⟨(w.heap.size + 1 + 1 + 1),4,none⟩ (.bool us)).setCell ⟨(w.heap.size + 1 + 1 + 1),5,none⟩ (.int .i64 k))).drew = w87 at *
  obtain ⟨yA0,yA1,yA2,yA3,yA4,yA5,yAz⟩:=blk6 KA
  obtain ⟨yE0,yE1,yE2,yE3,yE4,yE5,yEz⟩:=blk6 KE
  go_wp2
  refine bodyPost_ret (v:=.tuple #[.agg #[.int .i64 dx,.int .i64 dy,.int .i64 d1,.int .i64 d2,.int .i64 tick,.int .i64 0],.agg #[.int .i64 dx,.int .i64 dy,.int .i64 d1,.int .i64 d2,.bool us,.int .i64 k],.int .i64 0]) (by simp [results,Tryz.results17,go_sem,yA0,yA1,yA2,yA3,yA4,yA5,yE0,yE1,yE2,yE3,yE4,yE5]) rfl ⟨by rw [EV.out,EU.out],HB.out⟩
end Go.Proofs.YtajmjkliblippaaGreatDoor
