/-
  The reference's Step of layer 46: the good way.
-/
import Derived.Test.YtajmjkliblippaaGreatDoorRef46DZ
set_option linter.unusedVariables false
namespace Go.Proofs.YtajmjkliblippaaGreatDoor
open Go.RowKit
set_option maxHeartbeats 40000000
set_option maxRecDepth 100000
theorem rstep_ok (b:Bx4) (t m tick ve vn dr rq:Int) (L:List Rp) (v:Value) (w:World) (h:RlG L v w) (hK:∀ i,i < L.length→0≤(nthR L i).k∧(nthR L i).k≤255) (he:stpE2 b t m tick ve vn dr rq L.length = 0) :
 Calls Tryz.prog 18 #[.agg #[.int .i64 b.cx,.int .i64 b.cy,.int .i64 b.x,.int .i64 b.y,.int .i64 t,.int .i64 m],.agg #[.int .i64 tick,v,.int .i64 ve,.int .i64 vn,.int .i64 dr,.int .i64 rq]] w fun e w'=>e = .returned (.tuple #[.agg #[.int .i64 (stpC b t m tick ve vn dr L).box.cx,.int .i64 (stpC b t m tick ve vn dr L).box.cy,.int .i64 (stpC b t m tick ve vn dr L).box.x,.int .i64 (stpC b t m tick ve vn dr L).box.y,.int .i64 tick,.int .i64 (stpC b t m tick ve vn dr L).ms],.agg #[.int .i64 (stpC b t m tick ve vn dr L).box.cx,.int .i64 (stpC b t m tick ve vn dr L).box.cy,.int .i64 (stpC b t m tick ve vn dr L).box.x,.int .i64 (stpC b t m tick ve vn dr L).box.y,.bool (useB (stpC b t m tick ve vn dr L).box.x (stpC b t m tick ve vn dr L).box.y rq),.int .i64 (stpC b t m tick ve vn dr L).ex],.int .i64 0])∧Below w.heap.size w w':=by
 obtain ⟨p,cap,rfl⟩:=rg_form h
 have H:=Lib.hid h
 clear h
 obtain ⟨hc,h0,⟨h1,h2,h3⟩,h8,h4⟩:=stp_ok2 he
 obtain ⟨_,⟨c0,c1⟩,c2,c3⟩:=chkS_ok hc
 have CK0:=fun w=>rcheck_any b t m w
 rw [hc] at CK0
 have CO0:=fun w=>rcoast_any b ve vn dr (tick - t) w
 rw [(cst_val h4).2.2.2] at CO0
 have WR0:=fun w=>r46_within rq 0 2000000 w
 rw [show frm rq 0 2000000 = true by unfold frm; simp [h2,h3]] at WR0
 have WR:=Lib.hid WR0
 clear WR0
 have US0:=Lib.hid fun a0 a1 a2 a3 k w=>rusable_any a0 a1 a2 a3 k rq false w
 have E0:stpC b t m tick ve vn dr L = cycF (movB b ve vn dr (tick - t)) m (rowsT tick (movB b ve vn dr (tick - t)).cx (movB b ve vn dr (tick - t)).cy (movB b ve vn dr (tick - t)).x (movB b ve vn dr (tick - t)).y L):=rfl
 generalize stpC b t m tick ve vn dr L = q at *
 have sw:IntKind.i64.wrap (tick - t) = tick - t:=IntWalk.i64_in _ (by omega)
 have sm:IntKind.i64.wrap (m + 1) = m + 1:=IntWalk.i64_in _ (by omega)
 have g0:decide (tick≤t) = false:=by simp; omega
 have g1:decide (1099511627776 < tick) = false:=by simp; omega
 have g4:decide (8 < L.length) = false:=by simp; omega
 have g5:decide ((8:Int) < (L.length:Int)) = false:=by simp; omega
 have HN:=Lib.hid (show L.length≤20000 by omega)
 have KK:=Lib.hid hK
 clear he hc h0 h1 h2 h3 h4 h8 c0 c1 c2 c3 hK
 generalize movB b ve vn dr (tick - t) = r at *
 obtain ⟨l,hl⟩:∃ z,rowsT tick r.cx r.cy r.x r.y L = z:=⟨_,rfl⟩
 rw [hl] at E0
 have FX:=Lib.hid fun v w h=>rfix_any r l v w h
 unfold cycF at E0
 generalize fixF l r = f at *
 obtain ⟨⟨⟨dx,dy,d1,d2⟩,k'⟩,ok⟩:=f
 obtain ⟨cx',cy',x',y'⟩:=r
 obtain ⟨cx,cy,x,y⟩:=b
 simp only at CK0 CO0 E0 FX hl
 obtain ⟨m1,hm1⟩:∃ z,min (m + 1) 1000 = z:=⟨_,rfl⟩
 rw [hm1] at E0
 have EV0:=Lib.hid E0
 have CK:=Lib.hid CK0
 have CO:=Lib.hid CO0
 clear CK0 CO0 E0
 obtain ⟨KS,KI,KA,KE,HB⟩:=ent4 w #[.int .i64 cx,.int .i64 cy,.int .i64 x,.int .i64 y,.int .i64 t,.int .i64 m] 27 #[.int .i64 tick,.slice p L.length cap,.int .i64 ve,.int .i64 vn,.int .i64 dr,.int .i64 rq] 38 #[.int .i64 0,.int .i64 0,.int .i64 0,.int .i64 0,.int .i64 0,.int .i64 0] 27 #[.int .i64 0,.int .i64 0,.int .i64 0,.int .i64 0,.bool false,.int .i64 0] 41
 go_enter Tryz.func18,Tryz.ntmps18
 go_wp2_with fail
 generalize (((w.alloc _).alloc _).alloc _).alloc _ = w0 at *
 refine (CK.out _).mono ?_
 rintro e1 w1 ⟨rfl,hb1⟩
 refine up4 hb1 HB KS KI KA KE ?_
 clear hb1 HB KS KI KA KE
 intro HB KS KI KA KE
 obtain ⟨yS0,yS1,yS2,yS3,yS4,yS5,ySz⟩:=blk6 KS
 obtain ⟨yI0,yI1,yI2,yI3,yI4,yI5,yIz⟩:=blk6 KI
 go_wp2_with fail
 refine (WR.out _).mono ?_
 rintro e2 w2 ⟨rfl,hb2⟩
 refine up4 hb2 HB KS KI KA KE ?_
 clear hb2 yS0 yS1 yS2 yS3 yS4 yS5 ySz yI0 yI1 yI2 yI3 yI4 yI5 yIz HB KS KI KA KE
 intro HB KS KI KA KE
 obtain ⟨yS0,yS1,yS2,yS3,yS4,yS5,ySz⟩:=blk6 KS
 obtain ⟨yI0,yI1,yI2,yI3,yI4,yI5,yIz⟩:=blk6 KI
 go_wp2_with fail
 refine (CO.out _).mono ?_
 rintro e3 w3 ⟨rfl,hb3⟩
 refine up4 hb3 HB KS KI KA KE ?_
 clear hb3 yS0 yS1 yS2 yS3 yS4 yS5 ySz yI0 yI1 yI2 yI3 yI4 yI5 yIz HB KS KI KA KE
 intro HB KS KI KA KE
 go_upto_region 11 with (fail)
 obtain ⟨KC,hb4⟩:=alB w3 #[.int .i64 (cx'),.int .i64 (cy'),.int .i64 (x'),.int .i64 (y')] 25
 have hnC:=HB.out.size
 have nzC_S:=KS.out.lt
 have nzC_I:=KI.out.lt
 have nzC_A:=KA.out.lt
 have nzC_E:=KE.out.lt
 refine up4 hb4 HB KS KI KA KE ?_
 clear hb4 HB KS KI KA KE
 intro HB KS KI KA KE
 generalize w3.alloc _ = w4 at *
 generalize w3.heap.size = bC at *
 have neC_S:bC≠w.heap.size:=by omega
 have neC_I:bC≠(w.heap.size + 1):=by omega
 have neC_A:bC≠(w.heap.size + 1 + 1):=by omega
 have neC_E:bC≠(w.heap.size + 1 + 1 + 1):=by omega
 clear nzC_S nzC_I nzC_A nzC_E
 obtain ⟨yI0,yI1,yI2,yI3,yI4,yI5,yIz⟩:=blk6 KI
 go_upto_region 14 with (fail)
 clear yI0 yI1 yI2 yI3 yI4 yI5 yIz
 have KS1:=KS
 have KI1:=KI
 have KA1:=KA
 have KE1:=KE
 have KC1:=KC
 have HB1:=HB
 have hS1:=KS.out.lt
 have hI1:=KI.out.lt
 have hA1:=KA.out.lt
 have hE1:=KE.out.lt
 have hC1:=KC.out.lt
 have h11:=HB.out.size
 have HO1:=Lib.hid (show OM w4.heap.size (w4.alloc (.cells #[] 71)) (.slice (some ⟨w4.heap.size,0,none⟩) 0 0) (rowsT tick cx' cy' x' y' (L.take 0)) from World.ownsRow_lit w4 #[] 0 (Nat.le_refl _) (by decide) rfl)
 have hbq:=(Below.refl w4.heap.size w4).alloc (Nat.le_refl _) (.cells #[] 71)
 refine up5 hbq HB KS KI KA KE KC ?_
 clear HB KS KI KA KE KC
 intro HB KS KI KA KE KC
 have HQ1:=Lib.hid hbq
 clear hbq
 generalize w4.alloc _ = wq at *
 obtain ⟨yI0,yI1,yI2,yI3,yI4,yI5,yIz⟩:=blk6 KI
 go_wp2
 go_loopw [9,78] (NwR L tick cx' cy' x' y' w4) (fun _ i _=>L.length - (intOf i).toNat)
 case atStart=>exact ⟨0,rfl,Nat.zero_le _,HQ1,HO1⟩
 case round =>
  clear HB KS KI KA KE KC HQ1 HO1
  obtain ⟨k,rfl,hk,HBR,HO⟩:=hrel
  have KS:=Lib.hid (blk_keep KS1.out HBR.out hS1)
  have KI:=Lib.hid (blk_keep KI1.out HBR.out hI1)
  have KA:=Lib.hid (blk_keep KA1.out HBR.out hA1)
  have KE:=Lib.hid (blk_keep KE1.out HBR.out hE1)
  have KC:=Lib.hid (blk_keep KC1.out HBR.out hC1)
  have HB:=Lib.hid (HB1.out.trans (HBR.out.mono h11))
  by_cases q:k < L.length
  ·have q':decide (k < L.length) = true:=by simpa using q
   obtain ⟨b,o,rfl,hcap,hmax,RA⟩:=rg_at (H.out.below HB.out) q
   have HR:=Lib.hid RA
   have c0:=RA.c0 k q
   have c1:=RA.c1 k q
   have c2:=RA.c2 k q
   have c3:=RA.c3 k q
   have c4:=RA.c4 k q
   have c5:=RA.c5 k q
   have c6:=RA.c6 k q
   have c7:=RA.c7 k q
   have clt:=RA.lt
   clear RA
   have hkk:=KK.out k q
   have SU:=Lib.hid (rowsT_succ tick cx' cy' x' y' q)
   have LN:=Lib.hid (show (rowsT tick cx' cy' x' y' (L.take k)).length≤50000 by have h1:=rowsT_len tick cx' cy' x' y' (L.take k); have h2:=List.length_take_le k L; have:=HN.out; omega)
   obtain ⟨rr,hrr⟩:∃ z,nthR L k = z:=⟨_,rfl⟩
   rw [hrr] at c0 c1 c2 c3 c4 c5 c6 c7 hkk SU
   clear hrr
   have RW:=Lib.hid fun w=>rrowsN_any rr cx' cy' x' y' w hkk.1 hkk.2
   have N0:=Lib.hid fun h=>rowT_other (tk:=tick) (cx:=cx') (cy:=cy') (x:=x') (y:=y') (r:=rr) h
   have N1:=Lib.hid fun h=>rowT_bad (tk:=tick) (cx:=cx') (cy:=cy') (x:=x') (y:=y') (r:=rr) h
   have N2:=Lib.hid fun h=>rowT_good (tk:=tick) (cx:=cx') (cy:=cy') (x:=x') (y:=y') (r:=rr) h
   have RL:=Lib.hid (rowsN_len rr cx' cy' x' y')
   have RG:=Lib.hid (rowsN_good (r:=rr) (cx:=cx') (cy:=cy') (bx:=x') (b2:=y'))
   clear hkk
   generalize rowT tick cx' cy' x' y' rr = rt at *
   obtain ⟨R,hR⟩:∃ z,rowsN rr cx' cy' x' y' = z:=⟨_,rfl⟩
   rw [hR] at RW N1 N2 RL RG
   clear hR
   obtain ⟨pl,en⟩:=R
   simp only at RW N1 N2 RL RG
   go_upto_region 17 with (fail)
   obtain ⟨KG,hb61⟩:=alB wr #[.int .i64 rr.s,.int .u8 rr.k,.int .i64 rr.x,.int .i64 rr.y,.int .i64 rr.v,.int .i64 rr.b,.int .i64 rr.wt,.int .i64 rr.t] 49
   have hnG:=HB.out.size
   have nzG_S:=KS.out.lt
   have nzG_I:=KI.out.lt
   have nzG_A:=KA.out.lt
   have nzG_E:=KE.out.lt
   have nzG_C:=KC.out.lt
   refine up5 hb61 HB KS KI KA KE KC ?_
   clear HB KS KI KA KE KC
   intro HB KS KI KA KE KC
   replace HO:=Lib.hid (HO.out.below hb61)
   replace HR:=Lib.hid (HR.out.below hb61)
   replace HBR:=Lib.hid (HBR.out.trans (hb61.mono (Nat.le_trans (Nat.le_refl w4.heap.size) HBR.out.size)))
   clear hb61
   generalize wr.alloc _ = w61 at *
   generalize wr.heap.size = bG at *
   have neG_S:bG≠w.heap.size:=by omega
   have neG_I:bG≠(w.heap.size + 1):=by omega
   have neG_A:bG≠(w.heap.size + 1 + 1):=by omega
   have neG_E:bG≠(w.heap.size + 1 + 1 + 1):=by omega
   have neG_C:bG≠bC:=by omega
   clear nzG_S nzG_I nzG_A nzG_E nzG_C
   clear c0 c1 c2 c3 c4 c5 c6 c7 clt
   obtain ⟨yC0,yC1,yC2,yC3,yCz⟩:=blk4 KC
   obtain ⟨yG0,yG1,yG2,yG3,yG4,yG5,yG6,yG7,yGz⟩:=blk8 KG
   go_wp2_with fail
   refine (RW.out _).mono ?_
   rintro e62 w62 ⟨ur,rfl,hrn,hb62⟩
   refine up6 hb62 HB KS KI KA KE KC KG ?_
   clear HB KS KI KA KE KC KG
   intro HB KS KI KA KE KC KG
   replace HO:=Lib.hid (HO.out.below hb62)
   replace HR:=Lib.hid (HR.out.below hb62)
   replace HBR:=Lib.hid (HBR.out.trans (hb62.mono (Nat.le_trans (Nat.le_refl w4.heap.size) HBR.out.size)))
   clear yC0 yC1 yC2 yC3 yCz yG0 yG1 yG2 yG3 yG4 yG5 yG6 yG7 yGz
   clear hb62
   clear RW
   by_cases ht:rr.t = tick
   ·have g:(rr.t == tick) = true:=by simpa using ht
    have N3:=Lib.hid (N2.out ht)
    clear N0 N2 ht
    by_cases he:en = 0
    ·subst he
     have hne:=RG.out (by first | rfl | trivial)
     obtain ⟨kk,hur,hk2⟩:∃ kk:Nat,ur = .slice (some ⟨kk,0,none⟩) pl.length pl.length∧w62.heap[kk]? = some (.cells (msC pl).toArray 71):=by
      rcases hrn with ⟨e,_⟩ | ⟨kk,_,e,_,h2⟩
      ·exact absurd e hne
      ·exact ⟨kk,e,h2⟩
     subst hur
     clear hrn RG
     have HK2:=Lib.hid hk2
     clear hk2
     have OL:=Lib.hid (World.ownsRow.lt HO.out)
     obtain ⟨yI0,yI1,yI2,yI3,yI4,yI5,yIz⟩:=blk6 KI
     obtain ⟨yG0,yG1,yG2,yG3,yG4,yG5,yG6,yG7,yGz⟩:=blk8 KG
     go_wp2_with (at_builtin; refine Halt.mk ?_)
     unfold Halt
     refine wpList_oml rfl (.tmp 97) (.tmp 98) rfl w4.heap.size u9 (rowsT tick cx' cy' x' y' (L.take k)) rfl w62 HO.out kk pl rfl HK2.out (by have:=LN.out; have:=RL.out; omega) HBR.out.size ?_
     intro u2 w5 ho5 hg5 hat5
     clear hat5 HK2
     have HBR5:=Lib.hid (below_grown HBR.out hg5 HBR.out.size fun k hk=>(OL.out k hk).1)
     clear hg5
     obtain ⟨g5,cap5,hu2⟩:=Go.Joins.ownsRow_form ho5 (show 0 < (rowsT tick cx' cy' x' y' (L.take k) ++ pl).length by rw [List.length_append]; have:=List.length_pos_iff.2 hne; omega)
     rw [← N3.out] at ho5 hu2
     rw [← SU.out] at ho5 hu2
     have HO6:=Lib.hid ho5
     obtain ⟨N5,hN5⟩:∃ N,(rowsT tick cx' cy' x' y' (L.take (k + 1))).length = N:=⟨_,rfl⟩
     rw [hN5] at hu2
     clear ho5 hN5
     subst hu2
     clear yI0 yI1 yI2 yI3 yI4 yI5 yIz yG0 yG1 yG2 yG3 yG4 yG5 yG6 yG7 yGz
     clear HO OL hne LN RL SU N1 N3 KG hnG neG_S neG_I neG_A neG_E neG_C HBR HB
     have HBR:=HBR5
     go_wp2
     exact ⟨⟨k + 1,by go_num,by omega,HBR,HO6⟩,by simp [intOf]; omega⟩
    ·have ge:(en == 0) = false:=by simpa using he
     have HO6:=Lib.hid (show OM w4.heap.size w62 u9 (rowsT tick cx' cy' x' y' (L.take (k + 1))) from by rw [SU.out,N1.out he,List.append_nil]; exact HO.out)
     clear HO SU N1 N3 RG RL LN hrn
     clear he
     obtain ⟨yI0,yI1,yI2,yI3,yI4,yI5,yIz⟩:=blk6 KI
     obtain ⟨yG0,yG1,yG2,yG3,yG4,yG5,yG6,yG7,yGz⟩:=blk8 KG
     go_wp2
     exact ⟨⟨k + 1,by go_num,by omega,HBR,HO6⟩,by simp [intOf]; omega⟩
   ·have g:(rr.t == tick) = false:=by simpa using ht
    have HO6:=Lib.hid (show OM w4.heap.size w62 u9 (rowsT tick cx' cy' x' y' (L.take (k + 1))) from by rw [SU.out,N0.out ht,List.append_nil]; exact HO.out)
    clear HO SU N0 N1 N2 RG RL LN hrn
    clear ht
    obtain ⟨yI0,yI1,yI2,yI3,yI4,yI5,yIz⟩:=blk6 KI
    obtain ⟨yG0,yG1,yG2,yG3,yG4,yG5,yG6,yG7,yGz⟩:=blk8 KG
    go_wp2
    exact ⟨⟨k + 1,by go_num,by omega,HBR,HO6⟩,by simp [intOf]; omega⟩
  ·obtain rfl:k = L.length:=by omega
   have q':decide (L.length < L.length) = false:=by simp
   rw [List.take_length] at HO
   rw [hl] at HO
   have OL:=Lib.hid HO.out.lst
   clear HO HBR q hk hl KS1 hS1 KI1 hI1 KA1 hA1 KE1 hE1 KC1 hC1 HB1
   obtain ⟨yS0,yS1,yS2,yS3,yS4,yS5,ySz⟩:=blk6 KS
   obtain ⟨yI0,yI1,yI2,yI3,yI4,yI5,yIz⟩:=blk6 KI
   obtain ⟨yC0,yC1,yC2,yC3,yCz⟩:=blk4 KC
   go_upto_region 22 with (fail)
   obtain ⟨KN,hb81⟩:=alB wr #[.int .i64 (cx'),.int .i64 (cy'),.int .i64 (x'),.int .i64 (y'),.int .i64 tick,.int .i64 m1] 27
   have hnN:=HB.out.size
   have nzN_S:=KS.out.lt
   have nzN_I:=KI.out.lt
   have nzN_A:=KA.out.lt
   have nzN_E:=KE.out.lt
   have nzN_C:=KC.out.lt
   refine up5 hb81 HB KS KI KA KE KC ?_
   clear HB KS KI KA KE KC
   intro HB KS KI KA KE KC
   replace OL:=Lib.hid (OL.out.below hb81)
   clear yS0 yS1 yS2 yS3 yS4 yS5 ySz yI0 yI1 yI2 yI3 yI4 yI5 yIz yC0 yC1 yC2 yC3 yCz
   clear hb81
   generalize wr.alloc _ = w81 at *
   generalize wr.heap.size = bN at *
   have neN_S:bN≠w.heap.size:=by omega
   have neN_I:bN≠(w.heap.size + 1):=by omega
   have neN_A:bN≠(w.heap.size + 1 + 1):=by omega
   have neN_E:bN≠(w.heap.size + 1 + 1 + 1):=by omega
   have neN_C:bN≠bC:=by omega
   clear nzN_S nzN_I nzN_A nzN_E nzN_C
   obtain ⟨yC0,yC1,yC2,yC3,yCz⟩:=blk4 KC
   go_wp2_with fail
   refine (FX.out _ _ OL.out).mono ?_
   rintro e82 w82 ⟨rfl,hb82⟩
   refine up6 hb82 HB KS KI KA KE KC KN ?_
   clear HB KS KI KA KE KC KN
   intro HB KS KI KA KE KC KN
   replace OL:=Lib.hid (OL.out.below hb82)
   clear yC0 yC1 yC2 yC3 yCz
   clear hb82
   clear OL
   go_upto_region 23 with (fail)
   obtain ⟨KM,hb83⟩:=alB w82 #[.int .i64 dx,.int .i64 dy,.int .i64 d1,.int .i64 d2] 25
   have hnM:=HB.out.size
   have nzM_S:=KS.out.lt
   have nzM_I:=KI.out.lt
   have nzM_A:=KA.out.lt
   have nzM_E:=KE.out.lt
   have nzM_C:=KC.out.lt
   have nzM_N:=KN.out.lt
   refine up6 hb83 HB KS KI KA KE KC KN ?_
   clear hb83 HB KS KI KA KE KC KN
   intro HB KS KI KA KE KC KN
   generalize w82.alloc _ = w83 at *
   generalize w82.heap.size = bM at *
   have neM_S:bM≠w.heap.size:=by omega
   have neM_I:bM≠(w.heap.size + 1):=by omega
   have neM_A:bM≠(w.heap.size + 1 + 1):=by omega
   have neM_E:bM≠(w.heap.size + 1 + 1 + 1):=by omega
   have neM_C:bM≠bC:=by omega
   have neM_N:bM≠bN:=by omega
   clear nzM_S nzM_I nzM_A nzM_E nzM_C nzM_N
   cases ok with
   | false =>
    have EV:=Lib.hid (EV0.out.trans (if_neg (by decide)))
    have US:=Lib.hid (US0.out cx' cy' x' y' 0)
    obtain ⟨us,hus⟩:∃ z,useB x' y' rq = z:=⟨_,rfl⟩
    rw [hus] at US
    have EU:=Lib.hid hus
    clear hus EV0 US0
    obtain ⟨yI0,yI1,yI2,yI3,yI4,yI5,yIz⟩:=blk6 KI
    obtain ⟨yN0,yN1,yN2,yN3,yN4,yN5,yNz⟩:=blk6 KN
    go_wp2_with fail
    obtain ⟨KT,hb84⟩:=alB w83 #[.int .i64 (cx'),.int .i64 (cy'),.int .i64 (x'),.int .i64 (y'),.bool false,.int .i64 0] 41
    have hnT:=HB.out.size
    have nzT_S:=KS.out.lt
    have nzT_I:=KI.out.lt
    have nzT_A:=KA.out.lt
    have nzT_E:=KE.out.lt
    have nzT_C:=KC.out.lt
    have nzT_N:=KN.out.lt
    have nzT_M:=KM.out.lt
    refine up7 hb84 HB KS KI KA KE KC KN KM ?_
    clear hb84 yI0 yI1 yI2 yI3 yI4 yI5 yIz yN0 yN1 yN2 yN3 yN4 yN5 yNz HB KS KI KA KE KC KN KM
    intro HB KS KI KA KE KC KN KM
    generalize w83.alloc _ = w84 at *
    generalize w83.heap.size = bT at *
    have neT_S:bT≠w.heap.size:=by omega
    have neT_I:bT≠(w.heap.size + 1):=by omega
    have neT_A:bT≠(w.heap.size + 1 + 1):=by omega
    have neT_E:bT≠(w.heap.size + 1 + 1 + 1):=by omega
    have neT_C:bT≠bC:=by omega
    have neT_N:bT≠bN:=by omega
    have neT_M:bT≠bM:=by omega
    clear nzT_S nzT_I nzT_A nzT_E nzT_C nzT_N nzT_M
    refine (US.out _).mono ?_
    rintro e85 w85 ⟨rfl,hb85⟩
    refine up8 hb85 HB KS KI KA KE KC KN KM KT ?_
    clear hb85 HB KS KI KA KE KC KN KM KT
    intro HB KS KI KA KE KC KN KM KT
    obtain ⟨yA0,yA1,yA2,yA3,yA4,yA5,yAz,yAf0,yAf1,yAf2,yAf3,yAf4,yAf5⟩:=blf6 KA
    obtain ⟨yE0,yE1,yE2,yE3,yE4,yE5,yEz,yEf0,yEf1,yEf2,yEf3,yEf4,yEf5⟩:=blf6 KE
    obtain ⟨yN0,yN1,yN2,yN3,yN4,yN5,yNz⟩:=blk6 KN
    obtain ⟨yT0,yT1,yT2,yT3,yT4,yT5,yTz,yTf0,yTf1,yTf2,yTf3,yTf4,yTf5⟩:=blf6 KT
    go_wp2_with fail
    replace KT:=kst KT 4 (.bool us)
    refine ot7 (st1 w85 bT 4 (.bool us)) HB KS KI KA KE KC KN KM (by omega) (by omega) (by omega) (by omega) (by omega) (by omega) (by omega) (by omega) ?_
    clear HB KS KI KA KE KC KN KM
    intro HB KS KI KA KE KC KN KM
    clear yA0 yA1 yA2 yA3 yA4 yA5 yAz yAf0 yAf1 yAf2 yAf3 yAf4 yAf5 yE0 yE1 yE2 yE3 yE4 yE5 yEz yEf0 yEf1 yEf2 yEf3 yEf4 yEf5 yN0 yN1 yN2 yN3 yN4 yN5 yNz yT0 yT1 yT2 yT3 yT4 yT5 yTz yTf0 yTf1 yTf2 yTf3 yTf4 yTf5
    generalize w85.setCell _ _ = w86 at *
    simp only [List.set] at KT
    obtain ⟨yA0,yA1,yA2,yA3,yA4,yA5,yAz,yAf0,yAf1,yAf2,yAf3,yAf4,yAf5⟩:=blf6 KA
    obtain ⟨yE0,yE1,yE2,yE3,yE4,yE5,yEz,yEf0,yEf1,yEf2,yEf3,yEf4,yEf5⟩:=blf6 KE
    obtain ⟨yN0,yN1,yN2,yN3,yN4,yN5,yNz⟩:=blk6 KN
    obtain ⟨yT0,yT1,yT2,yT3,yT4,yT5,yTz⟩:=blk6 KT
    go_region
    replace KA:=kst (kst (kst (kst (kst (kst KA 0 (.int .i64 (cx'))) 1 (.int .i64 (cy'))) 2 (.int .i64 (x'))) 3 (.int .i64 (y'))) 4 (.int .i64 tick)) 5 (.int .i64 m1)
    refine ot7 (st6 w86 (w.heap.size + 1 + 1) 0 (.int .i64 (cx')) 1 (.int .i64 (cy')) 2 (.int .i64 (x')) 3 (.int .i64 (y')) 4 (.int .i64 tick) 5 (.int .i64 m1)) HB KS KI KE KC KN KM KT (by omega) (by omega) (by omega) (by omega) (by omega) (by omega) (by omega) (by omega) ?_
    clear HB KS KI KE KC KN KM KT
    intro HB KS KI KE KC KN KM KT
    clear yA0 yA1 yA2 yA3 yA4 yA5 yAz yAf0 yAf1 yAf2 yAf3 yAf4 yAf5 yE0 yE1 yE2 yE3 yE4 yE5 yEz yEf0 yEf1 yEf2 yEf3 yEf4 yEf5 yN0 yN1 yN2 yN3 yN4 yN5 yNz yT0 yT1 yT2 yT3 yT4 yT5 yTz
    simp only [List.set] at KA
    replace KE:=kst (kst (kst (kst (kst (kst KE 0 (.int .i64 (cx'))) 1 (.int .i64 (cy'))) 2 (.int .i64 (x'))) 3 (.int .i64 (y'))) 4 (.bool us)) 5 (.int .i64 0)
    refine ot7 (st6 ((((((w86.setCell ⟨(w.heap.size + 1 + 1),0,none⟩ (.int .i64 (cx'))).setCell ⟨(w.heap.size + 1 + 1),1,none⟩ (.int .i64 (cy'))).setCell ⟨(w.heap.size + 1 + 1),2,none⟩ (.int .i64 (x'))).setCell ⟨(w.heap.size + 1 + 1),3,none⟩ (.int .i64 (y'))).setCell ⟨(w.heap.size + 1 + 1),4,none⟩ (.int .i64 tick)).setCell ⟨(w.heap.size + 1 + 1),5,none⟩ (.int .i64 m1)) (w.heap.size + 1 + 1 + 1) 0 (.int .i64 (cx')) 1 (.int .i64 (cy')) 2 (.int .i64 (x')) 3 (.int .i64 (y')) 4 (.bool us) 5 (.int .i64 0)) HB KS KI KA KC KN KM KT (by omega) (by omega) (by omega) (by omega) (by omega) (by omega) (by omega) (by omega) ?_
    clear HB KS KI KA KC KN KM KT
    intro HB KS KI KA KC KN KM KT
    simp only [List.set] at KE
    replace KS:=Lib.hid (blk_drew1 KS.out)
    replace KI:=Lib.hid (blk_drew1 KI.out)
    replace KA:=Lib.hid (blk_drew1 KA.out)
    replace KE:=Lib.hid (blk_drew1 KE.out)
    replace KC:=Lib.hid (blk_drew1 KC.out)
    replace KN:=Lib.hid (blk_drew1 KN.out)
    replace KM:=Lib.hid (blk_drew1 KM.out)
    replace KT:=Lib.hid (blk_drew1 KT.out)
    replace HB:=Lib.hid (below_drew1 HB.out)
    generalize (((((((((((((w86.setCell ⟨(w.heap.size + 1 + 1),0,none⟩ (.int .i64 (cx'))).setCell ⟨(w.heap.size + 1 + 1),1,none⟩ (.int .i64 (cy'))).setCell ⟨(w.heap.size + 1 + 1),2,none⟩ (.int .i64 (x'))).setCell ⟨(w.heap.size + 1 + 1),3,none⟩ (.int .i64 (y'))).setCell ⟨(w.heap.size + 1 + 1),4,none⟩ (.int .i64 tick)).setCell ⟨(w.heap.size + 1 + 1),5,none⟩ (.int .i64 m1)).setCell ⟨(w.heap.size + 1 + 1 + 1),0,none⟩ (.int .i64 (cx'))).setCell ⟨(w.heap.size + 1 + 1 + 1),1,none⟩ (.int .i64 (cy'))).setCell ⟨(w.heap.size + 1 + 1 + 1),2,none⟩ (.int .i64 (x'))).setCell ⟨(w.heap.size + 1 + 1 + 1),3,none⟩ (.int .i64 (y'))).setCell ⟨(w.heap.size + 1 + 1 + 1),4,none⟩ (.bool us)).setCell ⟨(w.heap.size + 1 + 1 + 1),5,none⟩ (.int .i64 0))).drew = w89 at *
    obtain ⟨yA0,yA1,yA2,yA3,yA4,yA5,yAz⟩:=blk6 KA
    obtain ⟨yE0,yE1,yE2,yE3,yE4,yE5,yEz⟩:=blk6 KE
    go_wp2
    refine bodyPost_ret (v:=.tuple #[.agg #[.int .i64 (cx'),.int .i64 (cy'),.int .i64 (x'),.int .i64 (y'),.int .i64 tick,.int .i64 m1],.agg #[.int .i64 (cx'),.int .i64 (cy'),.int .i64 (x'),.int .i64 (y'),.bool us,.int .i64 0],.int .i64 0]) (by simp [results,Tryz.results18,go_sem,yA0,yA1,yA2,yA3,yA4,yA5,yE0,yE1,yE2,yE3,yE4,yE5]) rfl ⟨by rw [EV.out,EU.out],HB.out⟩
   | true =>
    have EV:=Lib.hid (EV0.out.trans (if_pos rfl))
    have US:=Lib.hid (US0.out dx dy d1 d2 k')
    obtain ⟨us,hus⟩:∃ z,useB d1 d2 rq = z:=⟨_,rfl⟩
    rw [hus] at US
    have EU:=Lib.hid hus
    clear hus EV0 US0
    obtain ⟨yN0,yN1,yN2,yN3,yN4,yN5,yNz,yNf0,yNf1,yNf2,yNf3,yNf4,yNf5⟩:=blf6 KN
    obtain ⟨yM0,yM1,yM2,yM3,yMz⟩:=blk4 KM
    go_upto_region 26 with (fail)
    replace KN:=kst (kst (kst (kst (kst KN 0 (.int .i64 dx)) 1 (.int .i64 dy)) 2 (.int .i64 d1)) 3 (.int .i64 d2)) 5 (.int .i64 0)
    refine ot6 (st5 w83 bN 0 (.int .i64 dx) 1 (.int .i64 dy) 2 (.int .i64 d1) 3 (.int .i64 d2) 5 (.int .i64 0)) HB KS KI KA KE KC KM (by omega) (by omega) (by omega) (by omega) (by omega) (by omega) (by omega) ?_
    clear HB KS KI KA KE KC KM
    intro HB KS KI KA KE KC KM
    clear yN0 yN1 yN2 yN3 yN4 yN5 yNz yNf0 yNf1 yNf2 yNf3 yNf4 yNf5 yM0 yM1 yM2 yM3 yMz
    generalize ((((w83.setCell _ _).setCell _ _).setCell _ _).setCell _ _).setCell _ _ = w84 at *
    simp only [List.set] at KN
    obtain ⟨yI0,yI1,yI2,yI3,yI4,yI5,yIz⟩:=blk6 KI
    obtain ⟨yN0,yN1,yN2,yN3,yN4,yN5,yNz⟩:=blk6 KN
    go_wp2_with fail
    obtain ⟨KT,hb85⟩:=alB w84 #[.int .i64 dx,.int .i64 dy,.int .i64 d1,.int .i64 d2,.bool false,.int .i64 (k')] 41
    have hnT:=HB.out.size
    have nzT_S:=KS.out.lt
    have nzT_I:=KI.out.lt
    have nzT_A:=KA.out.lt
    have nzT_E:=KE.out.lt
    have nzT_C:=KC.out.lt
    have nzT_N:=KN.out.lt
    have nzT_M:=KM.out.lt
    refine up7 hb85 HB KS KI KA KE KC KN KM ?_
    clear hb85 yI0 yI1 yI2 yI3 yI4 yI5 yIz yN0 yN1 yN2 yN3 yN4 yN5 yNz HB KS KI KA KE KC KN KM
    intro HB KS KI KA KE KC KN KM
    generalize w84.alloc _ = w85 at *
    generalize w84.heap.size = bT at *
    have neT_S:bT≠w.heap.size:=by omega
    have neT_I:bT≠(w.heap.size + 1):=by omega
    have neT_A:bT≠(w.heap.size + 1 + 1):=by omega
    have neT_E:bT≠(w.heap.size + 1 + 1 + 1):=by omega
    have neT_C:bT≠bC:=by omega
    have neT_N:bT≠bN:=by omega
    have neT_M:bT≠bM:=by omega
    clear nzT_S nzT_I nzT_A nzT_E nzT_C nzT_N nzT_M
    refine (US.out _).mono ?_
    rintro e86 w86 ⟨rfl,hb86⟩
    refine up8 hb86 HB KS KI KA KE KC KN KM KT ?_
    clear hb86 HB KS KI KA KE KC KN KM KT
    intro HB KS KI KA KE KC KN KM KT
    obtain ⟨yA0,yA1,yA2,yA3,yA4,yA5,yAz,yAf0,yAf1,yAf2,yAf3,yAf4,yAf5⟩:=blf6 KA
    obtain ⟨yE0,yE1,yE2,yE3,yE4,yE5,yEz,yEf0,yEf1,yEf2,yEf3,yEf4,yEf5⟩:=blf6 KE
    obtain ⟨yN0,yN1,yN2,yN3,yN4,yN5,yNz⟩:=blk6 KN
    obtain ⟨yT0,yT1,yT2,yT3,yT4,yT5,yTz,yTf0,yTf1,yTf2,yTf3,yTf4,yTf5⟩:=blf6 KT
    go_wp2_with fail
    replace KT:=kst KT 4 (.bool us)
    refine ot7 (st1 w86 bT 4 (.bool us)) HB KS KI KA KE KC KN KM (by omega) (by omega) (by omega) (by omega) (by omega) (by omega) (by omega) (by omega) ?_
    clear HB KS KI KA KE KC KN KM
    intro HB KS KI KA KE KC KN KM
    clear yA0 yA1 yA2 yA3 yA4 yA5 yAz yAf0 yAf1 yAf2 yAf3 yAf4 yAf5 yE0 yE1 yE2 yE3 yE4 yE5 yEz yEf0 yEf1 yEf2 yEf3 yEf4 yEf5 yN0 yN1 yN2 yN3 yN4 yN5 yNz yT0 yT1 yT2 yT3 yT4 yT5 yTz yTf0 yTf1 yTf2 yTf3 yTf4 yTf5
    generalize w86.setCell _ _ = w87 at *
    simp only [List.set] at KT
    obtain ⟨yA0,yA1,yA2,yA3,yA4,yA5,yAz,yAf0,yAf1,yAf2,yAf3,yAf4,yAf5⟩:=blf6 KA
    obtain ⟨yE0,yE1,yE2,yE3,yE4,yE5,yEz,yEf0,yEf1,yEf2,yEf3,yEf4,yEf5⟩:=blf6 KE
    obtain ⟨yN0,yN1,yN2,yN3,yN4,yN5,yNz⟩:=blk6 KN
    obtain ⟨yT0,yT1,yT2,yT3,yT4,yT5,yTz⟩:=blk6 KT
    go_region
    replace KA:=kst (kst (kst (kst (kst (kst KA 0 (.int .i64 dx)) 1 (.int .i64 dy)) 2 (.int .i64 d1)) 3 (.int .i64 d2)) 4 (.int .i64 tick)) 5 (.int .i64 0)
    refine ot7 (st6 w87 (w.heap.size + 1 + 1) 0 (.int .i64 dx) 1 (.int .i64 dy) 2 (.int .i64 d1) 3 (.int .i64 d2) 4 (.int .i64 tick) 5 (.int .i64 0)) HB KS KI KE KC KN KM KT (by omega) (by omega) (by omega) (by omega) (by omega) (by omega) (by omega) (by omega) ?_
    clear HB KS KI KE KC KN KM KT
    intro HB KS KI KE KC KN KM KT
    clear yA0 yA1 yA2 yA3 yA4 yA5 yAz yAf0 yAf1 yAf2 yAf3 yAf4 yAf5 yE0 yE1 yE2 yE3 yE4 yE5 yEz yEf0 yEf1 yEf2 yEf3 yEf4 yEf5 yN0 yN1 yN2 yN3 yN4 yN5 yNz yT0 yT1 yT2 yT3 yT4 yT5 yTz
    simp only [List.set] at KA
    replace KE:=kst (kst (kst (kst (kst (kst KE 0 (.int .i64 dx)) 1 (.int .i64 dy)) 2 (.int .i64 d1)) 3 (.int .i64 d2)) 4 (.bool us)) 5 (.int .i64 (k'))
    refine ot7 (st6 ((((((w87.setCell ⟨(w.heap.size + 1 + 1),0,none⟩ (.int .i64 dx)).setCell ⟨(w.heap.size + 1 + 1),1,none⟩ (.int .i64 dy)).setCell ⟨(w.heap.size + 1 + 1),2,none⟩ (.int .i64 d1)).setCell ⟨(w.heap.size + 1 + 1),3,none⟩ (.int .i64 d2)).setCell ⟨(w.heap.size + 1 + 1),4,none⟩ (.int .i64 tick)).setCell ⟨(w.heap.size + 1 + 1),5,none⟩ (.int .i64 0)) (w.heap.size + 1 + 1 + 1) 0 (.int .i64 dx) 1 (.int .i64 dy) 2 (.int .i64 d1) 3 (.int .i64 d2) 4 (.bool us) 5 (.int .i64 (k'))) HB KS KI KA KC KN KM KT (by omega) (by omega) (by omega) (by omega) (by omega) (by omega) (by omega) (by omega) ?_
    clear HB KS KI KA KC KN KM KT
    intro HB KS KI KA KC KN KM KT
    simp only [List.set] at KE
    replace KS:=Lib.hid (blk_drew1 KS.out)
    replace KI:=Lib.hid (blk_drew1 KI.out)
    replace KA:=Lib.hid (blk_drew1 KA.out)
    replace KE:=Lib.hid (blk_drew1 KE.out)
    replace KC:=Lib.hid (blk_drew1 KC.out)
    replace KN:=Lib.hid (blk_drew1 KN.out)
    replace KM:=Lib.hid (blk_drew1 KM.out)
    replace KT:=Lib.hid (blk_drew1 KT.out)
    replace HB:=Lib.hid (below_drew1 HB.out)
    generalize (((((((((((((w87.setCell ⟨(w.heap.size + 1 + 1),0,none⟩ (.int .i64 dx)).setCell ⟨(w.heap.size + 1 + 1),1,none⟩ (.int .i64 dy)).setCell ⟨(w.heap.size + 1 + 1),2,none⟩ (.int .i64 d1)).setCell ⟨(w.heap.size + 1 + 1),3,none⟩ (.int .i64 d2)).setCell ⟨(w.heap.size + 1 + 1),4,none⟩ (.int .i64 tick)).setCell ⟨(w.heap.size + 1 + 1),5,none⟩ (.int .i64 0)).setCell ⟨(w.heap.size + 1 + 1 + 1),0,none⟩ (.int .i64 dx)).setCell ⟨(w.heap.size + 1 + 1 + 1),1,none⟩ (.int .i64 dy)).setCell ⟨(w.heap.size + 1 + 1 + 1),2,none⟩ (.int .i64 d1)).setCell ⟨(w.heap.size + 1 + 1 + 1),3,none⟩ (.int .i64 d2)).setCell ⟨(w.heap.size + 1 + 1 + 1),4,none⟩ (.bool us)).setCell ⟨(w.heap.size + 1 + 1 + 1),5,none⟩ (.int .i64 (k')))).drew = w90 at *
    obtain ⟨yA0,yA1,yA2,yA3,yA4,yA5,yAz⟩:=blk6 KA
    obtain ⟨yE0,yE1,yE2,yE3,yE4,yE5,yEz⟩:=blk6 KE
    go_wp2
    refine bodyPost_ret (v:=.tuple #[.agg #[.int .i64 dx,.int .i64 dy,.int .i64 d1,.int .i64 d2,.int .i64 tick,.int .i64 0],.agg #[.int .i64 dx,.int .i64 dy,.int .i64 d1,.int .i64 d2,.bool us,.int .i64 (k')],.int .i64 0]) (by simp [results,Tryz.results18,go_sem,yA0,yA1,yA2,yA3,yA4,yA5,yE0,yE1,yE2,yE3,yE4,yE5]) rfl ⟨by rw [EV.out,EU.out],HB.out⟩
end Go.Proofs.YtajmjkliblippaaGreatDoor
