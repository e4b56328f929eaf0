/-
  Walks and laws of the layers below, gathered from several texts.
-/
import Derived.Test.YtajmjkliblippaaGreatDoorQ10
import Derived.Test.YtajmjkliblippaaGreatDoorQ22
set_option linter.unusedVariables false
namespace Go.Proofs.YtajmjkliblippaaGreatDoor
open Go.RowKit
theorem far7 {m b c:Nat} {W:World} (h:m≤c) (hb:b < m) {v0 v1 v2 v3 v4 v5 v6:Value} (i:Nat):(((((((W.setCell ⟨c,0,none⟩ v0).setCell ⟨c,1,none⟩ v1).setCell ⟨c,2,none⟩ v2).setCell ⟨c,3,none⟩ v3).setCell ⟨c,4,none⟩ v4).setCell ⟨c,5,none⟩ v5).setCell ⟨c,6,none⟩ v6).cell? ⟨b,i,none⟩ = W.cell? ⟨b,i,none⟩:=
 have hne:c≠b:=by omega
 (((((((World.cell?_setCell_far _ _ _ _ hne).trans (World.cell?_setCell_far _ _ _ _ hne)).trans (World.cell?_setCell_far _ _ _ _ hne)).trans (World.cell?_setCell_far _ _ _ _ hne)).trans (World.cell?_setCell_far _ _ _ _ hne)).trans (World.cell?_setCell_far _ _ _ _ hne)).trans (World.cell?_setCell_far _ _ _ _ hne))
theorem chk_sol {l:List Ms} (h:chkL l≠0):solE l = chkL l:=by unfold solE; rw [if_neg h]
set_option maxHeartbeats 40000000
set_option maxRecDepth 100000
theorem sol_bad0 (l:List Ms) (v:Value) (w:World) (h:LstAt l v w) (hc:chkL l = 0) (hs:solE l≠0) :
 Calls Tryz.prog 96 #[v] w fun e w'=>e = .returned (.tuple #[.agg #[.int .i64 0,.int .u64 0,.int .i64 0,.int .u64 0,.int .i64 0,.int .i64 0,.int .i64 0],.int .i64 (solE l)])∧Below w.heap.size w w':=by
 obtain ⟨p,cap,rfl⟩:=lst_form h
 have OL:=Lib.hid (okL_of hc)
 obtain ⟨⟨a0,a1⟩,⟨b0,b1⟩,⟨c0,c1⟩,⟨d0,d1⟩,⟨e0,e1⟩⟩:=nrm_bd OL.out
 obtain ⟨⟨dt0,dt1⟩,⟨sx0,sx1⟩,⟨sy0,sy1⟩⟩:=sol_bd (nrm_bd OL.out)
 have NO:=Lib.hid fun w h=>normal_any l (.slice p l.length cap) w h hc
 have P1:=mulb (X:=16777216) (Y:=16777216) (by omega) a0 a1 c0 c1
 have P2:=mulb (X:=16777216) (Y:=16777216) (by omega) b0 b1 b0 b1
 have LX:=Lib.hid fun w=>lsq_less (nYY l) (nXZ l) (nXY l) (nYZ l) w ⟨by omega,by omega⟩ ⟨by omega,by omega⟩ ⟨by omega,by omega⟩ ⟨by omega,by omega⟩ (show FitW (solX l) from ⟨by omega,by omega⟩)
 have LY:=Lib.hid fun w=>lsq_less (nXX l) (nYZ l) (nXY l) (nXZ l) w ⟨by omega,by omega⟩ ⟨by omega,by omega⟩ ⟨by omega,by omega⟩ ⟨by omega,by omega⟩ (show FitW (solY l) from ⟨by omega,by omega⟩)
 have q1:IntKind.i64.wrap (nXX l * nYY l) = nXX l * nYY l:=IntWalk.i64_in _ (by omega)
 have q2:IntKind.i64.wrap (nXY l * nXY l) = nXY l * nXY l:=IntWalk.i64_in _ (by omega)
 have q3:IntKind.i64.wrap (nXX l * nYY l - nXY l * nXY l) = detN l:=IntWalk.i64_in _ (by unfold detN at dt0 dt1; omega)
 have HX:Hid (solX l = nYY l * nXZ l - nXY l * nYZ l):=Lib.hid rfl
 have HY:Hid (solY l = nXX l * nYZ l - nXY l * nXZ l):=Lib.hid rfl
 rw [← HX.out] at LX
 rw [← HY.out] at LY
 have NX:=Lib.hid fun (hd:0 < detN l) w=>nearest_any (solX l) (detN l) w (by omega) (by omega) hd (by omega)
 have NY:=Lib.hid fun (hd:0 < detN l) w=>nearest_any (solY l) (detN l) w (by omega) (by omega) hd (by omega)
 have VP:=Lib.hid fun w=>vldP_any (cenX l) (cenY l) w
 have E0:solE l = if detN l = 0 then 14 else if (pOk (cenX l) && pOk (cenY l)) = true then 0 else 2:=by unfold solE; rw [if_pos hc]
 have HDP:detN l≠0→0 < detN l:=fun q=>by have:=det_nonneg l (chk_w hc); omega
 rw [show nearI2 (solX l) (detN l) = cenX l from rfl] at NX
 rw [show nearI2 (solY l) (detN l) = cenY l from rfl] at NY
 clear hc a0 a1 b0 b1 c0 c1 d0 d1 e0 e1 dt0 dt1 sx0 sx1 sy0 sy1 P1 P2 HX HY
 obtain ⟨A,EA⟩:∃ x,nXX l = x:=⟨_,rfl⟩
 obtain ⟨B,EB⟩:∃ x,nXY l = x:=⟨_,rfl⟩
 obtain ⟨C,EC⟩:∃ x,nYY l = x:=⟨_,rfl⟩
 obtain ⟨D,ED⟩:∃ x,nXZ l = x:=⟨_,rfl⟩
 obtain ⟨E,EE⟩:∃ x,nYZ l = x:=⟨_,rfl⟩
 obtain ⟨X,EX⟩:∃ x,solX l = x:=⟨_,rfl⟩
 obtain ⟨Y,EY⟩:∃ x,solY l = x:=⟨_,rfl⟩
 obtain ⟨T,ET⟩:∃ x,detN l = x:=⟨_,rfl⟩
 rw [EA,EB,EC,ED,EE] at NO
 rw [EC,ED,EB,EE,EX] at LX
 rw [EA,EE,EB,ED,EY] at LY
 rw [EA,EC] at q1
 rw [EB] at q2
 rw [EA,EB,EC,ET] at q3
 rw [ET,EX] at NX
 rw [ET,EY] at NY
 rw [ET] at E0 HDP
 have HX:=Lib.hid EX
 have HY:=Lib.hid EY
 have HT:=Lib.hid ET
 clear EA EB EC ED EE EX EY ET
 obtain ⟨cx,hcx⟩:∃ x,cenX l = x:=⟨_,rfl⟩
 obtain ⟨cy,hcy⟩:∃ x,cenY l = x:=⟨_,rfl⟩
 rw [hcx] at NX
 rw [hcy] at NY
 rw [hcx,hcy] at VP E0
 have HCX:=Lib.hid hcx
 have HCY:=Lib.hid hcy
 clear hcx hcy
 have PV:(pOk cx && pOk cy) = vldP cx cy:=by unfold pOk vldP; rw [Bool.eq_iff_iff]; simp only [Bool.and_eq_true,decide_eq_true_eq]; omega
 have PI:vldP cx cy = true→I64 cx∧I64 cy:=fun h=>by have:=vldP_iff.1 h; exact ⟨⟨by omega,by omega⟩,by omega,by omega⟩
 rw [PV] at E0
 clear PV
 unfold wv at LX LY NX NY
 obtain ⟨ee,hee⟩:∃ x,solE l = x:=⟨_,rfl⟩
 have HS:=Lib.hid hee
 rw [hee] at E0 hs
 clear hee HCX HCY HX HY HT
 rw [HS.out]
 clear HS
 have H0:=Lib.hid h
 obtain ⟨KZ,HB⟩:=ent1 w #[.int .i64 0,.int .u64 0,.int .i64 0,.int .u64 0,.int .i64 0,.int .i64 0,.int .i64 0] 114
 go_enter Tryz.func96,Tryz.ntmps96
 clear h
 go_wp2_with fail
 generalize w.alloc _ = w0 at *
 refine (NO.out _ (H0.out.below HB.out)).mono ?_
 rintro e1 w1 ⟨rfl,hb1⟩
 replace HB:=hT HB hb1
 replace KZ:=hK KZ hb1
 clear hb1
 go_wp2_with fail
 obtain ⟨KN,hb2⟩:=alB w1 #[.int .i64 A,.int .i64 B,.int .i64 C,.int .i64 D,.int .i64 E] 160
 have hnN:=HB.out.size
 have nzN_Z:=KZ.out.lt
 replace HB:=hT HB hb2
 replace KZ:=hK KZ hb2
 clear hb2
 generalize w1.alloc _ = w2 at *
 generalize w1.heap.size = bN at *
 have neN_Z:bN≠w.heap.size:=by omega
 clear nzN_Z
 have BD:=Lib.hid (show Below w2.heap.size w2 w2.drew from ⟨rfl,rfl,rfl,Nat.le_refl _,fun _ _=>rfl⟩)
 have BD2:=Lib.hid (below_drew_alloc w2 (.cells #[.int .i64 0,.int .u64 0,.int .i64 0,.int .u64 0,.int .i64 0,.int .i64 0,.int .i64 0] 114))
 have DLX:=Lib.hid fun W (h:Below w2.heap.size w2 W)=>(LX.out W).mono fun e w' ⟨h1,h2⟩=>show _∧Below w2.heap.size w2 w'∧Below W.heap.size W w' from ⟨h1,h.trans (h2.mono h.size),h2⟩
 have DLY:=Lib.hid fun W (h:Below w2.heap.size w2 W)=>(LY.out W).mono fun e w' ⟨h1,h2⟩=>show _∧Below w2.heap.size w2 w'∧Below W.heap.size W w' from ⟨h1,h.trans (h2.mono h.size),h2⟩
 obtain ⟨yN0,yN1,yN2,yN3,yN4,yNz⟩:=blk5 KN
 apply wp_join (R:=fun b w'=>w.heap.size≤b∧b≠w.heap.size∧b≠bN∧Hid (Below w.heap.size w w')∧Hid (Blk [.int .i64 (hiW X),.int .u64 (loW X),.int .i64 (hiW Y),.int .u64 (loW Y),.int .i64 T,.int .i64 0,.int .i64 0] b w')∧Hid (Blk [.int .i64 0,.int .u64 0,.int .i64 0,.int .u64 0,.int .i64 0,.int .i64 0,.int .i64 0] w.heap.size w')∧Hid (Blk [.int .i64 A,.int .i64 B,.int .i64 C,.int .i64 D,.int .i64 E] bN w'))
 ·go_region_held3 (fun w'=>w'.cell? ⟨bN,0,none⟩ = some (.int .i64 A)∧w'.cell? ⟨bN,1,none⟩ = some (.int .i64 B)∧w'.cell? ⟨bN,2,none⟩ = some (.int .i64 C)∧w'.cell? ⟨bN,3,none⟩ = some (.int .i64 D)∧w'.cell? ⟨bN,4,none⟩ = some (.int .i64 E)) (first | (refine ⟨?_,?_,?_,?_,?_⟩ <;> first | with_reducible assumption | (rw [far7 KV.out.1 yNz]; with_reducible assumption)) | go_keep)
   (first
    | (go_at_call 141; with_reducible refine Calls.mono (DLX.out _ (by first | with_reducible exact BD.out | with_reducible exact BD2.out | with_reducible exact HX.out | with_reducible exact HX.out.alloc HX.out.size _)) ?_; rintro e9 w9 ⟨rfl,hb9,hc9⟩; have pN:=KN.out.below hb9; have qN0:=pN.c 0 _ rfl; have qN1:=pN.c 1 _ rfl; have qN2:=pN.c 2 _ rfl; have qN3:=pN.c 3 _ rfl; have qN4:=pN.c 4 _ rfl; clear pN; (first | (with_reducible have KV:=Lib.hid (kv_drew (vs:=#[.int .i64 0,.int .u64 0,.int .i64 0,.int .u64 0,.int .i64 0,.int .i64 0,.int .i64 0]) (t:=114) hc9); have pV:=KV.out.2; have v0:=pV.c 0 _ rfl; have vf0:=pV.f 0 _ rfl; have v1:=pV.c 1 _ rfl; have vf1:=pV.f 1 _ rfl; have v2:=pV.c 2 _ rfl; have vf2:=pV.f 2 _ rfl; have v3:=pV.c 3 _ rfl; have vf3:=pV.f 3 _ rfl; have v4:=pV.c 4 _ rfl; have vf4:=pV.f 4 _ rfl; have v5:=pV.c 5 _ rfl; have vf5:=pV.f 5 _ rfl; have v6:=pV.c 6 _ rfl; have vf6:=pV.f 6 _ rfl; have v9:=pV.lt; clear pV) | (with_reducible have KV:=Lib.hid (kv_new (vs:=#[.int .i64 0,.int .u64 0,.int .i64 0,.int .u64 0,.int .i64 0,.int .i64 0,.int .i64 0]) (t:=114) HX.out hc9); have pV:=KV.out.2; have v0:=pV.c 0 _ rfl; have vf0:=pV.f 0 _ rfl; have v1:=pV.c 1 _ rfl; have vf1:=pV.f 1 _ rfl; have v2:=pV.c 2 _ rfl; have vf2:=pV.f 2 _ rfl; have v3:=pV.c 3 _ rfl; have vf3:=pV.f 3 _ rfl; have v4:=pV.c 4 _ rfl; have vf4:=pV.f 4 _ rfl; have v5:=pV.c 5 _ rfl; have vf5:=pV.f 5 _ rfl; have v6:=pV.c 6 _ rfl; have vf6:=pV.f 6 _ rfl; have v9:=pV.lt; clear pV) | (with_reducible have KV:=Lib.hid (kv_old KV.out hc9); have pV:=KV.out.2; have v0:=pV.c 0 _ rfl; have vf0:=pV.f 0 _ rfl; have v1:=pV.c 1 _ rfl; have vf1:=pV.f 1 _ rfl; have v2:=pV.c 2 _ rfl; have vf2:=pV.f 2 _ rfl; have v3:=pV.c 3 _ rfl; have vf3:=pV.f 3 _ rfl; have v4:=pV.c 4 _ rfl; have vf4:=pV.f 4 _ rfl; have v5:=pV.c 5 _ rfl; have vf5:=pV.f 5 _ rfl; have v6:=pV.c 6 _ rfl; have vf6:=pV.f 6 _ rfl; have v9:=pV.lt; clear pV) | skip); have HX:=Lib.hid hb9; clear hb9 hc9)
    | (go_at_call 141; with_reducible refine Calls.mono (DLY.out _ (by first | with_reducible exact BD.out | with_reducible exact BD2.out | with_reducible exact HX.out | with_reducible exact HX.out.alloc HX.out.size _)) ?_; rintro e9 w9 ⟨rfl,hb9,hc9⟩; have pN:=KN.out.below hb9; have qN0:=pN.c 0 _ rfl; have qN1:=pN.c 1 _ rfl; have qN2:=pN.c 2 _ rfl; have qN3:=pN.c 3 _ rfl; have qN4:=pN.c 4 _ rfl; clear pN; (first | (with_reducible have KV:=Lib.hid (kv_drew (vs:=#[.int .i64 0,.int .u64 0,.int .i64 0,.int .u64 0,.int .i64 0,.int .i64 0,.int .i64 0]) (t:=114) hc9); have pV:=KV.out.2; have v0:=pV.c 0 _ rfl; have vf0:=pV.f 0 _ rfl; have v1:=pV.c 1 _ rfl; have vf1:=pV.f 1 _ rfl; have v2:=pV.c 2 _ rfl; have vf2:=pV.f 2 _ rfl; have v3:=pV.c 3 _ rfl; have vf3:=pV.f 3 _ rfl; have v4:=pV.c 4 _ rfl; have vf4:=pV.f 4 _ rfl; have v5:=pV.c 5 _ rfl; have vf5:=pV.f 5 _ rfl; have v6:=pV.c 6 _ rfl; have vf6:=pV.f 6 _ rfl; have v9:=pV.lt; clear pV) | (with_reducible have KV:=Lib.hid (kv_new (vs:=#[.int .i64 0,.int .u64 0,.int .i64 0,.int .u64 0,.int .i64 0,.int .i64 0,.int .i64 0]) (t:=114) HX.out hc9); have pV:=KV.out.2; have v0:=pV.c 0 _ rfl; have vf0:=pV.f 0 _ rfl; have v1:=pV.c 1 _ rfl; have vf1:=pV.f 1 _ rfl; have v2:=pV.c 2 _ rfl; have vf2:=pV.f 2 _ rfl; have v3:=pV.c 3 _ rfl; have vf3:=pV.f 3 _ rfl; have v4:=pV.c 4 _ rfl; have vf4:=pV.f 4 _ rfl; have v5:=pV.c 5 _ rfl; have vf5:=pV.f 5 _ rfl; have v6:=pV.c 6 _ rfl; have vf6:=pV.f 6 _ rfl; have v9:=pV.lt; clear pV) | (with_reducible have KV:=Lib.hid (kv_old KV.out hc9); have pV:=KV.out.2; have v0:=pV.c 0 _ rfl; have vf0:=pV.f 0 _ rfl; have v1:=pV.c 1 _ rfl; have vf1:=pV.f 1 _ rfl; have v2:=pV.c 2 _ rfl; have vf2:=pV.f 2 _ rfl; have v3:=pV.c 3 _ rfl; have vf3:=pV.f 3 _ rfl; have v4:=pV.c 4 _ rfl; have vf4:=pV.f 4 _ rfl; have v5:=pV.c 5 _ rfl; have vf5:=pV.f 5 _ rfl; have v6:=pV.c 6 _ rfl; have vf6:=pV.f 6 _ rfl; have v9:=pV.lt; clear pV) | skip); have HX:=Lib.hid hb9; clear hb9 hc9))
  all_goals
   first
    | (have FN:=kv_set7 (.int .i64 (hiW X)) (.int .u64 (loW X)) (.int .i64 (hiW Y)) (.int .u64 (loW Y)) (.int .i64 T) (.int .i64 0) (.int .i64 0) KV.out HX.out; have FB:=Lib.hid FN.1; have KS:=Lib.hid FN.2.1; have n0S:=FN.2.2; clear FN; generalize World.setCell (World.setCell (World.setCell (World.setCell (World.setCell (World.setCell (World.setCell _ _ (.int .i64 (hiW X))) _ (.int .u64 (loW X))) _ (.int .i64 (hiW Y))) _ (.int .u64 (loW Y))) _ (.int .i64 T)) _ (.int .i64 0)) _ (.int .i64 0) = w3 at *)
    | (have FN:=kv_putn (vs:=#[.int .i64 (hiW X),.int .u64 (loW X),.int .i64 (hiW Y),.int .u64 (loW Y),.int .i64 T,.int .i64 0,.int .i64 0]) (t:=114) HX.out; have FB:=Lib.hid FN.1; have KS:=Lib.hid FN.2.1; have n0S:=FN.2.2; clear FN; generalize (World.alloc _ (.cells #[.int .i64 (hiW X),.int .u64 (loW X),.int .i64 (hiW Y),.int .u64 (loW Y),.int .i64 T,.int .i64 0,.int .i64 0] 114)) = w3 at *)
   have nS:=Nat.le_trans HB.out.size n0S
   have neS_Z:=Nat.ne_of_gt (Nat.lt_of_lt_of_le KZ.out.lt n0S)
   have neS_N:=Nat.ne_of_gt (Nat.lt_of_lt_of_le KN.out.lt n0S)
   replace HB:=Lib.hid (HB.out.trans (FB.out.mono HB.out.size))
   replace KZ:=Lib.hid (KZ.out.below FB.out)
   replace KN:=Lib.hid (KN.out.below FB.out)
   obtain ⟨bS,hbS⟩:=ex_blk KS
   rw [← hbS] at KS nS neS_Z neS_N ⊢
   refine OnlyN.mk ⟨bS,rfl,?_⟩
   with_reducible exact ⟨nS,neS_Z,neS_N,HB,KS,KZ,KN⟩
 clear BD BD2 DLX DLY yN0 yN1 yN2 yN3 yN4 yNz
 rintro bS w3 ⟨nS,neS_Z,neS_N,HB2,KS,KZ2,KN2⟩
 replace HB:=HB2
 clear HB2
 replace KZ:=KZ2
 clear KZ2
 replace KN:=KN2
 clear KN2
 clear LX LY NO q1 q2 q3
 by_cases ht:T = 0
 ·have g:(T == 0) = true:=by simpa using ht
  have HE:=Lib.hid (E0.trans (if_pos ht))
  clear E0 HDP NX NY VP PI ht hs
  obtain ⟨yZ0,yZ1,yZ2,yZ3,yZ4,yZ5,yZ6,yZz,yZf0,yZf1,yZf2,yZf3,yZf4,yZf5,yZf6⟩:=blf7 KZ
  obtain ⟨yS0,yS1,yS2,yS3,yS4,yS5,yS6,ySz,ySf0,ySf1,ySf2,ySf3,ySf4,ySf5,ySf6⟩:=blf7 KS
  go_wp2
  replace KZ:=kst (kst (kst (kst (kst (kst (kst KZ 0 (.int .i64 0)) 1 (.int .u64 0)) 2 (.int .i64 0)) 3 (.int .u64 0)) 4 (.int .i64 0)) 5 (.int .i64 0)) 6 (.int .i64 0)
  refine ot2 (st7 w3 w.heap.size 0 (.int .i64 0) 1 (.int .u64 0) 2 (.int .i64 0) 3 (.int .u64 0) 4 (.int .i64 0) 5 (.int .i64 0) 6 (.int .i64 0)) HB KN KS (by omega) (by omega) (by omega) ?_
  clear HB KN KS
  intro HB KN KS
  clear yZ0 yZ1 yZ2 yZ3 yZ4 yZ5 yZ6 yZz yZf0 yZf1 yZf2 yZf3 yZf4 yZf5 yZf6 yS0 yS1 yS2 yS3 yS4 yS5 yS6 ySz ySf0 ySf1 ySf2 ySf3 ySf4 ySf5 ySf6
  generalize ((((((w3.setCell _ _).setCell _ _).setCell _ _).setCell _ _).setCell _ _).setCell _ _).setCell _ _ = w4 at *
  simp only [List.set] at KZ
  obtain ⟨yZ0,yZ1,yZ2,yZ3,yZ4,yZ5,yZ6,yZz⟩:=blk7 KZ
  refine bodyPost_ret (v:=.tuple #[.agg #[.int .i64 0,.int .u64 0,.int .i64 0,.int .u64 0,.int .i64 0,.int .i64 0,.int .i64 0],.int .i64 14]) (by simp [results,Tryz.results96,go_sem,yZ0,yZ1,yZ2,yZ3,yZ4,yZ5,yZ6]) rfl ⟨by rw [HE.out],HB.out⟩
 ·have g:(T == 0) = false:=by simpa using ht
  have NX:=Lib.hid (NX.out (HDP ht))
  have NY:=Lib.hid (NY.out (HDP ht))
  have E1:=E0.trans (if_neg ht)
  have hv:vldP cx cy = false:=by
   cases hv:vldP cx cy with
   | false=>rfl
   | true=>rw [hv,if_pos rfl] at E1; exact absurd E1 hs
  rw [hv] at E1 VP
  have HE:Hid (ee = 2):=Lib.hid E1
  clear E0 E1 HDP ht hs PI hv
  by_cases ix:I64 cx
  ·rw [if_pos ix,decide_eq_true ix] at NX
   by_cases iy:I64 cy
   ·rw [if_pos iy,decide_eq_true iy] at NY
    clear ix iy
    obtain ⟨yZ0,yZ1,yZ2,yZ3,yZ4,yZ5,yZ6,yZz,yZf0,yZf1,yZf2,yZf3,yZf4,yZf5,yZf6⟩:=blf7 KZ
    obtain ⟨yS0,yS1,yS2,yS3,yS4,yS5,yS6,ySz,ySf0,ySf1,ySf2,ySf3,ySf4,ySf5,ySf6⟩:=blf7 KS
    go_wp2_with fail
    refine (NX.out _).mono ?_
    rintro e4 w4 ⟨rfl,hb4⟩
    refine up3 hb4 HB KZ KN KS ?_
    clear hb4 yZ0 yZ1 yZ2 yZ3 yZ4 yZ5 yZ6 yZz yZf0 yZf1 yZf2 yZf3 yZf4 yZf5 yZf6 yS0 yS1 yS2 yS3 yS4 yS5 yS6 ySz ySf0 ySf1 ySf2 ySf3 ySf4 ySf5 ySf6 HB KZ KN KS
    intro HB KZ KN KS
    obtain ⟨yS0,yS1,yS2,yS3,yS4,yS5,yS6,ySz,ySf0,ySf1,ySf2,ySf3,ySf4,ySf5,ySf6⟩:=blf7 KS
    go_wp2_with fail
    refine (NY.out _).mono ?_
    rintro e5 w5 ⟨rfl,hb5⟩
    refine up3 hb5 HB KZ KN KS ?_
    clear hb5 yS0 yS1 yS2 yS3 yS4 yS5 yS6 ySz ySf0 ySf1 ySf2 ySf3 ySf4 ySf5 ySf6 HB KZ KN KS
    intro HB KZ KN KS
    obtain ⟨yZ0,yZ1,yZ2,yZ3,yZ4,yZ5,yZ6,yZz,yZf0,yZf1,yZf2,yZf3,yZf4,yZf5,yZf6⟩:=blf7 KZ
    obtain ⟨yS0,yS1,yS2,yS3,yS4,yS5,yS6,ySz,ySf0,ySf1,ySf2,ySf3,ySf4,ySf5,ySf6⟩:=blf7 KS
    go_wp2_with fail
    replace KS:=kst (kst KS 5 (.int .i64 cx)) 6 (.int .i64 cy)
    refine ot2 (st2 w5 bS 5 (.int .i64 cx) 6 (.int .i64 cy)) HB KZ KN (by omega) (by omega) (by omega) ?_
    clear HB KZ KN
    intro HB KZ KN
    clear yZ0 yZ1 yZ2 yZ3 yZ4 yZ5 yZ6 yZz yZf0 yZf1 yZf2 yZf3 yZf4 yZf5 yZf6 yS0 yS1 yS2 yS3 yS4 yS5 yS6 ySz ySf0 ySf1 ySf2 ySf3 ySf4 ySf5 ySf6
    generalize (w5.setCell _ _).setCell _ _ = w6 at *
    simp only [List.set] at KS
    refine (VP.out _).mono ?_
    rintro e7 w7 ⟨rfl,hb7⟩
    refine up3 hb7 HB KZ KN KS ?_
    clear hb7 HB KZ KN KS
    intro HB KZ KN KS
    obtain ⟨yZ0,yZ1,yZ2,yZ3,yZ4,yZ5,yZ6,yZz,yZf0,yZf1,yZf2,yZf3,yZf4,yZf5,yZf6⟩:=blf7 KZ
    obtain ⟨yS0,yS1,yS2,yS3,yS4,yS5,yS6,ySz,ySf0,ySf1,ySf2,ySf3,ySf4,ySf5,ySf6⟩:=blf7 KS
    go_wp2
    replace KZ:=kst (kst (kst (kst (kst (kst (kst KZ 0 (.int .i64 0)) 1 (.int .u64 0)) 2 (.int .i64 0)) 3 (.int .u64 0)) 4 (.int .i64 0)) 5 (.int .i64 0)) 6 (.int .i64 0)
    refine ot2 (st7 w7 w.heap.size 0 (.int .i64 0) 1 (.int .u64 0) 2 (.int .i64 0) 3 (.int .u64 0) 4 (.int .i64 0) 5 (.int .i64 0) 6 (.int .i64 0)) HB KN KS (by omega) (by omega) (by omega) ?_
    clear HB KN KS
    intro HB KN KS
    clear yZ0 yZ1 yZ2 yZ3 yZ4 yZ5 yZ6 yZz yZf0 yZf1 yZf2 yZf3 yZf4 yZf5 yZf6 yS0 yS1 yS2 yS3 yS4 yS5 yS6 ySz ySf0 ySf1 ySf2 ySf3 ySf4 ySf5 ySf6
    generalize ((((((w7.setCell _ _).setCell _ _).setCell _ _).setCell _ _).setCell _ _).setCell _ _).setCell _ _ = w8 at *
    simp only [List.set] at KZ
    obtain ⟨yZ0,yZ1,yZ2,yZ3,yZ4,yZ5,yZ6,yZz⟩:=blk7 KZ
    refine bodyPost_ret (v:=.tuple #[.agg #[.int .i64 0,.int .u64 0,.int .i64 0,.int .u64 0,.int .i64 0,.int .i64 0,.int .i64 0],.int .i64 2]) (by simp [results,Tryz.results96,go_sem,yZ0,yZ1,yZ2,yZ3,yZ4,yZ5,yZ6]) rfl ⟨by rw [HE.out],HB.out⟩
   ·rw [if_neg iy,decide_eq_false iy] at NY
    clear ix iy
    obtain ⟨yZ0,yZ1,yZ2,yZ3,yZ4,yZ5,yZ6,yZz,yZf0,yZf1,yZf2,yZf3,yZf4,yZf5,yZf6⟩:=blf7 KZ
    obtain ⟨yS0,yS1,yS2,yS3,yS4,yS5,yS6,ySz,ySf0,ySf1,ySf2,ySf3,ySf4,ySf5,ySf6⟩:=blf7 KS
    go_wp2_with fail
    refine (NX.out _).mono ?_
    rintro e4 w4 ⟨rfl,hb4⟩
    refine up3 hb4 HB KZ KN KS ?_
    clear hb4 yZ0 yZ1 yZ2 yZ3 yZ4 yZ5 yZ6 yZz yZf0 yZf1 yZf2 yZf3 yZf4 yZf5 yZf6 yS0 yS1 yS2 yS3 yS4 yS5 yS6 ySz ySf0 ySf1 ySf2 ySf3 ySf4 ySf5 ySf6 HB KZ KN KS
    intro HB KZ KN KS
    obtain ⟨yS0,yS1,yS2,yS3,yS4,yS5,yS6,ySz,ySf0,ySf1,ySf2,ySf3,ySf4,ySf5,ySf6⟩:=blf7 KS
    go_wp2_with fail
    refine (NY.out _).mono ?_
    rintro e5 w5 ⟨rfl,hb5⟩
    refine up3 hb5 HB KZ KN KS ?_
    clear hb5 yS0 yS1 yS2 yS3 yS4 yS5 yS6 ySz ySf0 ySf1 ySf2 ySf3 ySf4 ySf5 ySf6 HB KZ KN KS
    intro HB KZ KN KS
    obtain ⟨yZ0,yZ1,yZ2,yZ3,yZ4,yZ5,yZ6,yZz,yZf0,yZf1,yZf2,yZf3,yZf4,yZf5,yZf6⟩:=blf7 KZ
    obtain ⟨yS0,yS1,yS2,yS3,yS4,yS5,yS6,ySz,ySf0,ySf1,ySf2,ySf3,ySf4,ySf5,ySf6⟩:=blf7 KS
    go_wp2
    replace KS:=kst (kst KS 5 (.int .i64 cx)) 6 (.int .i64 0)
    refine ot2 (st2 w5 bS 5 (.int .i64 cx) 6 (.int .i64 0)) HB KZ KN (by omega) (by omega) (by omega) ?_
    clear HB KZ KN
    intro HB KZ KN
    clear yZ0 yZ1 yZ2 yZ3 yZ4 yZ5 yZ6 yZz yZf0 yZf1 yZf2 yZf3 yZf4 yZf5 yZf6 yS0 yS1 yS2 yS3 yS4 yS5 yS6 ySz ySf0 ySf1 ySf2 ySf3 ySf4 ySf5 ySf6
    generalize (w5.setCell _ _).setCell _ _ = w6 at *
    simp only [List.set] at KS
    replace KZ:=kst (kst (kst (kst (kst (kst (kst KZ 0 (.int .i64 0)) 1 (.int .u64 0)) 2 (.int .i64 0)) 3 (.int .u64 0)) 4 (.int .i64 0)) 5 (.int .i64 0)) 6 (.int .i64 0)
    refine ot2 (st7 w6 w.heap.size 0 (.int .i64 0) 1 (.int .u64 0) 2 (.int .i64 0) 3 (.int .u64 0) 4 (.int .i64 0) 5 (.int .i64 0) 6 (.int .i64 0)) HB KN KS (by omega) (by omega) (by omega) ?_
    clear HB KN KS
    intro HB KN KS
    generalize ((((((w6.setCell _ _).setCell _ _).setCell _ _).setCell _ _).setCell _ _).setCell _ _).setCell _ _ = w7 at *
    simp only [List.set] at KZ
    obtain ⟨yZ0,yZ1,yZ2,yZ3,yZ4,yZ5,yZ6,yZz⟩:=blk7 KZ
    refine bodyPost_ret (v:=.tuple #[.agg #[.int .i64 0,.int .u64 0,.int .i64 0,.int .u64 0,.int .i64 0,.int .i64 0,.int .i64 0],.int .i64 2]) (by simp [results,Tryz.results96,go_sem,yZ0,yZ1,yZ2,yZ3,yZ4,yZ5,yZ6]) rfl ⟨by rw [HE.out],HB.out⟩
  ·rw [if_neg ix,decide_eq_false ix] at NX
   obtain ⟨oy,hoy⟩:∃ b,decide (I64 cy) = b:=⟨_,rfl⟩
   obtain ⟨uy,huy⟩:∃ b,(if I64 cy then cy else 0) = b:=⟨_,rfl⟩
   rw [hoy,huy] at NY
   clear ix hoy huy
   obtain ⟨yZ0,yZ1,yZ2,yZ3,yZ4,yZ5,yZ6,yZz,yZf0,yZf1,yZf2,yZf3,yZf4,yZf5,yZf6⟩:=blf7 KZ
   obtain ⟨yS0,yS1,yS2,yS3,yS4,yS5,yS6,ySz,ySf0,ySf1,ySf2,ySf3,ySf4,ySf5,ySf6⟩:=blf7 KS
   go_wp2_with fail
   refine (NX.out _).mono ?_
   rintro e4 w4 ⟨rfl,hb4⟩
   refine up3 hb4 HB KZ KN KS ?_
   clear hb4 yZ0 yZ1 yZ2 yZ3 yZ4 yZ5 yZ6 yZz yZf0 yZf1 yZf2 yZf3 yZf4 yZf5 yZf6 yS0 yS1 yS2 yS3 yS4 yS5 yS6 ySz ySf0 ySf1 ySf2 ySf3 ySf4 ySf5 ySf6 HB KZ KN KS
   intro HB KZ KN KS
   obtain ⟨yS0,yS1,yS2,yS3,yS4,yS5,yS6,ySz,ySf0,ySf1,ySf2,ySf3,ySf4,ySf5,ySf6⟩:=blf7 KS
   go_wp2_with fail
   refine (NY.out _).mono ?_
   rintro e5 w5 ⟨rfl,hb5⟩
   refine up3 hb5 HB KZ KN KS ?_
   clear hb5 yS0 yS1 yS2 yS3 yS4 yS5 yS6 ySz ySf0 ySf1 ySf2 ySf3 ySf4 ySf5 ySf6 HB KZ KN KS
   intro HB KZ KN KS
   obtain ⟨yZ0,yZ1,yZ2,yZ3,yZ4,yZ5,yZ6,yZz,yZf0,yZf1,yZf2,yZf3,yZf4,yZf5,yZf6⟩:=blf7 KZ
   obtain ⟨yS0,yS1,yS2,yS3,yS4,yS5,yS6,ySz,ySf0,ySf1,ySf2,ySf3,ySf4,ySf5,ySf6⟩:=blf7 KS
   go_wp2
   replace KS:=kst (kst KS 5 (.int .i64 0)) 6 (.int .i64 uy)
   refine ot2 (st2 w5 bS 5 (.int .i64 0) 6 (.int .i64 uy)) HB KZ KN (by omega) (by omega) (by omega) ?_
   clear HB KZ KN
   intro HB KZ KN
   clear yZ0 yZ1 yZ2 yZ3 yZ4 yZ5 yZ6 yZz yZf0 yZf1 yZf2 yZf3 yZf4 yZf5 yZf6 yS0 yS1 yS2 yS3 yS4 yS5 yS6 ySz ySf0 ySf1 ySf2 ySf3 ySf4 ySf5 ySf6
   generalize (w5.setCell _ _).setCell _ _ = w6 at *
   simp only [List.set] at KS
   replace KZ:=kst (kst (kst (kst (kst (kst (kst KZ 0 (.int .i64 0)) 1 (.int .u64 0)) 2 (.int .i64 0)) 3 (.int .u64 0)) 4 (.int .i64 0)) 5 (.int .i64 0)) 6 (.int .i64 0)
   refine ot2 (st7 w6 w.heap.size 0 (.int .i64 0) 1 (.int .u64 0) 2 (.int .i64 0) 3 (.int .u64 0) 4 (.int .i64 0) 5 (.int .i64 0) 6 (.int .i64 0)) HB KN KS (by omega) (by omega) (by omega) ?_
   clear HB KN KS
   intro HB KN KS
   generalize ((((((w6.setCell _ _).setCell _ _).setCell _ _).setCell _ _).setCell _ _).setCell _ _).setCell _ _ = w7 at *
   simp only [List.set] at KZ
   obtain ⟨yZ0,yZ1,yZ2,yZ3,yZ4,yZ5,yZ6,yZz⟩:=blk7 KZ
   refine bodyPost_ret (v:=.tuple #[.agg #[.int .i64 0,.int .u64 0,.int .i64 0,.int .u64 0,.int .i64 0,.int .i64 0,.int .i64 0],.int .i64 2]) (by simp [results,Tryz.results96,go_sem,yZ0,yZ1,yZ2,yZ3,yZ4,yZ5,yZ6]) rfl ⟨by rw [HE.out],HB.out⟩
theorem sol_ok (l:List Ms) (v:Value) (w:World) (h:LstAt l v w) (hs:solE l = 0) :
 Calls Tryz.prog 96 #[v] w fun e w'=>e = .returned (.tuple #[.agg #[.int .i64 (hiW (solX l)),.int .u64 (loW (solX l)),.int .i64 (hiW (solY l)),.int .u64 (loW (solY l)),.int .i64 (detN l),.int .i64 (cenX l),.int .i64 (cenY l)],.int .i64 0])∧Below w.heap.size w w':=by
 have hc:=(sol_chk hs).1
 obtain ⟨p,cap,rfl⟩:=lst_form h
 have OL:=Lib.hid (okL_of hc)
 obtain ⟨⟨a0,a1⟩,⟨b0,b1⟩,⟨c0,c1⟩,⟨d0,d1⟩,⟨e0,e1⟩⟩:=nrm_bd OL.out
 obtain ⟨⟨dt0,dt1⟩,⟨sx0,sx1⟩,⟨sy0,sy1⟩⟩:=sol_bd (nrm_bd OL.out)
 have NO:=Lib.hid fun w h=>normal_any l (.slice p l.length cap) w h hc
 have P1:=mulb (X:=16777216) (Y:=16777216) (by omega) a0 a1 c0 c1
 have P2:=mulb (X:=16777216) (Y:=16777216) (by omega) b0 b1 b0 b1
 have LX:=Lib.hid fun w=>lsq_less (nYY l) (nXZ l) (nXY l) (nYZ l) w ⟨by omega,by omega⟩ ⟨by omega,by omega⟩ ⟨by omega,by omega⟩ ⟨by omega,by omega⟩ (show FitW (solX l) from ⟨by omega,by omega⟩)
 have LY:=Lib.hid fun w=>lsq_less (nXX l) (nYZ l) (nXY l) (nXZ l) w ⟨by omega,by omega⟩ ⟨by omega,by omega⟩ ⟨by omega,by omega⟩ ⟨by omega,by omega⟩ (show FitW (solY l) from ⟨by omega,by omega⟩)
 have q1:IntKind.i64.wrap (nXX l * nYY l) = nXX l * nYY l:=IntWalk.i64_in _ (by omega)
 have q2:IntKind.i64.wrap (nXY l * nXY l) = nXY l * nXY l:=IntWalk.i64_in _ (by omega)
 have q3:IntKind.i64.wrap (nXX l * nYY l - nXY l * nXY l) = detN l:=IntWalk.i64_in _ (by unfold detN at dt0 dt1; omega)
 have HX:Hid (solX l = nYY l * nXZ l - nXY l * nYZ l):=Lib.hid rfl
 have HY:Hid (solY l = nXX l * nYZ l - nXY l * nXZ l):=Lib.hid rfl
 rw [← HX.out] at LX
 rw [← HY.out] at LY
 have NX:=Lib.hid fun (hd:0 < detN l) w=>nearest_any (solX l) (detN l) w (by omega) (by omega) hd (by omega)
 have NY:=Lib.hid fun (hd:0 < detN l) w=>nearest_any (solY l) (detN l) w (by omega) (by omega) hd (by omega)
 have VP:=Lib.hid fun w=>vldP_any (cenX l) (cenY l) w
 have E0:solE l = if detN l = 0 then 14 else if (pOk (cenX l) && pOk (cenY l)) = true then 0 else 2:=by unfold solE; rw [if_pos hc]
 have HDP:detN l≠0→0 < detN l:=fun q=>by have:=det_nonneg l (chk_w hc); omega
 rw [show nearI2 (solX l) (detN l) = cenX l from rfl] at NX
 rw [show nearI2 (solY l) (detN l) = cenY l from rfl] at NY
 clear hc a0 a1 b0 b1 c0 c1 d0 d1 e0 e1 dt0 dt1 sx0 sx1 sy0 sy1 P1 P2 HX HY
 obtain ⟨A,EA⟩:∃ x,nXX l = x:=⟨_,rfl⟩
 obtain ⟨B,EB⟩:∃ x,nXY l = x:=⟨_,rfl⟩
 obtain ⟨C,EC⟩:∃ x,nYY l = x:=⟨_,rfl⟩
 obtain ⟨D,ED⟩:∃ x,nXZ l = x:=⟨_,rfl⟩
 obtain ⟨E,EE⟩:∃ x,nYZ l = x:=⟨_,rfl⟩
 obtain ⟨X,EX⟩:∃ x,solX l = x:=⟨_,rfl⟩
 obtain ⟨Y,EY⟩:∃ x,solY l = x:=⟨_,rfl⟩
 obtain ⟨T,ET⟩:∃ x,detN l = x:=⟨_,rfl⟩
 rw [EA,EB,EC,ED,EE] at NO
 rw [EC,ED,EB,EE,EX] at LX
 rw [EA,EE,EB,ED,EY] at LY
 rw [EA,EC] at q1
 rw [EB] at q2
 rw [EA,EB,EC,ET] at q3
 rw [ET,EX] at NX
 rw [ET,EY] at NY
 rw [ET] at E0 HDP
 have HX:=Lib.hid EX
 have HY:=Lib.hid EY
 have HT:=Lib.hid ET
 clear EA EB EC ED EE EX EY ET
 obtain ⟨cx,hcx⟩:∃ x,cenX l = x:=⟨_,rfl⟩
 obtain ⟨cy,hcy⟩:∃ x,cenY l = x:=⟨_,rfl⟩
 rw [hcx] at NX
 rw [hcy] at NY
 rw [hcx,hcy] at VP E0
 have HCX:=Lib.hid hcx
 have HCY:=Lib.hid hcy
 clear hcx hcy
 have PV:(pOk cx && pOk cy) = vldP cx cy:=by unfold pOk vldP; rw [Bool.eq_iff_iff]; simp only [Bool.and_eq_true,decide_eq_true_eq]; omega
 have PI:vldP cx cy = true→I64 cx∧I64 cy:=fun h=>by have:=vldP_iff.1 h; exact ⟨⟨by omega,by omega⟩,by omega,by omega⟩
 rw [PV] at E0
 clear PV
 unfold wv at LX LY NX NY
 rw [hs] at E0
 clear hs
 have ht:T≠0:=fun q=>by rw [if_pos q] at E0; cases E0
 have hv:vldP cx cy = true:=by
  rw [if_neg ht] at E0
  cases hv:vldP cx cy with
  | true=>rfl
  | false=>rw [hv,if_neg (by simp)] at E0; cases E0
 have g:(T == 0) = false:=by simpa using ht
 have NX:=Lib.hid (NX.out (HDP ht))
 have NY:=Lib.hid (NY.out (HDP ht))
 obtain ⟨ix,iy⟩:=PI hv
 rw [if_pos ix,decide_eq_true ix] at NX
 rw [if_pos iy,decide_eq_true iy] at NY
 rw [hv] at VP
 clear E0 HDP PI ht hv ix iy
 have H0:=Lib.hid h
 obtain ⟨KZ,HB⟩:=ent1 w #[.int .i64 0,.int .u64 0,.int .i64 0,.int .u64 0,.int .i64 0,.int .i64 0,.int .i64 0] 114
 go_enter Tryz.func96,Tryz.ntmps96
 clear h
 go_wp2_with fail
 generalize w.alloc _ = w0 at *
 refine (NO.out _ (H0.out.below HB.out)).mono ?_
 rintro e1 w1 ⟨rfl,hb1⟩
 replace HB:=hT HB hb1
 replace KZ:=hK KZ hb1
 clear hb1
 go_wp2_with fail
 obtain ⟨KN,hb2⟩:=alB w1 #[.int .i64 A,.int .i64 B,.int .i64 C,.int .i64 D,.int .i64 E] 160
 have hnN:=HB.out.size
 have nzN_Z:=KZ.out.lt
 replace HB:=hT HB hb2
 replace KZ:=hK KZ hb2
 clear hb2
 generalize w1.alloc _ = w2 at *
 generalize w1.heap.size = bN at *
 have neN_Z:bN≠w.heap.size:=by omega
 clear nzN_Z
 have BD:=Lib.hid (show Below w2.heap.size w2 w2.drew from ⟨rfl,rfl,rfl,Nat.le_refl _,fun _ _=>rfl⟩)
 have BD2:=Lib.hid (below_drew_alloc w2 (.cells #[.int .i64 0,.int .u64 0,.int .i64 0,.int .u64 0,.int .i64 0,.int .i64 0,.int .i64 0] 114))
 have DLX:=Lib.hid fun W (h:Below w2.heap.size w2 W)=>(LX.out W).mono fun e w' ⟨h1,h2⟩=>show _∧Below w2.heap.size w2 w'∧Below W.heap.size W w' from ⟨h1,h.trans (h2.mono h.size),h2⟩
 have DLY:=Lib.hid fun W (h:Below w2.heap.size w2 W)=>(LY.out W).mono fun e w' ⟨h1,h2⟩=>show _∧Below w2.heap.size w2 w'∧Below W.heap.size W w' from ⟨h1,h.trans (h2.mono h.size),h2⟩
 obtain ⟨yN0,yN1,yN2,yN3,yN4,yNz⟩:=blk5 KN
 apply wp_join (R:=fun b w'=>w.heap.size≤b∧b≠w.heap.size∧b≠bN∧Hid (Below w.heap.size w w')∧Hid (Blk [.int .i64 (hiW X),.int .u64 (loW X),.int .i64 (hiW Y),.int .u64 (loW Y),.int .i64 T,.int .i64 0,.int .i64 0] b w')∧Hid (Blk [.int .i64 0,.int .u64 0,.int .i64 0,.int .u64 0,.int .i64 0,.int .i64 0,.int .i64 0] w.heap.size w')∧Hid (Blk [.int .i64 A,.int .i64 B,.int .i64 C,.int .i64 D,.int .i64 E] bN w'))
 ·go_region_held3 (fun w'=>w'.cell? ⟨bN,0,none⟩ = some (.int .i64 A)∧w'.cell? ⟨bN,1,none⟩ = some (.int .i64 B)∧w'.cell? ⟨bN,2,none⟩ = some (.int .i64 C)∧w'.cell? ⟨bN,3,none⟩ = some (.int .i64 D)∧w'.cell? ⟨bN,4,none⟩ = some (.int .i64 E)) (first | (refine ⟨?_,?_,?_,?_,?_⟩ <;> first | with_reducible assumption | (rw [far7 KV.out.1 yNz]; with_reducible assumption)) | go_keep)
   (first
    | (go_at_call 141; with_reducible refine Calls.mono (DLX.out _ (by first | with_reducible exact BD.out | with_reducible exact BD2.out | with_reducible exact HX.out | with_reducible exact HX.out.alloc HX.out.size _)) ?_; rintro e9 w9 ⟨rfl,hb9,hc9⟩; have pN:=KN.out.below hb9; have qN0:=pN.c 0 _ rfl; have qN1:=pN.c 1 _ rfl; have qN2:=pN.c 2 _ rfl; have qN3:=pN.c 3 _ rfl; have qN4:=pN.c 4 _ rfl; clear pN; (first | (with_reducible have KV:=Lib.hid (kv_drew (vs:=#[.int .i64 0,.int .u64 0,.int .i64 0,.int .u64 0,.int .i64 0,.int .i64 0,.int .i64 0]) (t:=114) hc9); have pV:=KV.out.2; have v0:=pV.c 0 _ rfl; have vf0:=pV.f 0 _ rfl; have v1:=pV.c 1 _ rfl; have vf1:=pV.f 1 _ rfl; have v2:=pV.c 2 _ rfl; have vf2:=pV.f 2 _ rfl; have v3:=pV.c 3 _ rfl; have vf3:=pV.f 3 _ rfl; have v4:=pV.c 4 _ rfl; have vf4:=pV.f 4 _ rfl; have v5:=pV.c 5 _ rfl; have vf5:=pV.f 5 _ rfl; have v6:=pV.c 6 _ rfl; have vf6:=pV.f 6 _ rfl; have v9:=pV.lt; clear pV) | (with_reducible have KV:=Lib.hid (kv_new (vs:=#[.int .i64 0,.int .u64 0,.int .i64 0,.int .u64 0,.int .i64 0,.int .i64 0,.int .i64 0]) (t:=114) HX.out hc9); have pV:=KV.out.2; have v0:=pV.c 0 _ rfl; have vf0:=pV.f 0 _ rfl; have v1:=pV.c 1 _ rfl; have vf1:=pV.f 1 _ rfl; have v2:=pV.c 2 _ rfl; have vf2:=pV.f 2 _ rfl; have v3:=pV.c 3 _ rfl; have vf3:=pV.f 3 _ rfl; have v4:=pV.c 4 _ rfl; have vf4:=pV.f 4 _ rfl; have v5:=pV.c 5 _ rfl; have vf5:=pV.f 5 _ rfl; have v6:=pV.c 6 _ rfl; have vf6:=pV.f 6 _ rfl; have v9:=pV.lt; clear pV) | (with_reducible have KV:=Lib.hid (kv_old KV.out hc9); have pV:=KV.out.2; have v0:=pV.c 0 _ rfl; have vf0:=pV.f 0 _ rfl; have v1:=pV.c 1 _ rfl; have vf1:=pV.f 1 _ rfl; have v2:=pV.c 2 _ rfl; have vf2:=pV.f 2 _ rfl; have v3:=pV.c 3 _ rfl; have vf3:=pV.f 3 _ rfl; have v4:=pV.c 4 _ rfl; have vf4:=pV.f 4 _ rfl; have v5:=pV.c 5 _ rfl; have vf5:=pV.f 5 _ rfl; have v6:=pV.c 6 _ rfl; have vf6:=pV.f 6 _ rfl; have v9:=pV.lt; clear pV) | skip); have HX:=Lib.hid hb9; clear hb9 hc9)
    | (go_at_call 141; with_reducible refine Calls.mono (DLY.out _ (by first | with_reducible exact BD.out | with_reducible exact BD2.out | with_reducible exact HX.out | with_reducible exact HX.out.alloc HX.out.size _)) ?_; rintro e9 w9 ⟨rfl,hb9,hc9⟩; have pN:=KN.out.below hb9; have qN0:=pN.c 0 _ rfl; have qN1:=pN.c 1 _ rfl; have qN2:=pN.c 2 _ rfl; have qN3:=pN.c 3 _ rfl; have qN4:=pN.c 4 _ rfl; clear pN; (first | (with_reducible have KV:=Lib.hid (kv_drew (vs:=#[.int .i64 0,.int .u64 0,.int .i64 0,.int .u64 0,.int .i64 0,.int .i64 0,.int .i64 0]) (t:=114) hc9); have pV:=KV.out.2; have v0:=pV.c 0 _ rfl; have vf0:=pV.f 0 _ rfl; have v1:=pV.c 1 _ rfl; have vf1:=pV.f 1 _ rfl; have v2:=pV.c 2 _ rfl; have vf2:=pV.f 2 _ rfl; have v3:=pV.c 3 _ rfl; have vf3:=pV.f 3 _ rfl; have v4:=pV.c 4 _ rfl; have vf4:=pV.f 4 _ rfl; have v5:=pV.c 5 _ rfl; have vf5:=pV.f 5 _ rfl; have v6:=pV.c 6 _ rfl; have vf6:=pV.f 6 _ rfl; have v9:=pV.lt; clear pV) | (with_reducible have KV:=Lib.hid (kv_new (vs:=#[.int .i64 0,.int .u64 0,.int .i64 0,.int .u64 0,.int .i64 0,.int .i64 0,.int .i64 0]) (t:=114) HX.out hc9); have pV:=KV.out.2; have v0:=pV.c 0 _ rfl; have vf0:=pV.f 0 _ rfl; have v1:=pV.c 1 _ rfl; have vf1:=pV.f 1 _ rfl; have v2:=pV.c 2 _ rfl; have vf2:=pV.f 2 _ rfl; have v3:=pV.c 3 _ rfl; have vf3:=pV.f 3 _ rfl; have v4:=pV.c 4 _ rfl; have vf4:=pV.f 4 _ rfl; have v5:=pV.c 5 _ rfl; have vf5:=pV.f 5 _ rfl; have v6:=pV.c 6 _ rfl; have vf6:=pV.f 6 _ rfl; have v9:=pV.lt; clear pV) | (with_reducible have KV:=Lib.hid (kv_old KV.out hc9); have pV:=KV.out.2; have v0:=pV.c 0 _ rfl; have vf0:=pV.f 0 _ rfl; have v1:=pV.c 1 _ rfl; have vf1:=pV.f 1 _ rfl; have v2:=pV.c 2 _ rfl; have vf2:=pV.f 2 _ rfl; have v3:=pV.c 3 _ rfl; have vf3:=pV.f 3 _ rfl; have v4:=pV.c 4 _ rfl; have vf4:=pV.f 4 _ rfl; have v5:=pV.c 5 _ rfl; have vf5:=pV.f 5 _ rfl; have v6:=pV.c 6 _ rfl; have vf6:=pV.f 6 _ rfl; have v9:=pV.lt; clear pV) | skip); have HX:=Lib.hid hb9; clear hb9 hc9))
  all_goals
   first
    | (have FN:=kv_set7 (.int .i64 (hiW X)) (.int .u64 (loW X)) (.int .i64 (hiW Y)) (.int .u64 (loW Y)) (.int .i64 T) (.int .i64 0) (.int .i64 0) KV.out HX.out; have FB:=Lib.hid FN.1; have KS:=Lib.hid FN.2.1; have n0S:=FN.2.2; clear FN; generalize World.setCell (World.setCell (World.setCell (World.setCell (World.setCell (World.setCell (World.setCell _ _ (.int .i64 (hiW X))) _ (.int .u64 (loW X))) _ (.int .i64 (hiW Y))) _ (.int .u64 (loW Y))) _ (.int .i64 T)) _ (.int .i64 0)) _ (.int .i64 0) = w3 at *)
    | (have FN:=kv_putn (vs:=#[.int .i64 (hiW X),.int .u64 (loW X),.int .i64 (hiW Y),.int .u64 (loW Y),.int .i64 T,.int .i64 0,.int .i64 0]) (t:=114) HX.out; have FB:=Lib.hid FN.1; have KS:=Lib.hid FN.2.1; have n0S:=FN.2.2; clear FN; generalize (World.alloc _ (.cells #[.int .i64 (hiW X),.int .u64 (loW X),.int .i64 (hiW Y),.int .u64 (loW Y),.int .i64 T,.int .i64 0,.int .i64 0] 114)) = w3 at *)
   have nS:=Nat.le_trans HB.out.size n0S
   have neS_Z:=Nat.ne_of_gt (Nat.lt_of_lt_of_le KZ.out.lt n0S)
   have neS_N:=Nat.ne_of_gt (Nat.lt_of_lt_of_le KN.out.lt n0S)
   replace HB:=Lib.hid (HB.out.trans (FB.out.mono HB.out.size))
   replace KZ:=Lib.hid (KZ.out.below FB.out)
   replace KN:=Lib.hid (KN.out.below FB.out)
   obtain ⟨bS,hbS⟩:=ex_blk KS
   rw [← hbS] at KS nS neS_Z neS_N ⊢
   refine OnlyN.mk ⟨bS,rfl,?_⟩
   with_reducible exact ⟨nS,neS_Z,neS_N,HB,KS,KZ,KN⟩
 clear BD BD2 DLX DLY yN0 yN1 yN2 yN3 yN4 yNz
 rintro bS w3 ⟨nS,neS_Z,neS_N,HB2,KS,KZ2,KN2⟩
 replace HB:=HB2
 clear HB2
 replace KZ:=KZ2
 clear KZ2
 replace KN:=KN2
 clear KN2
 clear LX LY NO q1 q2 q3
 obtain ⟨yZ0,yZ1,yZ2,yZ3,yZ4,yZ5,yZ6,yZz,yZf0,yZf1,yZf2,yZf3,yZf4,yZf5,yZf6⟩:=blf7 KZ
 obtain ⟨yS0,yS1,yS2,yS3,yS4,yS5,yS6,ySz,ySf0,ySf1,ySf2,ySf3,ySf4,ySf5,ySf6⟩:=blf7 KS
 go_wp2_with fail
 refine (NX.out _).mono ?_
 rintro e4 w4 ⟨rfl,hb4⟩
 refine up3 hb4 HB KZ KN KS ?_
 clear hb4 yZ0 yZ1 yZ2 yZ3 yZ4 yZ5 yZ6 yZz yZf0 yZf1 yZf2 yZf3 yZf4 yZf5 yZf6 yS0 yS1 yS2 yS3 yS4 yS5 yS6 ySz ySf0 ySf1 ySf2 ySf3 ySf4 ySf5 ySf6 HB KZ KN KS
 intro HB KZ KN KS
 obtain ⟨yS0,yS1,yS2,yS3,yS4,yS5,yS6,ySz,ySf0,ySf1,ySf2,ySf3,ySf4,ySf5,ySf6⟩:=blf7 KS
 go_wp2_with fail
 refine (NY.out _).mono ?_
 rintro e5 w5 ⟨rfl,hb5⟩
 refine up3 hb5 HB KZ KN KS ?_
 clear hb5 yS0 yS1 yS2 yS3 yS4 yS5 yS6 ySz ySf0 ySf1 ySf2 ySf3 ySf4 ySf5 ySf6 HB KZ KN KS
 intro HB KZ KN KS
 obtain ⟨yZ0,yZ1,yZ2,yZ3,yZ4,yZ5,yZ6,yZz,yZf0,yZf1,yZf2,yZf3,yZf4,yZf5,yZf6⟩:=blf7 KZ
 obtain ⟨yS0,yS1,yS2,yS3,yS4,yS5,yS6,ySz,ySf0,ySf1,ySf2,ySf3,ySf4,ySf5,ySf6⟩:=blf7 KS
 go_wp2_with fail
 replace KS:=kst (kst KS 5 (.int .i64 cx)) 6 (.int .i64 cy)
 refine ot2 (st2 w5 bS 5 (.int .i64 cx) 6 (.int .i64 cy)) HB KZ KN (by omega) (by omega) (by omega) ?_
 clear HB KZ KN
 intro HB KZ KN
 clear yZ0 yZ1 yZ2 yZ3 yZ4 yZ5 yZ6 yZz yZf0 yZf1 yZf2 yZf3 yZf4 yZf5 yZf6 yS0 yS1 yS2 yS3 yS4 yS5 yS6 ySz ySf0 ySf1 ySf2 ySf3 ySf4 ySf5 ySf6
 generalize (w5.setCell _ _).setCell _ _ = w6 at *
 simp only [List.set] at KS
 refine (VP.out _).mono ?_
 rintro e7 w7 ⟨rfl,hb7⟩
 refine up3 hb7 HB KZ KN KS ?_
 clear hb7 HB KZ KN KS
 intro HB KZ KN KS
 obtain ⟨yZ0,yZ1,yZ2,yZ3,yZ4,yZ5,yZ6,yZz,yZf0,yZf1,yZf2,yZf3,yZf4,yZf5,yZf6⟩:=blf7 KZ
 obtain ⟨yS0,yS1,yS2,yS3,yS4,yS5,yS6,ySz,ySf0,ySf1,ySf2,ySf3,ySf4,ySf5,ySf6⟩:=blf7 KS
 go_wp2
 replace KZ:=kst (kst (kst (kst (kst (kst (kst KZ 0 (.int .i64 (hiW X))) 1 (.int .u64 (loW X))) 2 (.int .i64 (hiW Y))) 3 (.int .u64 (loW Y))) 4 (.int .i64 T)) 5 (.int .i64 cx)) 6 (.int .i64 cy)
 refine ot2 (st7 w7 w.heap.size 0 (.int .i64 (hiW X)) 1 (.int .u64 (loW X)) 2 (.int .i64 (hiW Y)) 3 (.int .u64 (loW Y)) 4 (.int .i64 T) 5 (.int .i64 cx) 6 (.int .i64 cy)) HB KN KS (by omega) (by omega) (by omega) ?_
 clear HB KN KS
 intro HB KN KS
 clear yZ0 yZ1 yZ2 yZ3 yZ4 yZ5 yZ6 yZz yZf0 yZf1 yZf2 yZf3 yZf4 yZf5 yZf6 yS0 yS1 yS2 yS3 yS4 yS5 yS6 ySz ySf0 ySf1 ySf2 ySf3 ySf4 ySf5 ySf6
 generalize ((((((w7.setCell _ _).setCell _ _).setCell _ _).setCell _ _).setCell _ _).setCell _ _).setCell _ _ = w8 at *
 simp only [List.set] at KZ
 obtain ⟨yZ0,yZ1,yZ2,yZ3,yZ4,yZ5,yZ6,yZz⟩:=blk7 KZ
 refine bodyPost_ret (v:=.tuple #[.agg #[.int .i64 (hiW X),.int .u64 (loW X),.int .i64 (hiW Y),.int .u64 (loW Y),.int .i64 T,.int .i64 cx,.int .i64 cy],.int .i64 0]) (by simp [results,Tryz.results96,go_sem,yZ0,yZ1,yZ2,yZ3,yZ4,yZ5,yZ6]) rfl ⟨by rw [HX.out,HY.out,HT.out,HCX.out,HCY.out],HB.out⟩
set_option maxHeartbeats 8000000
theorem sol_bad (l:List Ms) (v:Value) (w:World) (h:LstAt l v w) (hs:solE l≠0) :
 Calls Tryz.prog 96 #[v] w fun e w'=>e = .returned (.tuple #[.agg #[.int .i64 0,.int .u64 0,.int .i64 0,.int .u64 0,.int .i64 0,.int .i64 0,.int .i64 0],.int .i64 (solE l)])∧Below w.heap.size w w':=by
 by_cases hc:chkL l = 0
 ·exact sol_bad0 l v w h hc hs
 ·rw [chk_sol hc]
  clear hs
  obtain ⟨p,cap,rfl⟩:=lst_form h
  have NO:=Lib.hid fun w h=>normal_bad l (.slice p l.length cap) w h hc
  have g:(chkL l != 0) = true:=by simpa using hc
  have g':(chkL l == 0) = false:=by simpa using hc
  clear hc
  generalize chkL l = c at *
  have H0:=Lib.hid h
  obtain ⟨KZ,HB⟩:=ent1 w #[.int .i64 0,.int .u64 0,.int .i64 0,.int .u64 0,.int .i64 0,.int .i64 0,.int .i64 0] 114
  go_enter Tryz.func96,Tryz.ntmps96
  clear h
  go_wp2_with fail
  generalize w.alloc _ = w0 at *
  refine (NO.out _ (H0.out.below HB.out)).mono ?_
  rintro e1 w1 ⟨rfl,hb1⟩
  replace HB:=hT HB hb1
  replace KZ:=hK KZ hb1
  clear hb1
  obtain ⟨yZ0,yZ1,yZ2,yZ3,yZ4,yZ5,yZ6,yZz,yZf0,yZf1,yZf2,yZf3,yZf4,yZf5,yZf6⟩:=blf7 KZ
  go_wp2
  have hs:=st7 w1 w.heap.size 0 (.int .i64 0) 1 (.int .u64 0) 2 (.int .i64 0) 3 (.int .u64 0) 4 (.int .i64 0) 5 (.int .i64 0) 6 (.int .i64 0)
  replace KZ:=kst (kst (kst (kst (kst (kst (kst KZ 0 (.int .i64 0)) 1 (.int .u64 0)) 2 (.int .i64 0)) 3 (.int .u64 0)) 4 (.int .i64 0)) 5 (.int .i64 0)) 6 (.int .i64 0)
  replace HB:=oH hs HB (by omega)
  clear hs
  clear yZ0 yZ1 yZ2 yZ3 yZ4 yZ5 yZ6 yZz yZf0 yZf1 yZf2 yZf3 yZf4 yZf5 yZf6
  generalize ((((((w1.setCell _ _).setCell _ _).setCell _ _).setCell _ _).setCell _ _).setCell _ _).setCell _ _ = w2 at *
  simp only [List.set] at KZ
  obtain ⟨KN,hb3⟩:=alB w2 #[.int .i64 0,.int .i64 0,.int .i64 0,.int .i64 0,.int .i64 0] 160
  have hnN:=HB.out.size
  have nzN_Z:=KZ.out.lt
  replace HB:=hT HB hb3
  replace KZ:=hK KZ hb3
  clear hb3
  generalize w2.alloc _ = w3 at *
  generalize w2.heap.size = bN at *
  have neN_Z:bN≠w.heap.size:=by omega
  clear nzN_Z
  obtain ⟨yZ0,yZ1,yZ2,yZ3,yZ4,yZ5,yZ6,yZz⟩:=blk7 KZ
  refine bodyPost_ret (v:=.tuple #[.agg #[.int .i64 0,.int .u64 0,.int .i64 0,.int .u64 0,.int .i64 0,.int .i64 0,.int .i64 0],.int .i64 c]) (by simp [results,Tryz.results96,go_sem,yZ0,yZ1,yZ2,yZ3,yZ4,yZ5,yZ6]) rfl ⟨rfl,HB.out⟩
end Go.Proofs.YtajmjkliblippaaGreatDoor
namespace Go.Proofs.YtajmjkliblippaaGreatDoor
open Go.RowKit
theorem pOk_iff {v:Int}:pOk v = true↔-2000000≤v∧v≤2000000:=by unfold pOk; rw [decide_eq_true_iff]
theorem det_pos {l:List Ms} (h:chkL l = 0) (hd:detN l≠0):0 < detN l:=by have:=det_nonneg l (chk_w h); omega
theorem reachB_of {l:List Ms} (h:OkL l) (hd:0 < detN l) {cx cy:Int} (h0:pOk cx = true) (h1:pOk cy = true):ReachB cx cy (solX l) (solY l) (noiX l) (noiY l) (detN l):=by
 have a:=pOk_iff.1 h0
 have b:=pOk_iff.1 h1
 have s:=sol_bd (nrm_bd h)
 have n:=noi_bd h
 exact ⟨⟨a.1,a.2,b.1,b.2⟩,s.x,s.y,n.1,n.2,hd,s.det.2⟩
theorem reachL_any {l:List Ms} (h:OkL l) (hd:0 < detN l) {cx cy:Int} (h0:pOk cx = true) (h1:pOk cy = true) (w:World) :
 Calls Tryz.prog 98 #[.agg #[.int .i64 cx,.int .i64 cy],.agg #[.int .i64 (hiW (solX l)),.int .u64 (loW (solX l)),.int .i64 (hiW (solY l)),.int .u64 (loW (solY l)),.int .i64 (hiW (noiX l)),.int .u64 (loW (noiX l)),.int .i64 (hiW (noiY l)),.int .u64 (loW (noiY l)),.int .i64 ((detN l))]] w fun e w'=>e = .returned (.tuple #[.int .i64 (reachF cx cy l).1.1,.int .i64 (reachF cx cy l).1.2,.int .i64 (reachF cx cy l).2])∧Below w.heap.size w w':=
 reach_any cx cy (solX l) (solY l) (noiX l) (noiY l) (detN l) w (reachB_of h hd h0 h1)
theorem pair_bad (x y d:Int):(pairF x y d).2 = 0∨pairF x y d = ((0,0),2):=by unfold pairF; split; exact .inl rfl; exact .inr rfl
theorem reach_bad (cx cy:Int) (l:List Ms):(reachF cx cy l).2 = 0∨reachF cx cy l = ((0,0),2):=pair_bad _ _ _
def boxV (b:BoxI):Value:=.agg #[.int .i64 b.cx,.int .i64 b.cy,.int .i64 b.x,.int .i64 b.y]
end Go.Proofs.YtajmjkliblippaaGreatDoor
