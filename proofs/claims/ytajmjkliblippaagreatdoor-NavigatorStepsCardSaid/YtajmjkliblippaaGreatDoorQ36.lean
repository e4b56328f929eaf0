/-
  Walks and laws of the layers below, gathered from several texts.
-/
import Derived.Lib.Hide
import Derived.Test.YtajmjkliblippaaGreatDoorShelfQ
import Derived.WalkKit
import Derived.WalkSpells
import Derived.IntWalk
import Derived.BigQuiet
import Derived.Deep.QuietTactic
import Derived.Deep.LoopGhost
import Derived.LoopTactic
import Derived.Deep.Cut
import Derived.Deep.RegionHeld3
import Derived.Laws.Bits64b
import Derived.Laws.Bits64
import Derived.Lib.QuietBelow
import Derived.Laws.OwnMore
import Derived.Maps.AppendAt
import Derived.OwnWalk
import Derived.OneCell
import Derived.Lib.SmallJoins
import Derived.Deep.Onto
import Derived.Lib.SlicesCompact
import Derived.Lib.RowBridge
import Derived.Sort.OwnSortedInts
import Derived.Test.YtajmjkliblippaaGreatDoorQ3
import Derived.Test.YtajmjkliblippaaGreatDoorQ9
import Derived.Test.YtajmjkliblippaaGreatDoorQ10
import Derived.Test.YtajmjkliblippaaGreatDoorQ14
import Derived.Test.YtajmjkliblippaaGreatDoorQ15
import Derived.Test.YtajmjkliblippaaGreatDoorQ16
import Derived.Test.YtajmjkliblippaaGreatDoorQ17
import Derived.Test.YtajmjkliblippaaGreatDoorQ18
import Derived.Test.YtajmjkliblippaaGreatDoorQ19
import Derived.Test.YtajmjkliblippaaGreatDoorQ22
import Derived.Test.YtajmjkliblippaaGreatDoorQ23
import Derived.Test.YtajmjkliblippaaGreatDoorQ24
import Derived.Test.YtajmjkliblippaaGreatDoorQ26
import Derived.Test.YtajmjkliblippaaGreatDoorQ33
import Derived.Test.YtajmjkliblippaaGreatDoorQ35
set_option linter.unusedVariables false
namespace Go.Proofs.YtajmjkliblippaaGreatDoor
open Go.RowKit
set_option maxHeartbeats 40000000
set_option maxRecDepth 100000
theorem rex_ok (l:List Ms) (v:Value) (w:World) (h:LstAt l v w) (hc:chkL l = 0) (hd:detN l≠0) :
 Calls Tryz.prog 112 #[v] w fun e w'=>e = .returned (.tuple #[.agg #[.int .i64 (hiW (solX l)),.int .u64 (loW (solX l)),.int .i64 (hiW (solY l)),.int .u64 (loW (solY l)),.int .i64 (detN l),.int .i64 0,.int .i64 0],.int .i64 0])∧Below w.heap.size w w':=by
 obtain ⟨p,cap,rfl⟩:=lst_form h
 have OL:=Lib.hid (okL_of hc)
 obtain ⟨⟨a0,a1⟩,⟨b0,b1⟩,⟨c0,c1⟩,⟨d0,d1⟩,⟨e0,e1⟩⟩:=nrm_bd OL.out
 obtain ⟨⟨dt0,dt1⟩,⟨sx0,sx1⟩,⟨sy0,sy1⟩⟩:=sol_bd (nrm_bd OL.out)
 have NO:=Lib.hid fun w h=>rnormal_any l (.slice p l.length cap) w h hc
 have P1:=mulb (X:=16777216) (Y:=16777216) (by omega) a0 a1 c0 c1
 have P2:=mulb (X:=16777216) (Y:=16777216) (by omega) b0 b1 b0 b1
 have LX:=Lib.hid fun w=>rminor_any (nYY l) (nXZ l) (nXY l) (nYZ l) w ⟨by omega,by omega⟩ ⟨by omega,by omega⟩ ⟨by omega,by omega⟩ ⟨by omega,by omega⟩ (show FitW (solX l) from ⟨by omega,by omega⟩)
 have LY:=Lib.hid fun w=>rminor_any (nXX l) (nYZ l) (nXY l) (nXZ l) w ⟨by omega,by omega⟩ ⟨by omega,by omega⟩ ⟨by omega,by omega⟩ ⟨by omega,by omega⟩ (show FitW (solY l) from ⟨by omega,by omega⟩)
 have q1:IntKind.i64.wrap (nXX l * nYY l) = nXX l * nYY l:=IntWalk.i64_in _ (by omega)
 have q2:IntKind.i64.wrap (nXY l * nXY l) = nXY l * nXY l:=IntWalk.i64_in _ (by omega)
 have q3:IntKind.i64.wrap (nXX l * nYY l - nXY l * nXY l) = detN l:=IntWalk.i64_in _ (by unfold detN at dt0 dt1; omega)
 have HX:Hid (solX l = nYY l * nXZ l - nXY l * nYZ l):=Lib.hid rfl
 have HY:Hid (solY l = nXX l * nYZ l - nXY l * nXZ l):=Lib.hid rfl
 rw [← HX.out] at LX
 rw [← HY.out] at LY
 have NX:=Lib.hid fun (hd:0 < detN l) w=>rnearest_any (solX l) (detN l) w (by omega) (by omega) hd (by omega)
 have NY:=Lib.hid fun (hd:0 < detN l) w=>rnearest_any (solY l) (detN l) w (by omega) (by omega) hd (by omega)
 have VP:=Lib.hid fun w=>rvldP_any (cenX l) (cenY l) w
 have E0:solE l = if detN l = 0 then 14 else if (pOk (cenX l) && pOk (cenY l)) = true then 0 else 2:=by unfold solE; rw [if_pos hc]
 have HDP:detN l≠0→0 < detN l:=fun q=>by have:=det_nonneg l (chk_w hc); omega
 rw [show nearI2 (solX l) (detN l) = cenX l from rfl] at NX
 rw [show nearI2 (solY l) (detN l) = cenY l from rfl] at NY
 clear hc a0 a1 b0 b1 c0 c1 d0 d1 e0 e1 dt0 dt1 sx0 sx1 sy0 sy1 P1 P2 HX HY
 obtain ⟨A,EA⟩:∃ x,nXX l = x:=⟨_,rfl⟩
 obtain ⟨B,EB⟩:∃ x,nXY l = x:=⟨_,rfl⟩
 obtain ⟨C,EC⟩:∃ x,nYY l = x:=⟨_,rfl⟩
 obtain ⟨D,ED⟩:∃ x,nXZ l = x:=⟨_,rfl⟩
 obtain ⟨E,EE⟩:∃ x,nYZ l = x:=⟨_,rfl⟩
 obtain ⟨X,EX⟩:∃ x,solX l = x:=⟨_,rfl⟩
 obtain ⟨Y,EY⟩:∃ x,solY l = x:=⟨_,rfl⟩
 obtain ⟨T,ET⟩:∃ x,detN l = x:=⟨_,rfl⟩
 rw [EA,EB,EC,ED,EE] at NO
 rw [EC,ED,EB,EE,EX] at LX
 rw [EA,EE,EB,ED,EY] at LY
 rw [EA,EC] at q1
 rw [EB] at q2
 rw [EA,EB,EC,ET] at q3
 rw [ET,EX] at NX
 rw [ET,EY] at NY
 rw [ET] at E0 HDP
 have HX:=Lib.hid EX
 have HY:=Lib.hid EY
 have HT:=Lib.hid ET
 clear EA EB EC ED EE EX EY ET
 obtain ⟨cx,hcx⟩:∃ x,cenX l = x:=⟨_,rfl⟩
 obtain ⟨cy,hcy⟩:∃ x,cenY l = x:=⟨_,rfl⟩
 rw [hcx] at NX
 rw [hcy] at NY
 rw [hcx,hcy] at VP E0
 have HCX:=Lib.hid hcx
 have HCY:=Lib.hid hcy
 clear hcx hcy
 have PV:(pOk cx && pOk cy) = vldP cx cy:=by unfold pOk vldP; rw [Bool.eq_iff_iff]; simp only [Bool.and_eq_true,decide_eq_true_eq]; omega
 have PI:vldP cx cy = true→I64 cx∧I64 cy:=fun h=>by have:=vldP_iff.1 h; exact ⟨⟨by omega,by omega⟩,by omega,by omega⟩
 rw [PV] at E0
 clear PV
 unfold wv at LX LY NX NY
 have g:(T == 0) = false:=by rw [← HT.out]; simpa using hd
 clear NX NY VP E0 HDP PI HCX HCY hd
 have H0:=Lib.hid h
 obtain ⟨KZ,HB⟩:=ent1 w #[.int .i64 0,.int .u64 0,.int .i64 0,.int .u64 0,.int .i64 0,.int .i64 0,.int .i64 0] 114
 go_enter Tryz.func112,Tryz.ntmps112
 clear h
 go_wp2_with fail
 generalize w.alloc _ = w0 at *
 refine (NO.out _ (H0.out.below HB.out)).mono ?_
 rintro e1 w1 ⟨rfl,hb1⟩
 replace HB:=hT HB hb1
 replace KZ:=hK KZ hb1
 clear hb1
 go_wp2_with fail
 obtain ⟨KN,hb2⟩:=alB w1 #[.int .i64 A,.int .i64 B,.int .i64 C,.int .i64 D,.int .i64 E] 160
 have hnN:=HB.out.size
 have nzN_Z:=KZ.out.lt
 replace HB:=hT HB hb2
 replace KZ:=hK KZ hb2
 clear hb2
 generalize w1.alloc _ = w2 at *
 generalize w1.heap.size = bN at *
 have neN_Z:bN≠w.heap.size:=by omega
 clear nzN_Z
 have BD:=Lib.hid (show Below w2.heap.size w2 w2.drew from ⟨rfl,rfl,rfl,Nat.le_refl _,fun _ _=>rfl⟩)
 have BD2:=Lib.hid (below_drew_alloc w2 (.cells #[.int .i64 0,.int .u64 0,.int .i64 0,.int .u64 0,.int .i64 0,.int .i64 0,.int .i64 0] 114))
 have DLX:=Lib.hid fun W (h:Below w2.heap.size w2 W)=>(LX.out W).mono fun e w' ⟨h1,h2⟩=>show _∧Below w2.heap.size w2 w'∧Below W.heap.size W w' from ⟨h1,h.trans (h2.mono h.size),h2⟩
 have DLY:=Lib.hid fun W (h:Below w2.heap.size w2 W)=>(LY.out W).mono fun e w' ⟨h1,h2⟩=>show _∧Below w2.heap.size w2 w'∧Below W.heap.size W w' from ⟨h1,h.trans (h2.mono h.size),h2⟩
 obtain ⟨yN0,yN1,yN2,yN3,yN4,yNz⟩:=blk5 KN
 apply wp_join (R:=fun b w'=>w.heap.size≤b∧b≠w.heap.size∧b≠bN∧Hid (Below w.heap.size w w')∧Hid (Blk [.int .i64 (hiW X),.int .u64 (loW X),.int .i64 (hiW Y),.int .u64 (loW Y),.int .i64 T,.int .i64 0,.int .i64 0] b w')∧Hid (Blk [.int .i64 0,.int .u64 0,.int .i64 0,.int .u64 0,.int .i64 0,.int .i64 0,.int .i64 0] w.heap.size w')∧Hid (Blk [.int .i64 A,.int .i64 B,.int .i64 C,.int .i64 D,.int .i64 E] bN w'))
 ·go_region_held3 (fun w'=>w'.cell? ⟨bN,0,none⟩ = some (.int .i64 A)∧w'.cell? ⟨bN,1,none⟩ = some (.int .i64 B)∧w'.cell? ⟨bN,2,none⟩ = some (.int .i64 C)∧w'.cell? ⟨bN,3,none⟩ = some (.int .i64 D)∧w'.cell? ⟨bN,4,none⟩ = some (.int .i64 E)) (first | (refine ⟨?_,?_,?_,?_,?_⟩ <;> first | with_reducible assumption | (rw [far7 KV.out.1 yNz]; with_reducible assumption)) | go_keep)
   (first
    | (go_at_call 156; with_reducible refine Calls.mono (DLX.out _ (by first | with_reducible exact BD.out | with_reducible exact BD2.out | with_reducible exact HX.out | with_reducible exact HX.out.alloc HX.out.size _)) ?_; rintro e9 w9 ⟨rfl,hb9,hc9⟩; have pN:=KN.out.below hb9; have qN0:=pN.c 0 _ rfl; have qN1:=pN.c 1 _ rfl; have qN2:=pN.c 2 _ rfl; have qN3:=pN.c 3 _ rfl; have qN4:=pN.c 4 _ rfl; clear pN; (first | (with_reducible have KV:=Lib.hid (kv_drew (vs:=#[.int .i64 0,.int .u64 0,.int .i64 0,.int .u64 0,.int .i64 0,.int .i64 0,.int .i64 0]) (t:=114) hc9); have pV:=KV.out.2; have v0:=pV.c 0 _ rfl; have vf0:=pV.f 0 _ rfl; have v1:=pV.c 1 _ rfl; have vf1:=pV.f 1 _ rfl; have v2:=pV.c 2 _ rfl; have vf2:=pV.f 2 _ rfl; have v3:=pV.c 3 _ rfl; have vf3:=pV.f 3 _ rfl; have v4:=pV.c 4 _ rfl; have vf4:=pV.f 4 _ rfl; have v5:=pV.c 5 _ rfl; have vf5:=pV.f 5 _ rfl; have v6:=pV.c 6 _ rfl; have vf6:=pV.f 6 _ rfl; have v9:=pV.lt; clear pV) | (with_reducible have KV:=Lib.hid (kv_new (vs:=#[.int .i64 0,.int .u64 0,.int .i64 0,.int .u64 0,.int .i64 0,.int .i64 0,.int .i64 0]) (t:=114) HX.out hc9); have pV:=KV.out.2; have v0:=pV.c 0 _ rfl; have vf0:=pV.f 0 _ rfl; have v1:=pV.c 1 _ rfl; have vf1:=pV.f 1 _ rfl; have v2:=pV.c 2 _ rfl; have vf2:=pV.f 2 _ rfl; have v3:=pV.c 3 _ rfl; have vf3:=pV.f 3 _ rfl; have v4:=pV.c 4 _ rfl; have vf4:=pV.f 4 _ rfl; have v5:=pV.c 5 _ rfl; have vf5:=pV.f 5 _ rfl; have v6:=pV.c 6 _ rfl; have vf6:=pV.f 6 _ rfl; have v9:=pV.lt; clear pV) | (with_reducible have KV:=Lib.hid (kv_old KV.out hc9); have pV:=KV.out.2; have v0:=pV.c 0 _ rfl; have vf0:=pV.f 0 _ rfl; have v1:=pV.c 1 _ rfl; have vf1:=pV.f 1 _ rfl; have v2:=pV.c 2 _ rfl; have vf2:=pV.f 2 _ rfl; have v3:=pV.c 3 _ rfl; have vf3:=pV.f 3 _ rfl; have v4:=pV.c 4 _ rfl; have vf4:=pV.f 4 _ rfl; have v5:=pV.c 5 _ rfl; have vf5:=pV.f 5 _ rfl; have v6:=pV.c 6 _ rfl; have vf6:=pV.f 6 _ rfl; have v9:=pV.lt; clear pV) | skip); have HX:=Lib.hid hb9; clear hb9 hc9)
    | (go_at_call 156; with_reducible refine Calls.mono (DLY.out _ (by first | with_reducible exact BD.out | with_reducible exact BD2.out | with_reducible exact HX.out | with_reducible exact HX.out.alloc HX.out.size _)) ?_; rintro e9 w9 ⟨rfl,hb9,hc9⟩; have pN:=KN.out.below hb9; have qN0:=pN.c 0 _ rfl; have qN1:=pN.c 1 _ rfl; have qN2:=pN.c 2 _ rfl; have qN3:=pN.c 3 _ rfl; have qN4:=pN.c 4 _ rfl; clear pN; (first | (with_reducible have KV:=Lib.hid (kv_drew (vs:=#[.int .i64 0,.int .u64 0,.int .i64 0,.int .u64 0,.int .i64 0,.int .i64 0,.int .i64 0]) (t:=114) hc9); have pV:=KV.out.2; have v0:=pV.c 0 _ rfl; have vf0:=pV.f 0 _ rfl; have v1:=pV.c 1 _ rfl; have vf1:=pV.f 1 _ rfl; have v2:=pV.c 2 _ rfl; have vf2:=pV.f 2 _ rfl; have v3:=pV.c 3 _ rfl; have vf3:=pV.f 3 _ rfl; have v4:=pV.c 4 _ rfl; have vf4:=pV.f 4 _ rfl; have v5:=pV.c 5 _ rfl; have vf5:=pV.f 5 _ rfl; have v6:=pV.c 6 _ rfl; have vf6:=pV.f 6 _ rfl; have v9:=pV.lt; clear pV) | (with_reducible have KV:=Lib.hid (kv_new (vs:=#[.int .i64 0,.int .u64 0,.int .i64 0,.int .u64 0,.int .i64 0,.int .i64 0,.int .i64 0]) (t:=114) HX.out hc9); have pV:=KV.out.2; have v0:=pV.c 0 _ rfl; have vf0:=pV.f 0 _ rfl; have v1:=pV.c 1 _ rfl; have vf1:=pV.f 1 _ rfl; have v2:=pV.c 2 _ rfl; have vf2:=pV.f 2 _ rfl; have v3:=pV.c 3 _ rfl; have vf3:=pV.f 3 _ rfl; have v4:=pV.c 4 _ rfl; have vf4:=pV.f 4 _ rfl; have v5:=pV.c 5 _ rfl; have vf5:=pV.f 5 _ rfl; have v6:=pV.c 6 _ rfl; have vf6:=pV.f 6 _ rfl; have v9:=pV.lt; clear pV) | (with_reducible have KV:=Lib.hid (kv_old KV.out hc9); have pV:=KV.out.2; have v0:=pV.c 0 _ rfl; have vf0:=pV.f 0 _ rfl; have v1:=pV.c 1 _ rfl; have vf1:=pV.f 1 _ rfl; have v2:=pV.c 2 _ rfl; have vf2:=pV.f 2 _ rfl; have v3:=pV.c 3 _ rfl; have vf3:=pV.f 3 _ rfl; have v4:=pV.c 4 _ rfl; have vf4:=pV.f 4 _ rfl; have v5:=pV.c 5 _ rfl; have vf5:=pV.f 5 _ rfl; have v6:=pV.c 6 _ rfl; have vf6:=pV.f 6 _ rfl; have v9:=pV.lt; clear pV) | skip); have HX:=Lib.hid hb9; clear hb9 hc9))
  all_goals
   first
    | (have FN:=kv_set7 (.int .i64 (hiW X)) (.int .u64 (loW X)) (.int .i64 (hiW Y)) (.int .u64 (loW Y)) (.int .i64 T) (.int .i64 0) (.int .i64 0) KV.out HX.out; have FB:=Lib.hid FN.1; have KS:=Lib.hid FN.2.1; have n0S:=FN.2.2; clear FN; generalize World.setCell (World.setCell (World.setCell (World.setCell (World.setCell (World.setCell (World.setCell _ _ (.int .i64 (hiW X))) _ (.int .u64 (loW X))) _ (.int .i64 (hiW Y))) _ (.int .u64 (loW Y))) _ (.int .i64 T)) _ (.int .i64 0)) _ (.int .i64 0) = w3 at *)
    | (have FN:=kv_putn (vs:=#[.int .i64 (hiW X),.int .u64 (loW X),.int .i64 (hiW Y),.int .u64 (loW Y),.int .i64 T,.int .i64 0,.int .i64 0]) (t:=114) HX.out; have FB:=Lib.hid FN.1; have KS:=Lib.hid FN.2.1; have n0S:=FN.2.2; clear FN; generalize (World.alloc _ (.cells #[.int .i64 (hiW X),.int .u64 (loW X),.int .i64 (hiW Y),.int .u64 (loW Y),.int .i64 T,.int .i64 0,.int .i64 0] 114)) = w3 at *)
   have nS:=Nat.le_trans HB.out.size n0S
   have neS_Z:=Nat.ne_of_gt (Nat.lt_of_lt_of_le KZ.out.lt n0S)
   have neS_N:=Nat.ne_of_gt (Nat.lt_of_lt_of_le KN.out.lt n0S)
   replace HB:=Lib.hid (HB.out.trans (FB.out.mono HB.out.size))
   replace KZ:=Lib.hid (KZ.out.below FB.out)
   replace KN:=Lib.hid (KN.out.below FB.out)
   obtain ⟨bS,hbS⟩:=ex_blk KS
   rw [← hbS] at KS nS neS_Z neS_N ⊢
   refine OnlyN.mk ⟨bS,rfl,?_⟩
   with_reducible exact ⟨nS,neS_Z,neS_N,HB,KS,KZ,KN⟩
 clear BD BD2 DLX DLY yN0 yN1 yN2 yN3 yN4 yNz
 rintro bS w3 ⟨nS,neS_Z,neS_N,HB2,KS,KZ2,KN2⟩
 replace HB:=HB2
 clear HB2
 replace KZ:=KZ2
 clear KZ2
 replace KN:=KN2
 clear KN2
 clear LX LY NO q1 q2 q3
 obtain ⟨yZ0,yZ1,yZ2,yZ3,yZ4,yZ5,yZ6,yZz,yZf0,yZf1,yZf2,yZf3,yZf4,yZf5,yZf6⟩:=blf7 KZ
 obtain ⟨yS0,yS1,yS2,yS3,yS4,yS5,yS6,ySz⟩:=blk7 KS
 go_wp2
 replace KZ:=kst (kst (kst (kst (kst (kst (kst KZ 0 (.int .i64 (hiW X))) 1 (.int .u64 (loW X))) 2 (.int .i64 (hiW Y))) 3 (.int .u64 (loW Y))) 4 (.int .i64 T)) 5 (.int .i64 0)) 6 (.int .i64 0)
 refine ot2 (st7 w3 w.heap.size 0 (.int .i64 (hiW X)) 1 (.int .u64 (loW X)) 2 (.int .i64 (hiW Y)) 3 (.int .u64 (loW Y)) 4 (.int .i64 T) 5 (.int .i64 0) 6 (.int .i64 0)) HB KN KS (by omega) (by omega) (by omega) ?_
 clear HB KN KS
 intro HB KN KS
 clear yZ0 yZ1 yZ2 yZ3 yZ4 yZ5 yZ6 yZz yZf0 yZf1 yZf2 yZf3 yZf4 yZf5 yZf6 yS0 yS1 yS2 yS3 yS4 yS5 yS6 ySz
 generalize ((((((w3.setCell _ _).setCell _ _).setCell _ _).setCell _ _).setCell _ _).setCell _ _).setCell _ _ = w4 at *
 simp only [List.set] at KZ
 obtain ⟨yZ0,yZ1,yZ2,yZ3,yZ4,yZ5,yZ6,yZz⟩:=blk7 KZ
 refine bodyPost_ret (v:=.tuple #[.agg #[.int .i64 (hiW X),.int .u64 (loW X),.int .i64 (hiW Y),.int .u64 (loW Y),.int .i64 T,.int .i64 0,.int .i64 0],.int .i64 0]) (by simp [results,Tryz.results112,go_sem,yZ0,yZ1,yZ2,yZ3,yZ4,yZ5,yZ6]) rfl ⟨by rw [HX.out,HY.out,HT.out],HB.out⟩
theorem rex_rank (l:List Ms) (v:Value) (w:World) (h:LstAt l v w) (hc:chkL l = 0) (hd:detN l = 0) :
 Calls Tryz.prog 112 #[v] w fun e w'=>e = .returned (.tuple #[.agg #[.int .i64 0,.int .u64 0,.int .i64 0,.int .u64 0,.int .i64 0,.int .i64 0,.int .i64 0],.int .i64 14])∧Below w.heap.size w w':=by
 obtain ⟨p,cap,rfl⟩:=lst_form h
 have OL:=Lib.hid (okL_of hc)
 obtain ⟨⟨a0,a1⟩,⟨b0,b1⟩,⟨c0,c1⟩,⟨d0,d1⟩,⟨e0,e1⟩⟩:=nrm_bd OL.out
 obtain ⟨⟨dt0,dt1⟩,⟨sx0,sx1⟩,⟨sy0,sy1⟩⟩:=sol_bd (nrm_bd OL.out)
 have NO:=Lib.hid fun w h=>rnormal_any l (.slice p l.length cap) w h hc
 have P1:=mulb (X:=16777216) (Y:=16777216) (by omega) a0 a1 c0 c1
 have P2:=mulb (X:=16777216) (Y:=16777216) (by omega) b0 b1 b0 b1
 have LX:=Lib.hid fun w=>rminor_any (nYY l) (nXZ l) (nXY l) (nYZ l) w ⟨by omega,by omega⟩ ⟨by omega,by omega⟩ ⟨by omega,by omega⟩ ⟨by omega,by omega⟩ (show FitW (solX l) from ⟨by omega,by omega⟩)
 have LY:=Lib.hid fun w=>rminor_any (nXX l) (nYZ l) (nXY l) (nXZ l) w ⟨by omega,by omega⟩ ⟨by omega,by omega⟩ ⟨by omega,by omega⟩ ⟨by omega,by omega⟩ (show FitW (solY l) from ⟨by omega,by omega⟩)
 have q1:IntKind.i64.wrap (nXX l * nYY l) = nXX l * nYY l:=IntWalk.i64_in _ (by omega)
 have q2:IntKind.i64.wrap (nXY l * nXY l) = nXY l * nXY l:=IntWalk.i64_in _ (by omega)
 have q3:IntKind.i64.wrap (nXX l * nYY l - nXY l * nXY l) = detN l:=IntWalk.i64_in _ (by unfold detN at dt0 dt1; omega)
 have HX:Hid (solX l = nYY l * nXZ l - nXY l * nYZ l):=Lib.hid rfl
 have HY:Hid (solY l = nXX l * nYZ l - nXY l * nXZ l):=Lib.hid rfl
 rw [← HX.out] at LX
 rw [← HY.out] at LY
 have NX:=Lib.hid fun (hd:0 < detN l) w=>rnearest_any (solX l) (detN l) w (by omega) (by omega) hd (by omega)
 have NY:=Lib.hid fun (hd:0 < detN l) w=>rnearest_any (solY l) (detN l) w (by omega) (by omega) hd (by omega)
 have VP:=Lib.hid fun w=>rvldP_any (cenX l) (cenY l) w
 have E0:solE l = if detN l = 0 then 14 else if (pOk (cenX l) && pOk (cenY l)) = true then 0 else 2:=by unfold solE; rw [if_pos hc]
 have HDP:detN l≠0→0 < detN l:=fun q=>by have:=det_nonneg l (chk_w hc); omega
 rw [show nearI2 (solX l) (detN l) = cenX l from rfl] at NX
 rw [show nearI2 (solY l) (detN l) = cenY l from rfl] at NY
 clear hc a0 a1 b0 b1 c0 c1 d0 d1 e0 e1 dt0 dt1 sx0 sx1 sy0 sy1 P1 P2 HX HY
 obtain ⟨A,EA⟩:∃ x,nXX l = x:=⟨_,rfl⟩
 obtain ⟨B,EB⟩:∃ x,nXY l = x:=⟨_,rfl⟩
 obtain ⟨C,EC⟩:∃ x,nYY l = x:=⟨_,rfl⟩
 obtain ⟨D,ED⟩:∃ x,nXZ l = x:=⟨_,rfl⟩
 obtain ⟨E,EE⟩:∃ x,nYZ l = x:=⟨_,rfl⟩
 obtain ⟨X,EX⟩:∃ x,solX l = x:=⟨_,rfl⟩
 obtain ⟨Y,EY⟩:∃ x,solY l = x:=⟨_,rfl⟩
 obtain ⟨T,ET⟩:∃ x,detN l = x:=⟨_,rfl⟩
 rw [EA,EB,EC,ED,EE] at NO
 rw [EC,ED,EB,EE,EX] at LX
 rw [EA,EE,EB,ED,EY] at LY
 rw [EA,EC] at q1
 rw [EB] at q2
 rw [EA,EB,EC,ET] at q3
 rw [ET,EX] at NX
 rw [ET,EY] at NY
 rw [ET] at E0 HDP
 have HX:=Lib.hid EX
 have HY:=Lib.hid EY
 have HT:=Lib.hid ET
 clear EA EB EC ED EE EX EY ET
 obtain ⟨cx,hcx⟩:∃ x,cenX l = x:=⟨_,rfl⟩
 obtain ⟨cy,hcy⟩:∃ x,cenY l = x:=⟨_,rfl⟩
 rw [hcx] at NX
 rw [hcy] at NY
 rw [hcx,hcy] at VP E0
 have HCX:=Lib.hid hcx
 have HCY:=Lib.hid hcy
 clear hcx hcy
 have PV:(pOk cx && pOk cy) = vldP cx cy:=by unfold pOk vldP; rw [Bool.eq_iff_iff]; simp only [Bool.and_eq_true,decide_eq_true_eq]; omega
 have PI:vldP cx cy = true→I64 cx∧I64 cy:=fun h=>by have:=vldP_iff.1 h; exact ⟨⟨by omega,by omega⟩,by omega,by omega⟩
 rw [PV] at E0
 clear PV
 unfold wv at LX LY NX NY
 have g:(T == 0) = true:=by rw [← HT.out]; simpa using hd
 clear NX NY VP E0 HDP PI HCX HCY HX HY HT hd
 have H0:=Lib.hid h
 obtain ⟨KZ,HB⟩:=ent1 w #[.int .i64 0,.int .u64 0,.int .i64 0,.int .u64 0,.int .i64 0,.int .i64 0,.int .i64 0] 114
 go_enter Tryz.func112,Tryz.ntmps112
 clear h
 go_wp2_with fail
 generalize w.alloc _ = w0 at *
 refine (NO.out _ (H0.out.below HB.out)).mono ?_
 rintro e1 w1 ⟨rfl,hb1⟩
 replace HB:=hT HB hb1
 replace KZ:=hK KZ hb1
 clear hb1
 go_wp2_with fail
 obtain ⟨KN,hb2⟩:=alB w1 #[.int .i64 A,.int .i64 B,.int .i64 C,.int .i64 D,.int .i64 E] 160
 have hnN:=HB.out.size
 have nzN_Z:=KZ.out.lt
 replace HB:=hT HB hb2
 replace KZ:=hK KZ hb2
 clear hb2
 generalize w1.alloc _ = w2 at *
 generalize w1.heap.size = bN at *
 have neN_Z:bN≠w.heap.size:=by omega
 clear nzN_Z
 have BD:=Lib.hid (show Below w2.heap.size w2 w2.drew from ⟨rfl,rfl,rfl,Nat.le_refl _,fun _ _=>rfl⟩)
 have BD2:=Lib.hid (below_drew_alloc w2 (.cells #[.int .i64 0,.int .u64 0,.int .i64 0,.int .u64 0,.int .i64 0,.int .i64 0,.int .i64 0] 114))
 have DLX:=Lib.hid fun W (h:Below w2.heap.size w2 W)=>(LX.out W).mono fun e w' ⟨h1,h2⟩=>show _∧Below w2.heap.size w2 w'∧Below W.heap.size W w' from ⟨h1,h.trans (h2.mono h.size),h2⟩
 have DLY:=Lib.hid fun W (h:Below w2.heap.size w2 W)=>(LY.out W).mono fun e w' ⟨h1,h2⟩=>show _∧Below w2.heap.size w2 w'∧Below W.heap.size W w' from ⟨h1,h.trans (h2.mono h.size),h2⟩
 obtain ⟨yN0,yN1,yN2,yN3,yN4,yNz⟩:=blk5 KN
 apply wp_join (R:=fun b w'=>w.heap.size≤b∧b≠w.heap.size∧b≠bN∧Hid (Below w.heap.size w w')∧Hid (Blk [.int .i64 (hiW X),.int .u64 (loW X),.int .i64 (hiW Y),.int .u64 (loW Y),.int .i64 T,.int .i64 0,.int .i64 0] b w')∧Hid (Blk [.int .i64 0,.int .u64 0,.int .i64 0,.int .u64 0,.int .i64 0,.int .i64 0,.int .i64 0] w.heap.size w')∧Hid (Blk [.int .i64 A,.int .i64 B,.int .i64 C,.int .i64 D,.int .i64 E] bN w'))
 ·go_region_held3 (fun w'=>w'.cell? ⟨bN,0,none⟩ = some (.int .i64 A)∧w'.cell? ⟨bN,1,none⟩ = some (.int .i64 B)∧w'.cell? ⟨bN,2,none⟩ = some (.int .i64 C)∧w'.cell? ⟨bN,3,none⟩ = some (.int .i64 D)∧w'.cell? ⟨bN,4,none⟩ = some (.int .i64 E)) (first | (refine ⟨?_,?_,?_,?_,?_⟩ <;> first | with_reducible assumption | (rw [far7 KV.out.1 yNz]; with_reducible assumption)) | go_keep)
   (first
    | (go_at_call 156; with_reducible refine Calls.mono (DLX.out _ (by first | with_reducible exact BD.out | with_reducible exact BD2.out | with_reducible exact HX.out | with_reducible exact HX.out.alloc HX.out.size _)) ?_; rintro e9 w9 ⟨rfl,hb9,hc9⟩; have pN:=KN.out.below hb9; have qN0:=pN.c 0 _ rfl; have qN1:=pN.c 1 _ rfl; have qN2:=pN.c 2 _ rfl; have qN3:=pN.c 3 _ rfl; have qN4:=pN.c 4 _ rfl; clear pN; (first | (with_reducible have KV:=Lib.hid (kv_drew (vs:=#[.int .i64 0,.int .u64 0,.int .i64 0,.int .u64 0,.int .i64 0,.int .i64 0,.int .i64 0]) (t:=114) hc9); have pV:=KV.out.2; have v0:=pV.c 0 _ rfl; have vf0:=pV.f 0 _ rfl; have v1:=pV.c 1 _ rfl; have vf1:=pV.f 1 _ rfl; have v2:=pV.c 2 _ rfl; have vf2:=pV.f 2 _ rfl; have v3:=pV.c 3 _ rfl; have vf3:=pV.f 3 _ rfl; have v4:=pV.c 4 _ rfl; have vf4:=pV.f 4 _ rfl; have v5:=pV.c 5 _ rfl; have vf5:=pV.f 5 _ rfl; have v6:=pV.c 6 _ rfl; have vf6:=pV.f 6 _ rfl; have v9:=pV.lt; clear pV) | (with_reducible have KV:=Lib.hid (kv_new (vs:=#[.int .i64 0,.int .u64 0,.int .i64 0,.int .u64 0,.int .i64 0,.int .i64 0,.int .i64 0]) (t:=114) HX.out hc9); have pV:=KV.out.2; have v0:=pV.c 0 _ rfl; have vf0:=pV.f 0 _ rfl; have v1:=pV.c 1 _ rfl; have vf1:=pV.f 1 _ rfl; have v2:=pV.c 2 _ rfl; have vf2:=pV.f 2 _ rfl; have v3:=pV.c 3 _ rfl; have vf3:=pV.f 3 _ rfl; have v4:=pV.c 4 _ rfl; have vf4:=pV.f 4 _ rfl; have v5:=pV.c 5 _ rfl; have vf5:=pV.f 5 _ rfl; have v6:=pV.c 6 _ rfl; have vf6:=pV.f 6 _ rfl; have v9:=pV.lt; clear pV) | (with_reducible have KV:=Lib.hid (kv_old KV.out hc9); have pV:=KV.out.2; have v0:=pV.c 0 _ rfl; have vf0:=pV.f 0 _ rfl; have v1:=pV.c 1 _ rfl; have vf1:=pV.f 1 _ rfl; have v2:=pV.c 2 _ rfl; have vf2:=pV.f 2 _ rfl; have v3:=pV.c 3 _ rfl; have vf3:=pV.f 3 _ rfl; have v4:=pV.c 4 _ rfl; have vf4:=pV.f 4 _ rfl; have v5:=pV.c 5 _ rfl; have vf5:=pV.f 5 _ rfl; have v6:=pV.c 6 _ rfl; have vf6:=pV.f 6 _ rfl; have v9:=pV.lt; clear pV) | skip); have HX:=Lib.hid hb9; clear hb9 hc9)
    | (go_at_call 156; with_reducible refine Calls.mono (DLY.out _ (by first | with_reducible exact BD.out | with_reducible exact BD2.out | with_reducible exact HX.out | with_reducible exact HX.out.alloc HX.out.size _)) ?_; rintro e9 w9 ⟨rfl,hb9,hc9⟩; have pN:=KN.out.below hb9; have qN0:=pN.c 0 _ rfl; have qN1:=pN.c 1 _ rfl; have qN2:=pN.c 2 _ rfl; have qN3:=pN.c 3 _ rfl; have qN4:=pN.c 4 _ rfl; clear pN; (first | (with_reducible have KV:=Lib.hid (kv_drew (vs:=#[.int .i64 0,.int .u64 0,.int .i64 0,.int .u64 0,.int .i64 0,.int .i64 0,.int .i64 0]) (t:=114) hc9); have pV:=KV.out.2; have v0:=pV.c 0 _ rfl; have vf0:=pV.f 0 _ rfl; have v1:=pV.c 1 _ rfl; have vf1:=pV.f 1 _ rfl; have v2:=pV.c 2 _ rfl; have vf2:=pV.f 2 _ rfl; have v3:=pV.c 3 _ rfl; have vf3:=pV.f 3 _ rfl; have v4:=pV.c 4 _ rfl; have vf4:=pV.f 4 _ rfl; have v5:=pV.c 5 _ rfl; have vf5:=pV.f 5 _ rfl; have v6:=pV.c 6 _ rfl; have vf6:=pV.f 6 _ rfl; have v9:=pV.lt; clear pV) | (with_reducible have KV:=Lib.hid (kv_new (vs:=#[.int .i64 0,.int .u64 0,.int .i64 0,.int .u64 0,.int .i64 0,.int .i64 0,.int .i64 0]) (t:=114) HX.out hc9); have pV:=KV.out.2; have v0:=pV.c 0 _ rfl; have vf0:=pV.f 0 _ rfl; have v1:=pV.c 1 _ rfl; have vf1:=pV.f 1 _ rfl; have v2:=pV.c 2 _ rfl; have vf2:=pV.f 2 _ rfl; have v3:=pV.c 3 _ rfl; have vf3:=pV.f 3 _ rfl; have v4:=pV.c 4 _ rfl; have vf4:=pV.f 4 _ rfl; have v5:=pV.c 5 _ rfl; have vf5:=pV.f 5 _ rfl; have v6:=pV.c 6 _ rfl; have vf6:=pV.f 6 _ rfl; have v9:=pV.lt; clear pV) | (with_reducible have KV:=Lib.hid (kv_old KV.out hc9); have pV:=KV.out.2; have v0:=pV.c 0 _ rfl; have vf0:=pV.f 0 _ rfl; have v1:=pV.c 1 _ rfl; have vf1:=pV.f 1 _ rfl; have v2:=pV.c 2 _ rfl; have vf2:=pV.f 2 _ rfl; have v3:=pV.c 3 _ rfl; have vf3:=pV.f 3 _ rfl; have v4:=pV.c 4 _ rfl; have vf4:=pV.f 4 _ rfl; have v5:=pV.c 5 _ rfl; have vf5:=pV.f 5 _ rfl; have v6:=pV.c 6 _ rfl; have vf6:=pV.f 6 _ rfl; have v9:=pV.lt; clear pV) | skip); have HX:=Lib.hid hb9; clear hb9 hc9))
  all_goals
   first
    | (have FN:=kv_set7 (.int .i64 (hiW X)) (.int .u64 (loW X)) (.int .i64 (hiW Y)) (.int .u64 (loW Y)) (.int .i64 T) (.int .i64 0) (.int .i64 0) KV.out HX.out; have FB:=Lib.hid FN.1; have KS:=Lib.hid FN.2.1; have n0S:=FN.2.2; clear FN; generalize World.setCell (World.setCell (World.setCell (World.setCell (World.setCell (World.setCell (World.setCell _ _ (.int .i64 (hiW X))) _ (.int .u64 (loW X))) _ (.int .i64 (hiW Y))) _ (.int .u64 (loW Y))) _ (.int .i64 T)) _ (.int .i64 0)) _ (.int .i64 0) = w3 at *)
    | (have FN:=kv_putn (vs:=#[.int .i64 (hiW X),.int .u64 (loW X),.int .i64 (hiW Y),.int .u64 (loW Y),.int .i64 T,.int .i64 0,.int .i64 0]) (t:=114) HX.out; have FB:=Lib.hid FN.1; have KS:=Lib.hid FN.2.1; have n0S:=FN.2.2; clear FN; generalize (World.alloc _ (.cells #[.int .i64 (hiW X),.int .u64 (loW X),.int .i64 (hiW Y),.int .u64 (loW Y),.int .i64 T,.int .i64 0,.int .i64 0] 114)) = w3 at *)
   have nS:=Nat.le_trans HB.out.size n0S
   have neS_Z:=Nat.ne_of_gt (Nat.lt_of_lt_of_le KZ.out.lt n0S)
   have neS_N:=Nat.ne_of_gt (Nat.lt_of_lt_of_le KN.out.lt n0S)
   replace HB:=Lib.hid (HB.out.trans (FB.out.mono HB.out.size))
   replace KZ:=Lib.hid (KZ.out.below FB.out)
   replace KN:=Lib.hid (KN.out.below FB.out)
   obtain ⟨bS,hbS⟩:=ex_blk KS
   rw [← hbS] at KS nS neS_Z neS_N ⊢
   refine OnlyN.mk ⟨bS,rfl,?_⟩
   with_reducible exact ⟨nS,neS_Z,neS_N,HB,KS,KZ,KN⟩
 clear BD BD2 DLX DLY yN0 yN1 yN2 yN3 yN4 yNz
 rintro bS w3 ⟨nS,neS_Z,neS_N,HB2,KS,KZ2,KN2⟩
 replace HB:=HB2
 clear HB2
 replace KZ:=KZ2
 clear KZ2
 replace KN:=KN2
 clear KN2
 clear LX LY NO q1 q2 q3
 obtain ⟨yZ0,yZ1,yZ2,yZ3,yZ4,yZ5,yZ6,yZz,yZf0,yZf1,yZf2,yZf3,yZf4,yZf5,yZf6⟩:=blf7 KZ
 obtain ⟨yS0,yS1,yS2,yS3,yS4,yS5,yS6,ySz⟩:=blk7 KS
 go_wp2
 replace KZ:=kst (kst (kst (kst (kst (kst (kst KZ 0 (.int .i64 0)) 1 (.int .u64 0)) 2 (.int .i64 0)) 3 (.int .u64 0)) 4 (.int .i64 0)) 5 (.int .i64 0)) 6 (.int .i64 0)
 refine ot2 (st7 w3 w.heap.size 0 (.int .i64 0) 1 (.int .u64 0) 2 (.int .i64 0) 3 (.int .u64 0) 4 (.int .i64 0) 5 (.int .i64 0) 6 (.int .i64 0)) HB KN KS (by omega) (by omega) (by omega) ?_
 clear HB KN KS
 intro HB KN KS
 clear yZ0 yZ1 yZ2 yZ3 yZ4 yZ5 yZ6 yZz yZf0 yZf1 yZf2 yZf3 yZf4 yZf5 yZf6 yS0 yS1 yS2 yS3 yS4 yS5 yS6 ySz
 generalize ((((((w3.setCell _ _).setCell _ _).setCell _ _).setCell _ _).setCell _ _).setCell _ _).setCell _ _ = w4 at *
 simp only [List.set] at KZ
 obtain ⟨yZ0,yZ1,yZ2,yZ3,yZ4,yZ5,yZ6,yZz⟩:=blk7 KZ
 refine bodyPost_ret (v:=.tuple #[.agg #[.int .i64 0,.int .u64 0,.int .i64 0,.int .u64 0,.int .i64 0,.int .i64 0,.int .i64 0],.int .i64 14]) (by simp [results,Tryz.results112,go_sem,yZ0,yZ1,yZ2,yZ3,yZ4,yZ5,yZ6]) rfl ⟨rfl,HB.out⟩
set_option maxHeartbeats 8000000
theorem rex_chk (l:List Ms) (v:Value) (w:World) (h:LstAt l v w) (hc:chkL l≠0) :
 Calls Tryz.prog 112 #[v] w fun e w'=>e = .returned (.tuple #[.agg #[.int .i64 0,.int .u64 0,.int .i64 0,.int .u64 0,.int .i64 0,.int .i64 0,.int .i64 0],.int .i64 (chkL l)])∧Below w.heap.size w w':=by
 obtain ⟨p,cap,rfl⟩:=lst_form h
 have NO:=Lib.hid fun w h=>rnormal_bad l (.slice p l.length cap) w h hc
 have g:(chkL l != 0) = true:=by simpa using hc
 have g':(chkL l == 0) = false:=by simpa using hc
 clear hc
 generalize chkL l = c at *
 have H0:=Lib.hid h
 obtain ⟨KZ,HB⟩:=ent1 w #[.int .i64 0,.int .u64 0,.int .i64 0,.int .u64 0,.int .i64 0,.int .i64 0,.int .i64 0] 114
 go_enter Tryz.func112,Tryz.ntmps112
 clear h
 go_wp2_with fail
 generalize w.alloc _ = w0 at *
 refine (NO.out _ (H0.out.below HB.out)).mono ?_
 rintro e1 w1 ⟨rfl,hb1⟩
 replace HB:=hT HB hb1
 replace KZ:=hK KZ hb1
 clear hb1
 obtain ⟨yZ0,yZ1,yZ2,yZ3,yZ4,yZ5,yZ6,yZz,yZf0,yZf1,yZf2,yZf3,yZf4,yZf5,yZf6⟩:=blf7 KZ
 go_wp2
 have hs:=st7 w1 w.heap.size 0 (.int .i64 0) 1 (.int .u64 0) 2 (.int .i64 0) 3 (.int .u64 0) 4 (.int .i64 0) 5 (.int .i64 0) 6 (.int .i64 0)
 replace KZ:=kst (kst (kst (kst (kst (kst (kst KZ 0 (.int .i64 0)) 1 (.int .u64 0)) 2 (.int .i64 0)) 3 (.int .u64 0)) 4 (.int .i64 0)) 5 (.int .i64 0)) 6 (.int .i64 0)
 replace HB:=oH hs HB (by omega)
 clear hs
 clear yZ0 yZ1 yZ2 yZ3 yZ4 yZ5 yZ6 yZz yZf0 yZf1 yZf2 yZf3 yZf4 yZf5 yZf6
 generalize ((((((w1.setCell _ _).setCell _ _).setCell _ _).setCell _ _).setCell _ _).setCell _ _).setCell _ _ = w2 at *
 simp only [List.set] at KZ
 obtain ⟨KN,hb3⟩:=alB w2 #[.int .i64 0,.int .i64 0,.int .i64 0,.int .i64 0,.int .i64 0] 160
 have hnN:=HB.out.size
 have nzN_Z:=KZ.out.lt
 replace HB:=hT HB hb3
 replace KZ:=hK KZ hb3
 clear hb3
 generalize w2.alloc _ = w3 at *
 generalize w2.heap.size = bN at *
 have neN_Z:bN≠w.heap.size:=by omega
 clear nzN_Z
 obtain ⟨yZ0,yZ1,yZ2,yZ3,yZ4,yZ5,yZ6,yZz⟩:=blk7 KZ
 refine bodyPost_ret (v:=.tuple #[.agg #[.int .i64 0,.int .u64 0,.int .i64 0,.int .u64 0,.int .i64 0,.int .i64 0,.int .i64 0],.int .i64 c]) (by simp [results,Tryz.results112,go_sem,yZ0,yZ1,yZ2,yZ3,yZ4,yZ5,yZ6]) rfl ⟨rfl,HB.out⟩
set_option maxHeartbeats 40000000
theorem rsol_bad0 (l:List Ms) (v:Value) (w:World) (h:LstAt l v w) (hc:chkL l = 0) (hd:detN l≠0) (hs:solE l≠0) :
 Calls Tryz.prog 111 #[v] w fun e w'=>e = .returned (.tuple #[.agg #[.int .i64 0,.int .u64 0,.int .i64 0,.int .u64 0,.int .i64 0,.int .i64 0,.int .i64 0],.int .i64 (solE l)])∧Below w.heap.size w w':=by
 obtain ⟨p,cap,rfl⟩:=lst_form h
 have OL:=Lib.hid (okL_of hc)
 obtain ⟨⟨a0,a1⟩,⟨b0,b1⟩,⟨c0,c1⟩,⟨d0,d1⟩,⟨e0,e1⟩⟩:=nrm_bd OL.out
 obtain ⟨⟨dt0,dt1⟩,⟨sx0,sx1⟩,⟨sy0,sy1⟩⟩:=sol_bd (nrm_bd OL.out)
 have NO:=Lib.hid fun w h=>rnormal_any l (.slice p l.length cap) w h hc
 have P1:=mulb (X:=16777216) (Y:=16777216) (by omega) a0 a1 c0 c1
 have P2:=mulb (X:=16777216) (Y:=16777216) (by omega) b0 b1 b0 b1
 have LX:=Lib.hid fun w=>rminor_any (nYY l) (nXZ l) (nXY l) (nYZ l) w ⟨by omega,by omega⟩ ⟨by omega,by omega⟩ ⟨by omega,by omega⟩ ⟨by omega,by omega⟩ (show FitW (solX l) from ⟨by omega,by omega⟩)
 have LY:=Lib.hid fun w=>rminor_any (nXX l) (nYZ l) (nXY l) (nXZ l) w ⟨by omega,by omega⟩ ⟨by omega,by omega⟩ ⟨by omega,by omega⟩ ⟨by omega,by omega⟩ (show FitW (solY l) from ⟨by omega,by omega⟩)
 have q1:IntKind.i64.wrap (nXX l * nYY l) = nXX l * nYY l:=IntWalk.i64_in _ (by omega)
 have q2:IntKind.i64.wrap (nXY l * nXY l) = nXY l * nXY l:=IntWalk.i64_in _ (by omega)
 have q3:IntKind.i64.wrap (nXX l * nYY l - nXY l * nXY l) = detN l:=IntWalk.i64_in _ (by unfold detN at dt0 dt1; omega)
 have HX:Hid (solX l = nYY l * nXZ l - nXY l * nYZ l):=Lib.hid rfl
 have HY:Hid (solY l = nXX l * nYZ l - nXY l * nXZ l):=Lib.hid rfl
 rw [← HX.out] at LX
 rw [← HY.out] at LY
 have NX:=Lib.hid fun (hd:0 < detN l) w=>rnearest_any (solX l) (detN l) w (by omega) (by omega) hd (by omega)
 have NY:=Lib.hid fun (hd:0 < detN l) w=>rnearest_any (solY l) (detN l) w (by omega) (by omega) hd (by omega)
 have VP:=Lib.hid fun w=>rvldP_any (cenX l) (cenY l) w
 have E0:solE l = if detN l = 0 then 14 else if (pOk (cenX l) && pOk (cenY l)) = true then 0 else 2:=by unfold solE; rw [if_pos hc]
 have HDP:detN l≠0→0 < detN l:=fun q=>by have:=det_nonneg l (chk_w hc); omega
 rw [show nearI2 (solX l) (detN l) = cenX l from rfl] at NX
 rw [show nearI2 (solY l) (detN l) = cenY l from rfl] at NY
 have EX0:=Lib.hid fun hd w h=>rex_ok l (.slice p l.length cap) w h hc hd
 clear NO LX LY q1 q2 q3 hc a0 a1 b0 b1 c0 c1 d0 d1 e0 e1 dt0 dt1 sx0 sx1 sy0 sy1 P1 P2 HX HY
 obtain ⟨A,EA⟩:∃ x,nXX l = x:=⟨_,rfl⟩
 obtain ⟨B,EB⟩:∃ x,nXY l = x:=⟨_,rfl⟩
 obtain ⟨C,EC⟩:∃ x,nYY l = x:=⟨_,rfl⟩
 obtain ⟨D,ED⟩:∃ x,nXZ l = x:=⟨_,rfl⟩
 obtain ⟨E,EE⟩:∃ x,nYZ l = x:=⟨_,rfl⟩
 obtain ⟨X,EX⟩:∃ x,solX l = x:=⟨_,rfl⟩
 obtain ⟨Y,EY⟩:∃ x,solY l = x:=⟨_,rfl⟩
 obtain ⟨T,ET⟩:∃ x,detN l = x:=⟨_,rfl⟩
 rw [ET,EX] at NX
 rw [ET,EY] at NY
 rw [ET] at E0 HDP
 rw [EX,EY,ET] at EX0
 have HX:=Lib.hid EX
 have HY:=Lib.hid EY
 have HT:=Lib.hid ET
 clear EA EB EC ED EE EX EY ET
 obtain ⟨cx,hcx⟩:∃ x,cenX l = x:=⟨_,rfl⟩
 obtain ⟨cy,hcy⟩:∃ x,cenY l = x:=⟨_,rfl⟩
 rw [hcx] at NX
 rw [hcy] at NY
 rw [hcx,hcy] at VP E0
 have HCX:=Lib.hid hcx
 have HCY:=Lib.hid hcy
 clear hcx hcy
 have PV:(pOk cx && pOk cy) = vldP cx cy:=by unfold pOk vldP; rw [Bool.eq_iff_iff]; simp only [Bool.and_eq_true,decide_eq_true_eq]; omega
 have PI:vldP cx cy = true→I64 cx∧I64 cy:=fun h=>by have:=vldP_iff.1 h; exact ⟨⟨by omega,by omega⟩,by omega,by omega⟩
 rw [PV] at E0
 clear PV
 unfold wv at NX NY
 obtain ⟨ee,hee⟩:∃ x,solE l = x:=⟨_,rfl⟩
 have ht:T≠0:=by rw [← HT.out]; exact hd
 have HS:=Lib.hid hee
 rw [hee] at E0 hs
 clear hee HCX HCY HX HY HT hd
 rw [HS.out]
 clear HS
 have EX:=Lib.hid (EX0.out ht)
 have g:(T == 0) = false:=by simpa using ht
 have NX:=Lib.hid (NX.out (HDP ht))
 have NY:=Lib.hid (NY.out (HDP ht))
 have E1:=E0.trans (if_neg ht)
 have hv:vldP cx cy = false:=by
  cases hv:vldP cx cy with
  | false=>rfl
  | true=>rw [hv,if_pos rfl] at E1; exact absurd E1 hs
 rw [hv] at E1 VP
 have HE:Hid (ee = 2):=Lib.hid E1
 clear E0 E1 HDP ht hs PI hv EX0
 have H0:=Lib.hid h
 obtain ⟨KZ,HB⟩:=ent1 w #[.int .i64 0,.int .u64 0,.int .i64 0,.int .u64 0,.int .i64 0,.int .i64 0,.int .i64 0] 114
 go_enter Tryz.func111,Tryz.ntmps111
 clear h
 go_wp2_with fail
 generalize w.alloc _ = w0 at *
 refine (EX.out _ (H0.out.below HB.out)).mono ?_
 rintro e1 w1 ⟨rfl,hb1⟩
 replace HB:=hT HB hb1
 replace KZ:=hK KZ hb1
 clear hb1
 go_wp2_with fail
 obtain ⟨KS,hb2⟩:=alB w1 #[.int .i64 (hiW X),.int .u64 (loW X),.int .i64 (hiW Y),.int .u64 (loW Y),.int .i64 T,.int .i64 0,.int .i64 0] 114
 have hnS:=HB.out.size
 have nzS_Z:=KZ.out.lt
 replace HB:=hT HB hb2
 replace KZ:=hK KZ hb2
 clear hb2
 generalize w1.alloc _ = w2 at *
 generalize w1.heap.size = bS at *
 have neS_Z:bS≠w.heap.size:=by omega
 clear nzS_Z
 by_cases ix:I64 cx
 ·rw [if_pos ix,decide_eq_true ix] at NX
  by_cases iy:I64 cy
  ·rw [if_pos iy,decide_eq_true iy] at NY
   clear ix iy
   obtain ⟨yZ0,yZ1,yZ2,yZ3,yZ4,yZ5,yZ6,yZz,yZf0,yZf1,yZf2,yZf3,yZf4,yZf5,yZf6⟩:=blf7 KZ
   obtain ⟨yS0,yS1,yS2,yS3,yS4,yS5,yS6,ySz,ySf0,ySf1,ySf2,ySf3,ySf4,ySf5,ySf6⟩:=blf7 KS
   go_wp2_with fail
   refine (NX.out _).mono ?_
   rintro e3 w3 ⟨rfl,hb3⟩
   refine up2 hb3 HB KZ KS ?_
   clear hb3 yZ0 yZ1 yZ2 yZ3 yZ4 yZ5 yZ6 yZz yZf0 yZf1 yZf2 yZf3 yZf4 yZf5 yZf6 yS0 yS1 yS2 yS3 yS4 yS5 yS6 ySz ySf0 ySf1 ySf2 ySf3 ySf4 ySf5 ySf6 HB KZ KS
   intro HB KZ KS
   obtain ⟨yS0,yS1,yS2,yS3,yS4,yS5,yS6,ySz,ySf0,ySf1,ySf2,ySf3,ySf4,ySf5,ySf6⟩:=blf7 KS
   go_wp2_with fail
   refine (NY.out _).mono ?_
   rintro e4 w4 ⟨rfl,hb4⟩
   refine up2 hb4 HB KZ KS ?_
   clear hb4 yS0 yS1 yS2 yS3 yS4 yS5 yS6 ySz ySf0 ySf1 ySf2 ySf3 ySf4 ySf5 ySf6 HB KZ KS
   intro HB KZ KS
   obtain ⟨yZ0,yZ1,yZ2,yZ3,yZ4,yZ5,yZ6,yZz,yZf0,yZf1,yZf2,yZf3,yZf4,yZf5,yZf6⟩:=blf7 KZ
   obtain ⟨yS0,yS1,yS2,yS3,yS4,yS5,yS6,ySz,ySf0,ySf1,ySf2,ySf3,ySf4,ySf5,ySf6⟩:=blf7 KS
   go_wp2_with fail
   replace KS:=kst (kst KS 5 (.int .i64 cx)) 6 (.int .i64 cy)
   refine ot1 (st2 w4 bS 5 (.int .i64 cx) 6 (.int .i64 cy)) HB KZ (by omega) (by omega) ?_
   clear HB KZ
   intro HB KZ
   clear yZ0 yZ1 yZ2 yZ3 yZ4 yZ5 yZ6 yZz yZf0 yZf1 yZf2 yZf3 yZf4 yZf5 yZf6 yS0 yS1 yS2 yS3 yS4 yS5 yS6 ySz ySf0 ySf1 ySf2 ySf3 ySf4 ySf5 ySf6
   generalize (w4.setCell _ _).setCell _ _ = w5 at *
   simp only [List.set] at KS
   refine (VP.out _).mono ?_
   rintro e6 w6 ⟨rfl,hb6⟩
   refine up2 hb6 HB KZ KS ?_
   clear hb6 HB KZ KS
   intro HB KZ KS
   obtain ⟨yZ0,yZ1,yZ2,yZ3,yZ4,yZ5,yZ6,yZz,yZf0,yZf1,yZf2,yZf3,yZf4,yZf5,yZf6⟩:=blf7 KZ
   obtain ⟨yS0,yS1,yS2,yS3,yS4,yS5,yS6,ySz,ySf0,ySf1,ySf2,ySf3,ySf4,ySf5,ySf6⟩:=blf7 KS
   go_wp2
   replace KZ:=kst (kst (kst (kst (kst (kst (kst KZ 0 (.int .i64 0)) 1 (.int .u64 0)) 2 (.int .i64 0)) 3 (.int .u64 0)) 4 (.int .i64 0)) 5 (.int .i64 0)) 6 (.int .i64 0)
   refine ot1 (st7 w6 w.heap.size 0 (.int .i64 0) 1 (.int .u64 0) 2 (.int .i64 0) 3 (.int .u64 0) 4 (.int .i64 0) 5 (.int .i64 0) 6 (.int .i64 0)) HB KS (by omega) (by omega) ?_
   clear HB KS
   intro HB KS
   clear yZ0 yZ1 yZ2 yZ3 yZ4 yZ5 yZ6 yZz yZf0 yZf1 yZf2 yZf3 yZf4 yZf5 yZf6 yS0 yS1 yS2 yS3 yS4 yS5 yS6 ySz ySf0 ySf1 ySf2 ySf3 ySf4 ySf5 ySf6
   generalize ((((((w6.setCell _ _).setCell _ _).setCell _ _).setCell _ _).setCell _ _).setCell _ _).setCell _ _ = w7 at *
   simp only [List.set] at KZ
   obtain ⟨yZ0,yZ1,yZ2,yZ3,yZ4,yZ5,yZ6,yZz⟩:=blk7 KZ
   refine bodyPost_ret (v:=.tuple #[.agg #[.int .i64 0,.int .u64 0,.int .i64 0,.int .u64 0,.int .i64 0,.int .i64 0,.int .i64 0],.int .i64 2]) (by simp [results,Tryz.results111,go_sem,yZ0,yZ1,yZ2,yZ3,yZ4,yZ5,yZ6]) rfl ⟨by rw [HE.out],HB.out⟩
  ·rw [if_neg iy,decide_eq_false iy] at NY
   clear ix iy
   obtain ⟨yZ0,yZ1,yZ2,yZ3,yZ4,yZ5,yZ6,yZz,yZf0,yZf1,yZf2,yZf3,yZf4,yZf5,yZf6⟩:=blf7 KZ
   obtain ⟨yS0,yS1,yS2,yS3,yS4,yS5,yS6,ySz,ySf0,ySf1,ySf2,ySf3,ySf4,ySf5,ySf6⟩:=blf7 KS
   go_wp2_with fail
   refine (NX.out _).mono ?_
   rintro e3 w3 ⟨rfl,hb3⟩
   refine up2 hb3 HB KZ KS ?_
   clear hb3 yZ0 yZ1 yZ2 yZ3 yZ4 yZ5 yZ6 yZz yZf0 yZf1 yZf2 yZf3 yZf4 yZf5 yZf6 yS0 yS1 yS2 yS3 yS4 yS5 yS6 ySz ySf0 ySf1 ySf2 ySf3 ySf4 ySf5 ySf6 HB KZ KS
   intro HB KZ KS
   obtain ⟨yS0,yS1,yS2,yS3,yS4,yS5,yS6,ySz,ySf0,ySf1,ySf2,ySf3,ySf4,ySf5,ySf6⟩:=blf7 KS
   go_wp2_with fail
   refine (NY.out _).mono ?_
   rintro e4 w4 ⟨rfl,hb4⟩
   refine up2 hb4 HB KZ KS ?_
   clear hb4 yS0 yS1 yS2 yS3 yS4 yS5 yS6 ySz ySf0 ySf1 ySf2 ySf3 ySf4 ySf5 ySf6 HB KZ KS
   intro HB KZ KS
   obtain ⟨yZ0,yZ1,yZ2,yZ3,yZ4,yZ5,yZ6,yZz,yZf0,yZf1,yZf2,yZf3,yZf4,yZf5,yZf6⟩:=blf7 KZ
   obtain ⟨yS0,yS1,yS2,yS3,yS4,yS5,yS6,ySz,ySf0,ySf1,ySf2,ySf3,ySf4,ySf5,ySf6⟩:=blf7 KS
   go_wp2
   replace KS:=kst (kst KS 5 (.int .i64 cx)) 6 (.int .i64 0)
   refine ot1 (st2 w4 bS 5 (.int .i64 cx) 6 (.int .i64 0)) HB KZ (by omega) (by omega) ?_
   clear HB KZ
   intro HB KZ
   clear yZ0 yZ1 yZ2 yZ3 yZ4 yZ5 yZ6 yZz yZf0 yZf1 yZf2 yZf3 yZf4 yZf5 yZf6 yS0 yS1 yS2 yS3 yS4 yS5 yS6 ySz ySf0 ySf1 ySf2 ySf3 ySf4 ySf5 ySf6
   generalize (w4.setCell _ _).setCell _ _ = w5 at *
   simp only [List.set] at KS
   replace KZ:=kst (kst (kst (kst (kst (kst (kst KZ 0 (.int .i64 0)) 1 (.int .u64 0)) 2 (.int .i64 0)) 3 (.int .u64 0)) 4 (.int .i64 0)) 5 (.int .i64 0)) 6 (.int .i64 0)
   refine ot1 (st7 w5 w.heap.size 0 (.int .i64 0) 1 (.int .u64 0) 2 (.int .i64 0) 3 (.int .u64 0) 4 (.int .i64 0) 5 (.int .i64 0) 6 (.int .i64 0)) HB KS (by omega) (by omega) ?_
   clear HB KS
   intro HB KS
   generalize ((((((w5.setCell _ _).setCell _ _).setCell _ _).setCell _ _).setCell _ _).setCell _ _).setCell _ _ = w6 at *
   simp only [List.set] at KZ
   obtain ⟨yZ0,yZ1,yZ2,yZ3,yZ4,yZ5,yZ6,yZz⟩:=blk7 KZ
   refine bodyPost_ret (v:=.tuple #[.agg #[.int .i64 0,.int .u64 0,.int .i64 0,.int .u64 0,.int .i64 0,.int .i64 0,.int .i64 0],.int .i64 2]) (by simp [results,Tryz.results111,go_sem,yZ0,yZ1,yZ2,yZ3,yZ4,yZ5,yZ6]) rfl ⟨by rw [HE.out],HB.out⟩
 ·rw [if_neg ix,decide_eq_false ix] at NX
  obtain ⟨oy,hoy⟩:∃ b,decide (I64 cy) = b:=⟨_,rfl⟩
  obtain ⟨uy,huy⟩:∃ b,(if I64 cy then cy else 0) = b:=⟨_,rfl⟩
  rw [hoy,huy] at NY
  clear ix hoy huy
  obtain ⟨yZ0,yZ1,yZ2,yZ3,yZ4,yZ5,yZ6,yZz,yZf0,yZf1,yZf2,yZf3,yZf4,yZf5,yZf6⟩:=blf7 KZ
  obtain ⟨yS0,yS1,yS2,yS3,yS4,yS5,yS6,ySz,ySf0,ySf1,ySf2,ySf3,ySf4,ySf5,ySf6⟩:=blf7 KS
  go_wp2_with fail
  refine (NX.out _).mono ?_
  rintro e3 w3 ⟨rfl,hb3⟩
  refine up2 hb3 HB KZ KS ?_
  clear hb3 yZ0 yZ1 yZ2 yZ3 yZ4 yZ5 yZ6 yZz yZf0 yZf1 yZf2 yZf3 yZf4 yZf5 yZf6 yS0 yS1 yS2 yS3 yS4 yS5 yS6 ySz ySf0 ySf1 ySf2 ySf3 ySf4 ySf5 ySf6 HB KZ KS
  intro HB KZ KS
  obtain ⟨yS0,yS1,yS2,yS3,yS4,yS5,yS6,ySz,ySf0,ySf1,ySf2,ySf3,ySf4,ySf5,ySf6⟩:=blf7 KS
  go_wp2_with fail
  refine (NY.out _).mono ?_
  rintro e4 w4 ⟨rfl,hb4⟩
  refine up2 hb4 HB KZ KS ?_
  clear hb4 yS0 yS1 yS2 yS3 yS4 yS5 yS6 ySz ySf0 ySf1 ySf2 ySf3 ySf4 ySf5 ySf6 HB KZ KS
  intro HB KZ KS
  obtain ⟨yZ0,yZ1,yZ2,yZ3,yZ4,yZ5,yZ6,yZz,yZf0,yZf1,yZf2,yZf3,yZf4,yZf5,yZf6⟩:=blf7 KZ
  obtain ⟨yS0,yS1,yS2,yS3,yS4,yS5,yS6,ySz,ySf0,ySf1,ySf2,ySf3,ySf4,ySf5,ySf6⟩:=blf7 KS
  go_wp2
  replace KS:=kst (kst KS 5 (.int .i64 0)) 6 (.int .i64 uy)
  refine ot1 (st2 w4 bS 5 (.int .i64 0) 6 (.int .i64 uy)) HB KZ (by omega) (by omega) ?_
  clear HB KZ
  intro HB KZ
  clear yZ0 yZ1 yZ2 yZ3 yZ4 yZ5 yZ6 yZz yZf0 yZf1 yZf2 yZf3 yZf4 yZf5 yZf6 yS0 yS1 yS2 yS3 yS4 yS5 yS6 ySz ySf0 ySf1 ySf2 ySf3 ySf4 ySf5 ySf6
  generalize (w4.setCell _ _).setCell _ _ = w5 at *
  simp only [List.set] at KS
  replace KZ:=kst (kst (kst (kst (kst (kst (kst KZ 0 (.int .i64 0)) 1 (.int .u64 0)) 2 (.int .i64 0)) 3 (.int .u64 0)) 4 (.int .i64 0)) 5 (.int .i64 0)) 6 (.int .i64 0)
  refine ot1 (st7 w5 w.heap.size 0 (.int .i64 0) 1 (.int .u64 0) 2 (.int .i64 0) 3 (.int .u64 0) 4 (.int .i64 0) 5 (.int .i64 0) 6 (.int .i64 0)) HB KS (by omega) (by omega) ?_
  clear HB KS
  intro HB KS
  generalize ((((((w5.setCell _ _).setCell _ _).setCell _ _).setCell _ _).setCell _ _).setCell _ _).setCell _ _ = w6 at *
  simp only [List.set] at KZ
  obtain ⟨yZ0,yZ1,yZ2,yZ3,yZ4,yZ5,yZ6,yZz⟩:=blk7 KZ
  refine bodyPost_ret (v:=.tuple #[.agg #[.int .i64 0,.int .u64 0,.int .i64 0,.int .u64 0,.int .i64 0,.int .i64 0,.int .i64 0],.int .i64 2]) (by simp [results,Tryz.results111,go_sem,yZ0,yZ1,yZ2,yZ3,yZ4,yZ5,yZ6]) rfl ⟨by rw [HE.out],HB.out⟩
theorem rsol_ok (l:List Ms) (v:Value) (w:World) (h:LstAt l v w) (hs:solE l = 0) :
 Calls Tryz.prog 111 #[v] w fun e w'=>e = .returned (.tuple #[.agg #[.int .i64 (hiW (solX l)),.int .u64 (loW (solX l)),.int .i64 (hiW (solY l)),.int .u64 (loW (solY l)),.int .i64 (detN l),.int .i64 (cenX l),.int .i64 (cenY l)],.int .i64 0])∧Below w.heap.size w w':=by
 have hc:=(sol_chk hs).1
 obtain ⟨p,cap,rfl⟩:=lst_form h
 have OL:=Lib.hid (okL_of hc)
 obtain ⟨⟨a0,a1⟩,⟨b0,b1⟩,⟨c0,c1⟩,⟨d0,d1⟩,⟨e0,e1⟩⟩:=nrm_bd OL.out
 obtain ⟨⟨dt0,dt1⟩,⟨sx0,sx1⟩,⟨sy0,sy1⟩⟩:=sol_bd (nrm_bd OL.out)
 have NO:=Lib.hid fun w h=>rnormal_any l (.slice p l.length cap) w h hc
 have P1:=mulb (X:=16777216) (Y:=16777216) (by omega) a0 a1 c0 c1
 have P2:=mulb (X:=16777216) (Y:=16777216) (by omega) b0 b1 b0 b1
 have LX:=Lib.hid fun w=>rminor_any (nYY l) (nXZ l) (nXY l) (nYZ l) w ⟨by omega,by omega⟩ ⟨by omega,by omega⟩ ⟨by omega,by omega⟩ ⟨by omega,by omega⟩ (show FitW (solX l) from ⟨by omega,by omega⟩)
 have LY:=Lib.hid fun w=>rminor_any (nXX l) (nYZ l) (nXY l) (nXZ l) w ⟨by omega,by omega⟩ ⟨by omega,by omega⟩ ⟨by omega,by omega⟩ ⟨by omega,by omega⟩ (show FitW (solY l) from ⟨by omega,by omega⟩)
 have q1:IntKind.i64.wrap (nXX l * nYY l) = nXX l * nYY l:=IntWalk.i64_in _ (by omega)
 have q2:IntKind.i64.wrap (nXY l * nXY l) = nXY l * nXY l:=IntWalk.i64_in _ (by omega)
 have q3:IntKind.i64.wrap (nXX l * nYY l - nXY l * nXY l) = detN l:=IntWalk.i64_in _ (by unfold detN at dt0 dt1; omega)
 have HX:Hid (solX l = nYY l * nXZ l - nXY l * nYZ l):=Lib.hid rfl
 have HY:Hid (solY l = nXX l * nYZ l - nXY l * nXZ l):=Lib.hid rfl
 rw [← HX.out] at LX
 rw [← HY.out] at LY
 have NX:=Lib.hid fun (hd:0 < detN l) w=>rnearest_any (solX l) (detN l) w (by omega) (by omega) hd (by omega)
 have NY:=Lib.hid fun (hd:0 < detN l) w=>rnearest_any (solY l) (detN l) w (by omega) (by omega) hd (by omega)
 have VP:=Lib.hid fun w=>rvldP_any (cenX l) (cenY l) w
 have E0:solE l = if detN l = 0 then 14 else if (pOk (cenX l) && pOk (cenY l)) = true then 0 else 2:=by unfold solE; rw [if_pos hc]
 have HDP:detN l≠0→0 < detN l:=fun q=>by have:=det_nonneg l (chk_w hc); omega
 rw [show nearI2 (solX l) (detN l) = cenX l from rfl] at NX
 rw [show nearI2 (solY l) (detN l) = cenY l from rfl] at NY
 have EX0:=Lib.hid fun hd w h=>rex_ok l (.slice p l.length cap) w h hc hd
 clear NO LX LY q1 q2 q3 hc a0 a1 b0 b1 c0 c1 d0 d1 e0 e1 dt0 dt1 sx0 sx1 sy0 sy1 P1 P2 HX HY
 obtain ⟨A,EA⟩:∃ x,nXX l = x:=⟨_,rfl⟩
 obtain ⟨B,EB⟩:∃ x,nXY l = x:=⟨_,rfl⟩
 obtain ⟨C,EC⟩:∃ x,nYY l = x:=⟨_,rfl⟩
 obtain ⟨D,ED⟩:∃ x,nXZ l = x:=⟨_,rfl⟩
 obtain ⟨E,EE⟩:∃ x,nYZ l = x:=⟨_,rfl⟩
 obtain ⟨X,EX⟩:∃ x,solX l = x:=⟨_,rfl⟩
 obtain ⟨Y,EY⟩:∃ x,solY l = x:=⟨_,rfl⟩
 obtain ⟨T,ET⟩:∃ x,detN l = x:=⟨_,rfl⟩
 rw [ET,EX] at NX
 rw [ET,EY] at NY
 rw [ET] at E0 HDP
 rw [EX,EY,ET] at EX0
 have HX:=Lib.hid EX
 have HY:=Lib.hid EY
 have HT:=Lib.hid ET
 clear EA EB EC ED EE EX EY ET
 obtain ⟨cx,hcx⟩:∃ x,cenX l = x:=⟨_,rfl⟩
 obtain ⟨cy,hcy⟩:∃ x,cenY l = x:=⟨_,rfl⟩
 rw [hcx] at NX
 rw [hcy] at NY
 rw [hcx,hcy] at VP E0
 have HCX:=Lib.hid hcx
 have HCY:=Lib.hid hcy
 clear hcx hcy
 have PV:(pOk cx && pOk cy) = vldP cx cy:=by unfold pOk vldP; rw [Bool.eq_iff_iff]; simp only [Bool.and_eq_true,decide_eq_true_eq]; omega
 have PI:vldP cx cy = true→I64 cx∧I64 cy:=fun h=>by have:=vldP_iff.1 h; exact ⟨⟨by omega,by omega⟩,by omega,by omega⟩
 rw [PV] at E0
 clear PV
 unfold wv at NX NY
 rw [hs] at E0
 clear hs
 have ht:T≠0:=fun q=>by rw [if_pos q] at E0; cases E0
 have hv:vldP cx cy = true:=by
  rw [if_neg ht] at E0
  cases hv:vldP cx cy with
  | true=>rfl
  | false=>rw [hv,if_neg (by simp)] at E0; cases E0
 have EX:=Lib.hid (EX0.out ht)
 have NX:=Lib.hid (NX.out (HDP ht))
 have NY:=Lib.hid (NY.out (HDP ht))
 obtain ⟨ix,iy⟩:=PI hv
 rw [if_pos ix,decide_eq_true ix] at NX
 rw [if_pos iy,decide_eq_true iy] at NY
 rw [hv] at VP
 clear E0 HDP PI ht hv ix iy EX0
 have H0:=Lib.hid h
 obtain ⟨KZ,HB⟩:=ent1 w #[.int .i64 0,.int .u64 0,.int .i64 0,.int .u64 0,.int .i64 0,.int .i64 0,.int .i64 0] 114
 go_enter Tryz.func111,Tryz.ntmps111
 clear h
 go_wp2_with fail
 generalize w.alloc _ = w0 at *
 refine (EX.out _ (H0.out.below HB.out)).mono ?_
 rintro e1 w1 ⟨rfl,hb1⟩
 replace HB:=hT HB hb1
 replace KZ:=hK KZ hb1
 clear hb1
 go_wp2_with fail
 obtain ⟨KS,hb2⟩:=alB w1 #[.int .i64 (hiW X),.int .u64 (loW X),.int .i64 (hiW Y),.int .u64 (loW Y),.int .i64 T,.int .i64 0,.int .i64 0] 114
 have hnS:=HB.out.size
 have nzS_Z:=KZ.out.lt
 replace HB:=hT HB hb2
 replace KZ:=hK KZ hb2
 clear hb2
 generalize w1.alloc _ = w2 at *
 generalize w1.heap.size = bS at *
 have neS_Z:bS≠w.heap.size:=by omega
 clear nzS_Z
 obtain ⟨yZ0,yZ1,yZ2,yZ3,yZ4,yZ5,yZ6,yZz,yZf0,yZf1,yZf2,yZf3,yZf4,yZf5,yZf6⟩:=blf7 KZ
 obtain ⟨yS0,yS1,yS2,yS3,yS4,yS5,yS6,ySz,ySf0,ySf1,ySf2,ySf3,ySf4,ySf5,ySf6⟩:=blf7 KS
 go_wp2_with fail
 refine (NX.out _).mono ?_
 rintro e3 w3 ⟨rfl,hb3⟩
 refine up2 hb3 HB KZ KS ?_
 clear hb3 yZ0 yZ1 yZ2 yZ3 yZ4 yZ5 yZ6 yZz yZf0 yZf1 yZf2 yZf3 yZf4 yZf5 yZf6 yS0 yS1 yS2 yS3 yS4 yS5 yS6 ySz ySf0 ySf1 ySf2 ySf3 ySf4 ySf5 ySf6 HB KZ KS
 intro HB KZ KS
 obtain ⟨yS0,yS1,yS2,yS3,yS4,yS5,yS6,ySz,ySf0,ySf1,ySf2,ySf3,ySf4,ySf5,ySf6⟩:=blf7 KS
 go_wp2_with fail
 refine (NY.out _).mono ?_
 rintro e4 w4 ⟨rfl,hb4⟩
 refine up2 hb4 HB KZ KS ?_
 clear hb4 yS0 yS1 yS2 yS3 yS4 yS5 yS6 ySz ySf0 ySf1 ySf2 ySf3 ySf4 ySf5 ySf6 HB KZ KS
 intro HB KZ KS
 obtain ⟨yZ0,yZ1,yZ2,yZ3,yZ4,yZ5,yZ6,yZz,yZf0,yZf1,yZf2,yZf3,yZf4,yZf5,yZf6⟩:=blf7 KZ
 obtain ⟨yS0,yS1,yS2,yS3,yS4,yS5,yS6,ySz,ySf0,ySf1,ySf2,ySf3,ySf4,ySf5,ySf6⟩:=blf7 KS
 go_wp2_with fail
 replace KS:=kst (kst KS 5 (.int .i64 cx)) 6 (.int .i64 cy)
 refine ot1 (st2 w4 bS 5 (.int .i64 cx) 6 (.int .i64 cy)) HB KZ (by omega) (by omega) ?_
 clear HB KZ
 intro HB KZ
 clear yZ0 yZ1 yZ2 yZ3 yZ4 yZ5 yZ6 yZz yZf0 yZf1 yZf2 yZf3 yZf4 yZf5 yZf6 yS0 yS1 yS2 yS3 yS4 yS5 yS6 ySz ySf0 ySf1 ySf2 ySf3 ySf4 ySf5 ySf6
 generalize (w4.setCell _ _).setCell _ _ = w5 at *
 simp only [List.set] at KS
 refine (VP.out _).mono ?_
 rintro e6 w6 ⟨rfl,hb6⟩
 refine up2 hb6 HB KZ KS ?_
 clear hb6 HB KZ KS
 intro HB KZ KS
 obtain ⟨yZ0,yZ1,yZ2,yZ3,yZ4,yZ5,yZ6,yZz,yZf0,yZf1,yZf2,yZf3,yZf4,yZf5,yZf6⟩:=blf7 KZ
 obtain ⟨yS0,yS1,yS2,yS3,yS4,yS5,yS6,ySz,ySf0,ySf1,ySf2,ySf3,ySf4,ySf5,ySf6⟩:=blf7 KS
 go_wp2
 replace KZ:=kst (kst (kst (kst (kst (kst (kst KZ 0 (.int .i64 (hiW X))) 1 (.int .u64 (loW X))) 2 (.int .i64 (hiW Y))) 3 (.int .u64 (loW Y))) 4 (.int .i64 T)) 5 (.int .i64 cx)) 6 (.int .i64 cy)
 refine ot1 (st7 w6 w.heap.size 0 (.int .i64 (hiW X)) 1 (.int .u64 (loW X)) 2 (.int .i64 (hiW Y)) 3 (.int .u64 (loW Y)) 4 (.int .i64 T) 5 (.int .i64 cx) 6 (.int .i64 cy)) HB KS (by omega) (by omega) ?_
 clear HB KS
 intro HB KS
 clear yZ0 yZ1 yZ2 yZ3 yZ4 yZ5 yZ6 yZz yZf0 yZf1 yZf2 yZf3 yZf4 yZf5 yZf6 yS0 yS1 yS2 yS3 yS4 yS5 yS6 ySz ySf0 ySf1 ySf2 ySf3 ySf4 ySf5 ySf6
 generalize ((((((w6.setCell _ _).setCell _ _).setCell _ _).setCell _ _).setCell _ _).setCell _ _).setCell _ _ = w7 at *
 simp only [List.set] at KZ
 obtain ⟨yZ0,yZ1,yZ2,yZ3,yZ4,yZ5,yZ6,yZz⟩:=blk7 KZ
 refine bodyPost_ret (v:=.tuple #[.agg #[.int .i64 (hiW X),.int .u64 (loW X),.int .i64 (hiW Y),.int .u64 (loW Y),.int .i64 T,.int .i64 cx,.int .i64 cy],.int .i64 0]) (by simp [results,Tryz.results111,go_sem,yZ0,yZ1,yZ2,yZ3,yZ4,yZ5,yZ6]) rfl ⟨by rw [HX.out,HY.out,HT.out,HCX.out,HCY.out],HB.out⟩
set_option maxHeartbeats 8000000
theorem rsol_early (l:List Ms) (c:Int) (v:Value) (w:World) (h:LstAt l v w) (hc:c≠0) (NO:Hid (∀ v w,LstAt l v w→Calls Tryz.prog 112 #[v] w fun e w'=>e = .returned (.tuple #[.agg #[.int .i64 0,.int .u64 0,.int .i64 0,.int .u64 0,.int .i64 0,.int .i64 0,.int .i64 0],.int .i64 c])∧Below w.heap.size w w')) :
 Calls Tryz.prog 111 #[v] w fun e w'=>e = .returned (.tuple #[.agg #[.int .i64 0,.int .u64 0,.int .i64 0,.int .u64 0,.int .i64 0,.int .i64 0,.int .i64 0],.int .i64 c])∧Below w.heap.size w w':=by
 obtain ⟨p,cap,rfl⟩:=lst_form h
 have NO:=Lib.hid fun w h=>NO.out (.slice p l.length cap) w h
 have g:(c != 0) = true:=by simpa using hc
 have g':(c == 0) = false:=by simpa using hc
 clear hc
 have H0:=Lib.hid h
 obtain ⟨KZ,HB⟩:=ent1 w #[.int .i64 0,.int .u64 0,.int .i64 0,.int .u64 0,.int .i64 0,.int .i64 0,.int .i64 0] 114
 go_enter Tryz.func111,Tryz.ntmps111
 clear h
 go_wp2_with fail
 generalize w.alloc _ = w0 at *
 refine (NO.out _ (H0.out.below HB.out)).mono ?_
 rintro e1 w1 ⟨rfl,hb1⟩
 replace HB:=hT HB hb1
 replace KZ:=hK KZ hb1
 clear hb1
 obtain ⟨yZ0,yZ1,yZ2,yZ3,yZ4,yZ5,yZ6,yZz,yZf0,yZf1,yZf2,yZf3,yZf4,yZf5,yZf6⟩:=blf7 KZ
 go_wp2
 have hs:=st7 w1 w.heap.size 0 (.int .i64 0) 1 (.int .u64 0) 2 (.int .i64 0) 3 (.int .u64 0) 4 (.int .i64 0) 5 (.int .i64 0) 6 (.int .i64 0)
 replace KZ:=kst (kst (kst (kst (kst (kst (kst KZ 0 (.int .i64 0)) 1 (.int .u64 0)) 2 (.int .i64 0)) 3 (.int .u64 0)) 4 (.int .i64 0)) 5 (.int .i64 0)) 6 (.int .i64 0)
 replace HB:=oH hs HB (by omega)
 clear hs
 clear yZ0 yZ1 yZ2 yZ3 yZ4 yZ5 yZ6 yZz yZf0 yZf1 yZf2 yZf3 yZf4 yZf5 yZf6
 generalize ((((((w1.setCell _ _).setCell _ _).setCell _ _).setCell _ _).setCell _ _).setCell _ _).setCell _ _ = w2 at *
 simp only [List.set] at KZ
 obtain ⟨KN,hb3⟩:=alB w2 #[.int .i64 0,.int .u64 0,.int .i64 0,.int .u64 0,.int .i64 0,.int .i64 0,.int .i64 0] 114
 have hnN:=HB.out.size
 have nzN_Z:=KZ.out.lt
 replace HB:=hT HB hb3
 replace KZ:=hK KZ hb3
 clear hb3
 generalize w2.alloc _ = w3 at *
 generalize w2.heap.size = bN at *
 have neN_Z:bN≠w.heap.size:=by omega
 clear nzN_Z
 obtain ⟨yZ0,yZ1,yZ2,yZ3,yZ4,yZ5,yZ6,yZz⟩:=blk7 KZ
 refine bodyPost_ret (v:=.tuple #[.agg #[.int .i64 0,.int .u64 0,.int .i64 0,.int .u64 0,.int .i64 0,.int .i64 0,.int .i64 0],.int .i64 c]) (by simp [results,Tryz.results111,go_sem,yZ0,yZ1,yZ2,yZ3,yZ4,yZ5,yZ6]) rfl ⟨rfl,HB.out⟩
set_option maxHeartbeats 200000
set_option maxRecDepth 512
theorem rsol_bad (l:List Ms) (v:Value) (w:World) (h:LstAt l v w) (hs:solE l≠0) :
 Calls Tryz.prog 111 #[v] w fun e w'=>e = .returned (.tuple #[.agg #[.int .i64 0,.int .u64 0,.int .i64 0,.int .u64 0,.int .i64 0,.int .i64 0,.int .i64 0],.int .i64 (solE l)])∧Below w.heap.size w w':=by
 by_cases hc:chkL l = 0
 ·by_cases hd:detN l = 0
  ·have e:solE l = 14:=by unfold solE; rw [if_pos hc,if_pos hd]
   rw [e]
   exact rsol_early l 14 v w h (by omega) (Lib.hid fun v w h=>rex_rank l v w h hc hd)
  ·exact rsol_bad0 l v w h hc hd hs
 ·rw [chk_sol hc]
  exact rsol_early l _ v w h hc (Lib.hid fun v w h=>rex_chk l v w h hc)
end Go.Proofs.YtajmjkliblippaaGreatDoor
namespace Go.Proofs.YtajmjkliblippaaGreatDoor
open Go.RowKit
structure RRe (cx cy X Y NX NY D va vb:Int) (R:(Int × Int) × Int):Prop where
 ax:∀ w,Calls Tryz.prog 116 #[.int .i64 cx,wv X,.int .i64 D] w fun e w'=>e = .returned (wv va)∧Below w.heap.size w w'
 ay:∀ w,Calls Tryz.prog 116 #[.int .i64 cy,wv Y,.int .i64 D] w fun e w'=>e = .returned (wv vb)∧Below w.heap.size w w'
 px:∀ w,Calls Tryz.prog 115 #[wv NX,wv va] w fun e w'=>e = .returned (wv (NX + va))∧Below w.heap.size w w'
 py:∀ w,Calls Tryz.prog 115 #[wv NY,wv vb] w fun e w'=>e = .returned (wv (NY + vb))∧Below w.heap.size w w'
 sz:∀ w,Calls Tryz.prog 114 #[wv (NX + va),wv (NY + vb),.int .i64 D] w fun e w'=>e = .returned (.tuple #[.int .i64 R.1.1,.int .i64 R.1.2,.int .i64 R.2])∧Below w.heap.size w w'
theorem rre_of {cx cy X Y NX NY D:Int} (h:ReachB cx cy X Y NX NY D):RRe cx cy X Y NX NY D (apartI cx X D) (apartI cy Y D) (pairF (apartI cx X D + NX) (apartI cy Y D + NY) D):=by
 obtain ⟨⟨c0,c1,c2,c3⟩,⟨x0,x1⟩,⟨y0,y1⟩,⟨nx0,nx1⟩,⟨ny0,ny1⟩,d0,d1⟩:=h
 obtain ⟨a0,a1,a2,a3⟩:=apart_bd c0 c1 d0 d1 x0 x1
 obtain ⟨b0,b1,b2,b3⟩:=apart_bd c2 c3 d0 d1 y0 y1
 rw [Int.add_comm (apartI cx X D) NX,Int.add_comm (apartI cy Y D) NY]
 refine ⟨fun w=>rapart_any cx X D w ⟨by omega,by omega⟩ ⟨by omega,by omega⟩ ⟨by omega,by omega⟩ ⟨by omega,by omega⟩ ⟨by omega,by omega⟩,fun w=>rapart_any cy Y D w ⟨by omega,by omega⟩ ⟨by omega,by omega⟩ ⟨by omega,by omega⟩ ⟨by omega,by omega⟩ ⟨by omega,by omega⟩,?_,?_,?_⟩ <;> unfold apartI <;> intro w
 ·exact rplus_any _ _ w ⟨by omega,by omega⟩ ⟨by omega,by omega⟩ ⟨by omega,by omega⟩
 ·exact rplus_any _ _ w ⟨by omega,by omega⟩ ⟨by omega,by omega⟩ ⟨by omega,by omega⟩
 ·exact rpair_any _ _ D w (by omega) (by omega) (by omega) (by omega) d0 (by omega)
theorem rre_list {l:List Ms} (h:OkL l) (hd:0 < detN l) {cx cy:Int} (h0:pOk cx = true) (h1:pOk cy = true):RRe cx cy (solX l) (solY l) (noiX l) (noiY l) (detN l) (apartI cx (solX l) (detN l)) (apartI cy (solY l) (detN l)) (reachF cx cy l):=
 rre_of (reachB_of h hd h0 h1)
end Go.Proofs.YtajmjkliblippaaGreatDoor
namespace Go.Proofs.YtajmjkliblippaaGreatDoor.S44
open Go.RowKit
theorem srcref_nil (w:World) :
 Calls Tryz.prog 110 #[.slice none 0 0] w fun e w'=>(∃ u,e = .returned u∧OI w.heap.size w' u (srcL []))∧Below w.heap.size w w':=by
 go_enter Tryz.func110,Tryz.ntmps110
 go_wp2
 go_loop [3,11] (fun u v=>u = .slice (some ⟨w.heap.size,0,none⟩) 0 0∧v = .int .i64 0) (fun _ _=>0)
 case atStart=>exact ⟨rfl,rfl⟩
 case round =>
  obtain ⟨rfl,rfl⟩:=hrel
  go_wp2
  go_ret
  have e:srcL [] = []:=by unfold srcL srtL; rw [List.map_nil,List.mergeSort_nil]; rfl
  exact ⟨⟨_,rfl,by rw [e]; exact World.ownsRow_lit w #[] 0 (Nat.le_refl _) (by decide) rfl⟩,(Below.refl _ _).alloc (Nat.le_refl _) _⟩
theorem srcref_any (l:List Ms) (v:Value) (w:World) (h:LstAt l v w) (hl:l.length≤1000) :
 Calls Tryz.prog 110 #[v] w fun e w'=>(∃ u,e = .returned u∧OI w.heap.size w' u (srcL l))∧Below w.heap.size w w':=by
 rcases h with ⟨rfl,rfl⟩ | ⟨b,o,cap,rfl,h2,h3,h4⟩
 ·exact srcref_nil w
 ·exact srcref_some l b o cap w h4 h2 h3 hl
def lastI (l:List Int):Int:=l.getLastD 0
theorem lastI_app (l:List Int) (x:Int):lastI (l ++ [x]) = x:=by
 unfold lastI
 simp
theorem con_wo {l:List Ms} (hc:chkL l = 0) (s:Int):conF (woL l s) = if fuS l s = true then (okS l s,0) else (false,14):=by
 have h:chkL (woL l s) = 0:=chkL_of (Nat.le_trans (woL_len _ _) (chkL_ok hc).1) fun x hx=>(chkL_ok hc).2 x (List.mem_filter.1 hx).1
 unfold conF
 rw [if_pos h]
 rfl
def FRr (l:List Ms) (w W1:World) (u:Value) (sv cv iv:Value) (wr:World):Prop:=
 ∃ k:Nat,iv = .int .i64 k∧k≤(srcL l).length∧∃ x c:Int,sv = .int .i64 x∧cv = .int .i64 c∧Hid (x = lastI (rgtL l k)∧c = (rgtL l k).length)∧c≤k∧0≤c∧Hid (Below w.heap.size w wr)∧Hid (OI W1.heap.size wr u (srcL l))∧Hid (∀ j,j < k→fuS l ((srcL l).getD j 0) = true)
set_option maxHeartbeats 8000000
set_option maxRecDepth 100000
theorem fltref_any (l:List Ms) (v:Value) (w:World) (h:LstAt l v w) :
 Calls Tryz.prog 73 #[v] w (FlP l w):=by
 have CR:=fun w hv=>conref_any l v w hv
 have H:=Lib.hid h
 clear h
 by_cases hz:(conF l).2 = 0
 ·have hc:chkL l = 0:=by
   unfold conF at hz; by_cases hc:chkL l = 0; exact hc; rw [if_neg hc] at hz; exact absurd hz hc
  have hf:fullB l = true:=by
   unfold conF at hz; rw [if_pos hc] at hz; by_cases hf:fullB l = true; exact hf; rw [if_neg hf] at hz; cases hz
  have hl:=(chkL_ok hc).1
  have EC:conF l = (decide (0 < (corL l).length),0):=by unfold conF; rw [if_pos hc,if_pos hf]
  have E0:=Lib.hid (show fltF l = if (srcL l).all (fuS l) = true then verd (corL l).length ((srcL l).filter (okS l)) else (0,14) by unfold fltF; rw [if_pos hc,if_pos hf])
  rw [EC] at CR
  obtain ⟨c0,hc0⟩:∃ c0,decide (0 < (corL l).length) = c0:=⟨_,rfl⟩
  rw [hc0] at CR
  have HC0:=Lib.hid hc0
  have HCR:=Lib.hid CR
  have SR:=Lib.hid fun w hv=>srcref_any l v w hv (by omega)
  have WO:=Lib.hid fun s w hv=>woref_any l s v w hv (by omega)
  have CW:=Lib.hid fun s=>con_wo hc s
  have SL:=Lib.hid (show (srcL l).length≤l.length by rw [← refK_eq]; exact refK_len)
  clear CR hz hc hf EC hc0
  go_enter Tryz.func73,Tryz.ntmps73
  go_wp2_with fail
  refine (HCR.out _ H.out).mono ?_
  rintro e w1 ⟨rfl,hb1⟩
  have HB1:=Lib.hid hb1
  have H1:=Lib.hid (H.out.below hb1)
  clear hb1
  go_wp2_with fail
  refine (SR.out _ H1.out).mono ?_
  rintro e w2 ⟨⟨u,rfl,ho⟩,hb2⟩
  have HO2:=Lib.hid ho
  have HB2:=Lib.hid (HB1.out.trans (hb2.mono HB1.out.size))
  obtain ⟨pu,cu,rfl⟩:=slc_of ho
  clear ho hb2
  go_wp2_with fail
  go_loopw [6,7,23] (FRr l w w1 (.slice pu (srcL l).length cu)) (fun _ _ i _=>(srcL l).length - (intOf i).toNat)
  case atStart=>exact ⟨0,rfl,Nat.zero_le _,0,0,rfl,rfl,Lib.hid ⟨rfl,rfl⟩,by omega,by omega,HB2,HO2,Lib.hid (fun j hj=>absurd hj (by omega))⟩
  case round =>
   obtain ⟨k,rfl,hk,x,c,rfl,rfl,HR,hck,hc0,HB,HO,HF⟩:=hrel
   have sl:=SL.out
   by_cases q:k < (srcL l).length
   ·have q':decide (k < (srcL l).length) = true:=by simpa using q
    have FM:∃ g,pu = some ⟨g,0,none⟩∧g < wr.heap.size∧wr.cell? ⟨g,k,none⟩ = some (.int .i64 ((srcL l).getD k 0)):=by
     rcases oi_cases HO.out with ⟨_,e⟩ | ⟨g,cap',e,_,_,_,at'⟩
     ·rw [e] at q; simp at q
     ·injection e with e1 e2 e3
      exact ⟨g,e1,at'.lt,at'.c k q⟩
    obtain ⟨g,rfl,hg,d0⟩:=FM
    have RS:=Lib.hid (rgtL_succ q)
    have FK:=Lib.hid (show (srcL l).getD k 0 ∈ srcL l by rw [List.getD_eq_getElem?_getD,List.getElem?_eq_getElem q]; exact List.getElem_mem q)
    have H3:=Lib.hid (H.out.below HB.out)
    generalize hsk:(srcL l).getD k 0 = s at *
    have HSK:=Lib.hid hsk
    clear hsk
    have W3:=Lib.hid (WO.out s wr H3.out)
    have CWS:=CW.out s
    go_wp2_with fail
    refine W3.out.mono ?_
    rintro e w4 ⟨⟨u4,rfl,hom⟩,hb4⟩
    have HB4:=Lib.hid (HB.out.trans (hb4.mono HB.out.size))
    have HO4:=Lib.hid (HO.out.below hb4)
    have C4:=conref_any (woL l s) u4 w4 hom.lst
    clear hb4 hom d0 hg
    cases hfu:fuS l s with
    | false =>
     rw [hfu] at CWS
     rw [CWS] at C4
     have HC4:=Lib.hid C4
     have E:=Lib.hid (show fltF l = (0,14) by rw [E0.out,if_neg]; intro hall; have:=List.all_eq_true.1 hall s FK.out; rw [hfu] at this; cases this)
     clear CWS C4 hfu
     go_wp2_with fail
     refine HC4.out.mono ?_
     rintro e w5 ⟨rfl,hb5⟩
     have HB5:=Lib.hid (HB4.out.trans (hb5.mono HB4.out.size))
     clear hb5
     go_wp2
     go_ret2
     exact ⟨by rw [E.out]; rfl,HB5.out⟩
    | true =>
     rw [hfu] at CWS
     rw [CWS] at C4
     have HFU:=Lib.hid hfu
     have HF2:=Lib.hid (show ∀ j,j < k + 1→fuS l ((srcL l).getD j 0) = true from fun j hj=>(Nat.lt_or_ge j k).elim (fun q=>HF.out j q) (fun q=>by rw [show j = k by omega,HSK.out]; exact HFU.out))
     clear CWS hfu
     cases hok:okS l s with
     | false =>
      rw [hok] at C4
      have HC4:=Lib.hid C4
      have HRG:=Lib.hid (show rgtL l (k + 1) = rgtL l k by rw [RS.out,hok]; rfl)
      clear C4 hok
      go_wp2_with fail
      refine HC4.out.mono ?_
      rintro e w5 ⟨rfl,hb5⟩
      have HB5:=Lib.hid (HB4.out.trans (hb5.mono HB4.out.size))
      have HO5:=Lib.hid (HO4.out.below hb5)
      clear hb5
      go_wp2
      go_roundw
      case rel=>exact ⟨k + 1,by go_num,by omega,x,c,rfl,rfl,Lib.hid (by rw [HRG.out]; exact HR.out),by omega,by omega,HB5,HO5,HF2⟩
      case measure=>simp [intOf]; omega
     | true =>
      rw [hok] at C4
      have HC4:=Lib.hid C4
      have HRG:=Lib.hid (show rgtL l (k + 1) = rgtL l k ++ [s] by rw [RS.out,hok]; rfl)
      clear C4 hok
      go_wp2_with fail
      refine HC4.out.mono ?_
      rintro e w5 ⟨rfl,hb5⟩
      have HB5:=Lib.hid (HB4.out.trans (hb5.mono HB4.out.size))
      have HO5:=Lib.hid (HO4.out.below hb5)
      clear hb5
      go_wp2
      go_roundw
      case rel=>exact ⟨k + 1,by go_num,by omega,s,c + 1,rfl,by go_num,Lib.hid (by rw [HRG.out,lastI_app]; exact ⟨rfl,by rw [List.length_append,List.length_singleton]; have:=HR.out.2; omega⟩),by omega,by omega,HB5,HO5,HF2⟩
      case measure=>simp [intOf]; omega
   ·obtain rfl:k = (srcL l).length:=by omega
    have EA:=Lib.hid (show fltF l = verd (corL l).length ((srcL l).filter (okS l)) by
     rw [E0.out,if_pos]
     refine List.all_eq_true.2 fun y hy=>?_
     obtain ⟨j,hj,rfl⟩:=List.getElem_of_mem hy
     have:=HF.out j hj
     rwa [List.getD_eq_getElem?_getD,List.getElem?_eq_getElem hj] at this)
    have RF:rgtL l (srcL l).length = (srcL l).filter (okS l):=by unfold rgtL; rw [List.take_length]
    have hr:=HR.out
    rw [RF] at hr
    generalize (srcL l).filter (okS l) = R at *
    obtain ⟨hx,hcl⟩:=hr
    have key:(c0 = true∧fltF l = (0,0))∨(c0 = false∧(c == 0) = true∧fltF l = (0,11))∨(c0 = false∧(c == 0) = false∧decide (1 < c) = true∧fltF l = (0,8))∨(c0 = false∧(c == 0) = false∧decide (1 < c) = false∧fltF l = (x,0)):=by
     rw [EA.out]
     unfold verd
     by_cases z0:0 < (corL l).length
     ·exact .inl ⟨by rw [← HC0.out]; exact decide_eq_true z0,if_pos z0⟩
     ·have w0:c0 = false:=by rw [← HC0.out]; exact decide_eq_false z0
      rw [if_neg z0]
      by_cases z1:R.length = 0
      ·exact .inr (.inl ⟨w0,by rw [beq_iff_eq]; omega,if_pos z1⟩)
      ·rw [if_neg z1]
       by_cases z2:1 < R.length
       ·exact .inr (.inr (.inl ⟨w0,by rw [beq_eq_false_iff_ne]; omega,by simpa using (show 1 < c by omega),if_pos z2⟩))
       ·refine .inr (.inr (.inr ⟨w0,by rw [beq_eq_false_iff_ne]; omega,by simpa using (show ¬ 1 < c by omega),?_⟩))
        rw [if_neg z2,hx]
        match R,z1,z2 with
        | [y],_,_=>rfl
        | [],z1,_=>exact absurd rfl z1
        | y :: y' :: r,_,z2=>exact absurd (by simp) z2
    clear hx hcl RF HR
    rcases key with ⟨rfl,E⟩ | ⟨rfl,g1,E⟩ | ⟨rfl,g1,g2,E⟩ | ⟨rfl,g1,g2,E⟩
    all_goals
     have HE:=Lib.hid E
     clear E
     go_wp2
     go_ret2
     exact ⟨by rw [HE.out]; rfl,HB.out⟩
 ·have g:((conF l).2 != 0) = true:=by simpa using hz
  have E:=Lib.hid (show fltF l = (0,(conF l).2) by
   unfold conF at hz ⊢
   unfold fltF
   by_cases hc:chkL l = 0
   ·rw [if_pos hc] at hz ⊢
    by_cases hf:fullB l = true
    ·rw [if_pos hf] at hz; exact absurd rfl hz
    ·rw [if_neg hf,if_pos hc,if_neg hf]
   ·rw [if_neg hc,if_neg hc])
  generalize conF l = r at *
  obtain ⟨c,z⟩:=r
  simp only at g
  have HCR:=Lib.hid CR
  clear CR hz
  go_enter Tryz.func73,Tryz.ntmps73
  go_wp2_with fail
  refine (HCR.out _ H.out).mono ?_
  rintro e w1 ⟨rfl,hb1⟩
  have HB1:=Lib.hid hb1
  clear hb1
  go_wp2
  go_ret2
  exact ⟨by rw [E.out]; rfl,HB1.out⟩
end Go.Proofs.YtajmjkliblippaaGreatDoor.S44
