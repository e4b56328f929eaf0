/-
  Walks and laws of the layers below, gathered from several texts.
-/
import Derived.Lib.Hide
import Derived.Test.YtajmjkliblippaaGreatDoorShelfQ
import Derived.WalkKit
import Derived.WalkSpells
import Derived.IntWalk
import Derived.BigQuiet
import Derived.Deep.QuietTactic
import Derived.Deep.LoopGhost
import Derived.LoopTactic
import Derived.Deep.Cut
import Derived.Deep.RegionHeld3
import Derived.Laws.Bits64b
import Derived.Laws.Bits64
import Derived.Lib.QuietBelow
import Derived.Laws.OwnMore
import Derived.Maps.AppendAt
import Derived.OwnWalk
import Derived.OneCell
import Derived.Lib.SmallJoins
import Derived.Deep.Onto
import Derived.Lib.SlicesCompact
import Derived.Lib.RowBridge
import Derived.Sort.OwnSortedInts
import Derived.Test.YtajmjkliblippaaGreatDoorQ3
import Derived.Test.YtajmjkliblippaaGreatDoorQ9
import Derived.Test.YtajmjkliblippaaGreatDoorQ10
import Derived.Test.YtajmjkliblippaaGreatDoorQ14
import Derived.Test.YtajmjkliblippaaGreatDoorQ15
import Derived.Test.YtajmjkliblippaaGreatDoorQ16
import Derived.Test.YtajmjkliblippaaGreatDoorQ17
import Derived.Test.YtajmjkliblippaaGreatDoorQ22
import Derived.Test.YtajmjkliblippaaGreatDoorQ23
import Derived.Test.YtajmjkliblippaaGreatDoorQ24
import Derived.Test.YtajmjkliblippaaGreatDoorQ25
import Derived.Test.YtajmjkliblippaaGreatDoorQ33
import Derived.Test.YtajmjkliblippaaGreatDoorQ36
set_option linter.unusedVariables false
namespace Go.Proofs.YtajmjkliblippaaGreatDoor
open Go.RowKit
def wsF (l:List Ms) (cx cy:Int) (ks:List Int):Int:=if ks.any (fun k=>decide ((reachF cx cy (woL l k)).2≠0)) = true then 2 else 0
theorem ws_nil (l:List Ms) (cx cy:Int):wsF l cx cy [] = 0:=rfl
theorem ws_snoc (l:List Ms) (cx cy:Int) (ks:List Int) (k:Int):wsF l cx cy (ks ++ [k]) = if (reachF cx cy (woL l k)).2 = 0 then wsF l cx cy ks else 2:=by
 unfold wsF
 rw [List.any_append]
 by_cases h:(reachF cx cy (woL l k)).2 = 0
 ·rw [if_pos h]; simp [h]
 ·rw [if_neg h]; simp [h]
theorem ws_cases (l:List Ms) (cx cy:Int) (ks:List Int):(wsF l cx cy ks = 0∧∀ i,i < ks.length→(reachF cx cy (woL l (ks.getD i 0))).2 = 0)∨(wsF l cx cy ks = 2∧∃ i,i < ks.length∧(reachF cx cy (woL l (ks.getD i 0))).2≠0):=by
 unfold wsF
 by_cases h:ks.any (fun k=>decide ((reachF cx cy (woL l k)).2≠0)) = true
 ·rw [if_pos h]
  obtain ⟨z,hz,e⟩:=List.any_eq_true.1 h
  obtain ⟨i,hi,rfl⟩:=mem_getD hz
  exact .inr ⟨rfl,i,hi,of_decide_eq_true e⟩
 ·rw [if_neg h]
  refine .inl ⟨rfl,fun i hi=>?_⟩
  rcases Decidable.em ((reachF cx cy (woL l (ks.getD i 0))).2 = 0) with a | a
  ·exact a
  ·exact absurd (List.any_eq_true.2 ⟨_,getD_mem hi,decide_eq_true a⟩) h
theorem ints_other {l:List Int} {g n j:Nat} {W:World} (h:IntsAt l g W) (hn:n≠g) (u:Value):IntsAt l g (W.setCell ⟨n,j,none⟩ u):=
 ⟨Nat.lt_of_lt_of_le h.lt (by simp [World.setCell]),fun i hi=>(World.cell?_of_block (w:=W) (a:=⟨g,i,none⟩) (Below.heap_setCell _ _ _ _ (Ne.symm hn))).trans (h.c i hi)⟩
def RlR (l:List Ms) (K:List Int) (cx cy:Int) (B bs:Nat) (S7:List Value) (ps:Option Addr) (caps:Nat) (w:World) (u s:Value) (wr:World):Prop:=∃ k:Nat,s = .int .i64 k∧u = .int .i64 (wsF l cx cy (K.take k))∧k≤K.length∧Hid (Below w.heap.size w wr)∧Hid (Blk [.int .i64 0,.int .i64 0,.int .i64 0,.int .i64 0] w.heap.size wr)∧Hid (Blk S7 bs wr)∧Hid (Blk [.int .i64 cx,.int .i64 cy,.int .i64 (maxF (mxF l cx cy) (K.take k)),.int .i64 (maxF (myF l cx cy) (K.take k))] B wr)∧Hid (∀ k,k < K.length→∃ g,ps = some ⟨g,0,none⟩∧K.length≤caps∧caps≤9223372036854775807∧B≠g∧IntsAt K g wr)∧Hid (∀ i,i < k→detN (woL l (K.getD i 0))≠0)
set_option maxHeartbeats 40000000
set_option maxRecDepth 100000
theorem rlev_any (l:List Ms) (v:Value) (w:World) (h:LstAt l v w) :
 Calls Tryz.prog 75 #[v] w fun e w'=>e = .returned (.tuple #[boxV (levF l).1,.int .i64 (levF l).2])∧Below w.heap.size w w':=by
 obtain ⟨p,cap,rfl⟩:=lst_form h
 by_cases hs:solE l = 0
 ·obtain ⟨hc,hd,hx,hy⟩:=sol_chk hs
  have SO:=Lib.hid fun w h=>rsol_ok l (.slice p l.length cap) w h hs
  have L18:=Lib.hid (show l.length≤18 by have:=(okL_of hc).len; omega)
  have SR:=Lib.hid fun w h=>srcref_any l (.slice p l.length cap) w h (Nat.le_trans L18.out (by omega))
  have HC:=Lib.hid hc
  have EV1:=Lib.hid fun k (h:k ∈ srcL l) hd=>lev_rank hs h hd
  have EV2:=Lib.hid fun hr k (h:k ∈ srcL l) hw=>lev_wide hs hr h hw
  have EV3:=Lib.hid fun hr hw=>lev_good hs hr hw
  have RE:=Lib.hid fun k (hd:detN (woL l k)≠0)=>rre_list ((okL_of hc).wo k) (det_pos (chk_wo hc k) hd) hx hy
  have KM:=Lib.hid fun k (h:k < (srcL l).length)=>getD_mem h
  have KL:=Lib.hid (show (srcL l).length≤18 from Nat.le_trans (src_len l) L18.out)
  clear hs hc hd hx hy
  generalize solX l = X at *
  generalize solY l = Y at *
  generalize detN l = T at *
  generalize cenX l = cx at *
  generalize cenY l = cy at *
  obtain ⟨K,hK⟩:∃ x,srcL l = x:=⟨_,rfl⟩
  rw [hK] at SR KM EV1 EV2 EV3 KL
  clear hK
  have H0:=Lib.hid h
  obtain ⟨KZ,HB⟩:=ent1 w #[.int .i64 0,.int .i64 0,.int .i64 0,.int .i64 0] 25
  go_enter Tryz.func75,Tryz.ntmps75
  clear h
  go_wp2_with fail
  generalize w.alloc _ = w0 at *
  refine (SO.out _ (H0.out.below HB.out)).mono ?_
  rintro e1 w1 ⟨rfl,hb1⟩
  replace HB:=hT HB hb1
  replace KZ:=hK KZ hb1
  clear hb1
  go_wp2_with fail
  have KS:=Lib.hid ((Blk.of (vs:=#[.int .i64 (hiW X),.int .u64 (loW X),.int .i64 (hiW Y),.int .u64 (loW Y),.int .i64 T,.int .i64 cx,.int .i64 cy]) (t:=114) (w:=w1) (b:=w1.heap.size) rfl).alloc (.cells #[.int .i64 cx,.int .i64 cy,.int .i64 0,.int .i64 0] 25))
  have KB:=Lib.hid (Blk.of (vs:=#[.int .i64 cx,.int .i64 cy,.int .i64 0,.int .i64 0]) (t:=25) (w:=w1.alloc (.cells #[.int .i64 (hiW X),.int .u64 (loW X),.int .i64 (hiW Y),.int .u64 (loW Y),.int .i64 T,.int .i64 cx,.int .i64 cy] 114)) (b:=w1.heap.size + 1) (by simp))
  have hb2:Below w1.heap.size w1 ((w1.alloc (.cells #[.int .i64 (hiW X),.int .u64 (loW X),.int .i64 (hiW Y),.int .u64 (loW Y),.int .i64 T,.int .i64 cx,.int .i64 cy] 114)).alloc (.cells #[.int .i64 cx,.int .i64 cy,.int .i64 0,.int .i64 0] 25)):=((Below.refl _ _).alloc (Nat.le_refl _) _).alloc (by simp) _
  have hnS:=HB.out.size
  have nzS_Z:=KZ.out.lt
  replace HB:=hT HB hb2
  replace KZ:=hK KZ hb2
  clear hb2
  generalize (w1.alloc _).alloc _ = w2 at *
  generalize w1.heap.size = bS at *
  have neS_Z:bS≠w.heap.size:=by omega
  have neB_Z:bS + 1≠w.heap.size:=by omega
  clear nzS_Z
  refine (SR.out _ (H0.out.below HB.out)).mono ?_
  rintro e9 w9 ⟨⟨us,rfl,hoi⟩,hb9⟩
  have hzB:=KB.out.lt
  refine up3 hb9 HB KZ KS KB ?_
  clear hb9 HB KZ KS KB
  intro HB KZ KS KB
  obtain ⟨ps,caps,rfl,IK⟩:∃ ps caps,us = .slice ps K.length caps∧Hid (∀ k,k < K.length→∃ g,ps = some ⟨g,0,none⟩∧K.length≤caps∧caps≤9223372036854775807∧(bS + 1)≠g∧IntsAt K g w9):=by
   rcases oi_cases hoi with ⟨rfl,e⟩ | ⟨g,cap',rfl,q1,q2,q3,q4⟩
   ·exact ⟨none,0,by rw [e]; rfl,Lib.hid fun k hk=>absurd hk (by rw [e]; simp)⟩
   ·exact ⟨_,cap',rfl,Lib.hid fun k hk=>⟨g,rfl,q1,q2,by omega,q4⟩⟩
  clear hoi hzB
  go_wp2
  go_loopw [7,32] (RlR l K cx cy (bS + 1) bS [.int .i64 (hiW X),.int .u64 (loW X),.int .i64 (hiW Y),.int .u64 (loW Y),.int .i64 T,.int .i64 cx,.int .i64 cy] ps caps w) (fun _ i _=>K.length - (intOf i).toNat)
  case atStart=>exact ⟨0,rfl,by rw [List.take_zero,ws_nil],Nat.zero_le _,HB,KZ,KS,by rw [List.take_zero]; exact KB,IK,Lib.hid fun i hi=>absurd hi (by omega)⟩
  case round =>
   clear HB KZ KS KB IK
   obtain ⟨k,rfl,rfl,hk,HB,KZ,KS,KB,IK,HR⟩:=hrel
   by_cases q:k < K.length
   ·have q':decide (k < K.length) = true:=by simpa using q
    obtain ⟨gk,rfl,hk1,hk2,hgb,IA⟩:=IK.out k q
    have IX:=Lib.hid IA
    have ck:=IA.c k q
    have ckz:=IA.lt
    clear IA IK
    have MX:=Lib.hid (show maxF (mxF l cx cy) (K.take (k + 1)) = max (maxF (mxF l cx cy) (K.take k)) (reachF cx cy (woL l (K.getD k 0))).1.1 by rw [take_int q,max_snoc]; rfl)
    have MY:=Lib.hid (show maxF (myF l cx cy) (K.take (k + 1)) = max (maxF (myF l cx cy) (K.take k)) (reachF cx cy (woL l (K.getD k 0))).1.2 by rw [take_int q,max_snoc]; rfl)
    have MW:=Lib.hid (show wsF l cx cy (K.take (k + 1)) = if (reachF cx cy (woL l (K.getD k 0))).2 = 0 then wsF l cx cy (K.take k) else 2 by rw [take_int q,ws_snoc])
    have WO:=Lib.hid fun w h=>woref_any l (K.getD k 0) (.slice p l.length cap) w h L18.out
    have SV0:=Lib.hid fun hd v w h=>rex_rank (woL l (K.getD k 0)) v w h (chk_wo HC.out _) hd
    have SV1:=Lib.hid fun hd v w h=>rex_ok (woL l (K.getD k 0)) v w h (chk_wo HC.out _) hd
    have NS:=Lib.hid fun v w h=>rnoise_any (woL l (K.getD k 0)) v w h (chk_wo HC.out _)
    have ER:=Lib.hid fun hd=>EV1.out _ (KM.out k q) hd
    have RE2:=Lib.hid fun hd=>RE.out (K.getD k 0) hd
    have RB:=reach_bad cx cy (woL l (K.getD k 0))
    have HRD:=Lib.hid fun (h:detN (woL l (K.getD k 0))≠0) i (hi:i < k + 1)=>show detN (woL l (K.getD i 0))≠0 from by rcases Nat.lt_or_ge i k with a | a; exact HR.out i a; rw [show i = k by omega]; exact h
    generalize maxF (mxF l cx cy) (K.take k) = m1 at *
    generalize maxF (myF l cx cy) (K.take k) = m2 at *
    generalize wsF l cx cy (K.take k) = ws at *
    obtain ⟨R,hR⟩:∃ z,reachF cx cy (woL l (K.getD k 0)) = z:=⟨_,rfl⟩
    rw [hR] at RE2 RB MX MY MW
    clear hR
    generalize hkk:K.getD k 0 = kk at *
    clear hkk
    have WE:=Lib.hid (rfl:woL l kk = woL l kk)
    generalize woL l kk = lw at *
    clear WE
    go_wp2_with fail
    refine (WO.out _ (H0.out.below HB.out)).mono ?_
    rintro e21 w21 ⟨⟨uw,rfl,how⟩,hb21⟩
    have HW:=Lib.hid (OM.lst how)
    refine up3 hb21 HB KZ KS KB ?_
    clear HB KZ KS KB
    intro HB KZ KS KB
    replace IX:=Lib.hid (IX.out.below hb21)
    clear hb21
    clear how ck ckz WO
    by_cases hd:detN lw = 0
    ·have HV:=Lib.hid (ER.out hd)
     have SV:=Lib.hid (SV0.out hd)
     clear ER SV0 SV1 RE2 HRD MX MY MW RB hd NS
     go_wp2_with fail
     refine (SV.out _ _ HW.out).mono ?_
     rintro e22 w22 ⟨rfl,hb22⟩
     refine up3 hb22 HB KZ KS KB ?_
     clear HB KZ KS KB
     intro HB KZ KS KB
     replace IX:=Lib.hid (IX.out.below hb22)
     clear hb22
     obtain ⟨yZ0,yZ1,yZ2,yZ3,yZz,yZf0,yZf1,yZf2,yZf3⟩:=blf4 KZ
     go_wp2
     replace KZ:=kst (kst (kst (kst KZ 0 (.int .i64 0)) 1 (.int .i64 0)) 2 (.int .i64 0)) 3 (.int .i64 0)
     refine ot2 (st4 w22 w.heap.size 0 (.int .i64 0) 1 (.int .i64 0) 2 (.int .i64 0) 3 (.int .i64 0)) HB KS KB (by omega) (by omega) (by omega) ?_
     clear HB KS KB
     intro HB KS KB
     clear yZ0 yZ1 yZ2 yZ3 yZz yZf0 yZf1 yZf2 yZf3
     generalize (((w22.setCell _ _).setCell _ _).setCell _ _).setCell _ _ = w23 at *
     simp only [List.set] at KZ
     obtain ⟨KE,hb24⟩:=alB w23 #[.int .i64 0,.int .u64 0,.int .i64 0,.int .u64 0,.int .i64 0,.int .i64 0,.int .i64 0] 114
     have hnE:=HB.out.size
     have nzE_Z:=KZ.out.lt
     have nzE_S:=KS.out.lt
     have nzE_B:=KB.out.lt
     refine up3 hb24 HB KZ KS KB ?_
     clear hb24 HB KZ KS KB
     intro HB KZ KS KB
     generalize w23.alloc _ = w24 at *
     generalize w23.heap.size = bE at *
     have neE_Z:bE≠w.heap.size:=by omega
     have neE_S:bE≠bS:=by omega
     have neE_B:bE≠(bS + 1):=by omega
     clear nzE_Z nzE_S nzE_B
     obtain ⟨yZ0,yZ1,yZ2,yZ3,yZz⟩:=blk4 KZ
     refine bodyPost_ret (v:=.tuple #[.agg #[.int .i64 0,.int .i64 0,.int .i64 0,.int .i64 0],.int .i64 14]) (by simp [results,Tryz.results75,go_sem,yZ0,yZ1,yZ2,yZ3]) rfl ⟨by rw [HV.out]; rfl,HB.out⟩
    ·have HRD2:=Lib.hid (HRD.out hd)
     have SV:=Lib.hid (SV1.out hd)
     obtain ⟨ax,ay,px,py,sz⟩:=RE2.out hd
     clear ER SV0 SV1 RE2 HRD hd
     generalize noiX lw + apartI cx (solX lw) (detN lw) = px' at *
     generalize noiY lw + apartI cy (solY lw) (detN lw) = py' at *
     generalize apartI cx (solX lw) (detN lw) = ax' at *
     generalize apartI cy (solY lw) (detN lw) = ay' at *
     generalize solX lw = x at *
     generalize solY lw = y at *
     generalize noiX lw = u at *
     generalize noiY lw = v at *
     generalize detN lw = t at *
     unfold wv at ax ay px py sz
     have AX:=Lib.hid ax
     have AY:=Lib.hid ay
     have PX:=Lib.hid px
     have PY:=Lib.hid py
     have SZ:=Lib.hid sz
     clear ax ay px py sz
     go_wp2_with fail
     refine (SV.out _ _ HW.out).mono ?_
     rintro e22 w22 ⟨rfl,hb22⟩
     refine up3 hb22 HB KZ KS KB ?_
     clear HB KZ KS KB
     intro HB KZ KS KB
     replace IX:=Lib.hid (IX.out.below hb22)
     replace HW:=Lib.hid (HW.out.below hb22)
     clear hb22
     go_wp2_with fail
     obtain ⟨KE,hb23⟩:=alB w22 #[.int .i64 (hiW x),.int .u64 (loW x),.int .i64 (hiW y),.int .u64 (loW y),.int .i64 t,.int .i64 0,.int .i64 0] 114
     have hnE:=HB.out.size
     have nzE_Z:=KZ.out.lt
     have nzE_S:=KS.out.lt
     have nzE_B:=KB.out.lt
     refine up3 hb23 HB KZ KS KB ?_
     clear HB KZ KS KB
     intro HB KZ KS KB
     replace IX:=Lib.hid (IX.out.below hb23)
     replace HW:=Lib.hid (HW.out.below hb23)
     clear hb23
     generalize w22.alloc _ = w23 at *
     generalize w22.heap.size = bE at *
     have neE_Z:bE≠w.heap.size:=by omega
     have neE_S:bE≠bS:=by omega
     have neE_B:bE≠(bS + 1):=by omega
     clear nzE_Z nzE_S nzE_B
     refine (NS.out _ _ HW.out).mono ?_
     rintro e24 w24 ⟨rfl,hb24⟩
     refine up4 hb24 HB KZ KS KB KE ?_
     clear HB KZ KS KB KE
     intro HB KZ KS KB KE
     replace IX:=Lib.hid (IX.out.below hb24)
     replace HW:=Lib.hid (HW.out.below hb24)
     clear hb24
     go_wp2_with fail
     have KA:=Lib.hid ((Blk.of (vs:=#[.int .i64 (hiW u),.int .u64 (loW u)]) (t:=112) (w:=w24) (b:=w24.heap.size) rfl).alloc (.cells #[.int .i64 (hiW v),.int .u64 (loW v)] 112))
     have KC:=Lib.hid (Blk.of (vs:=#[.int .i64 (hiW v),.int .u64 (loW v)]) (t:=112) (w:=w24.alloc (.cells #[.int .i64 (hiW u),.int .u64 (loW u)] 112)) (b:=w24.heap.size + 1) (by simp))
     have hb25:Below w24.heap.size w24 ((w24.alloc (.cells #[.int .i64 (hiW u),.int .u64 (loW u)] 112)).alloc (.cells #[.int .i64 (hiW v),.int .u64 (loW v)] 112)):=((Below.refl _ _).alloc (Nat.le_refl _) _).alloc (by simp) _
     have hnA:=HB.out.size
     have nzA_Z:=KZ.out.lt
     have nzA_S:=KS.out.lt
     have nzA_B:=KB.out.lt
     have nzA_E:=KE.out.lt
     refine up4 hb25 HB KZ KS KB KE ?_
     clear HB KZ KS KB KE
     intro HB KZ KS KB KE
     replace IX:=Lib.hid (IX.out.below hb25)
     replace HW:=Lib.hid (HW.out.below hb25)
     clear hb25
     generalize (w24.alloc _).alloc _ = w25 at *
     generalize w24.heap.size = bA at *
     have neA_Z:bA≠w.heap.size:=by omega
     have neC_Z:bA + 1≠w.heap.size:=by omega
     have neA_S:bA≠bS:=by omega
     have neC_S:bA + 1≠bS:=by omega
     have neA_B:bA≠(bS + 1):=by omega
     have neC_B:bA + 1≠(bS + 1):=by omega
     have neA_E:bA≠bE:=by omega
     have neC_E:bA + 1≠bE:=by omega
     clear nzA_Z nzA_S nzA_B nzA_E
     have gS_5:=fun d os=>cell_regrown (KS.out.c 5 _ rfl) d os
     have gS_6:=fun d os=>cell_regrown (KS.out.c 6 _ rfl) d os
     have gE_0:=fun d os=>cell_regrown (KE.out.c 0 _ rfl) d os
     have gE_1:=fun d os=>cell_regrown (KE.out.c 1 _ rfl) d os
     have gE_2:=fun d os=>cell_regrown (KE.out.c 2 _ rfl) d os
     have gE_3:=fun d os=>cell_regrown (KE.out.c 3 _ rfl) d os
     have gE_4:=fun d os=>cell_regrown (KE.out.c 4 _ rfl) d os
     have gA_0:=fun d os=>cell_regrown (KA.out.c 0 _ rfl) d os
     have gA_1:=fun d os=>cell_regrown (KA.out.c 1 _ rfl) d os
     have gC_0:=fun d os=>cell_regrown (KC.out.c 0 _ rfl) d os
     have gC_1:=fun d os=>cell_regrown (KC.out.c 1 _ rfl) d os
     have rv0:=Lib.hid (fun d os=>Calls.regrown_of (AX.out (Go.Sort.grow (redrawn w25 d) os)))
     have rv1:=Lib.hid (fun d os=>Calls.regrown_of (AY.out (Go.Sort.grow (redrawn w25 d) os)))
     have rv2:=Lib.hid (fun d os=>Calls.regrown_of (PX.out (Go.Sort.grow (redrawn w25 d) os)))
     have rv3:=Lib.hid (fun d os=>Calls.regrown_of (PY.out (Go.Sort.grow (redrawn w25 d) os)))
     have rv4:=Lib.hid (fun d os=>Calls.regrown_of (SZ.out (Go.Sort.grow (redrawn w25 d) os)))
     refine wp_region_quiet_below (by kernel_rfl) (by kernel_rfl) ?_
     repeat (quiet_step (first | with_reducible exact rv0.out _ _ | with_reducible exact rv1.out _ _ | with_reducible exact rv2.out _ _ | with_reducible exact rv3.out _ _ | with_reducible exact rv4.out _ _))
     refine wpQuiet_nil ?_
     intro w26 hw26
     have hb26:Below w25.heap.size w25 w26:=by
      obtain ⟨⟨dq,osq⟩,hw2⟩:=hw26
      rw [hw2]; exact below_regrown _ dq osq
     clear gS_5 gS_6 gE_0 gE_1 gE_2 gE_3 gE_4 gA_0 gA_1 gC_0 gC_1 rv0 rv1 rv2 rv3 rv4 hw26
     refine up6 hb26 HB KZ KS KB KE KA KC ?_
     clear HB KZ KS KB KE KA KC
     intro HB KZ KS KB KE KA KC
     replace IX:=Lib.hid (IX.out.below hb26)
     replace HW:=Lib.hid (HW.out.below hb26)
     clear hb26
     obtain ⟨⟨rx,ry⟩,re⟩:=R
     have MX2:=Lib.hid MX.out
     have MY2:=Lib.hid MY.out
     have MW2:=Lib.hid MW.out
     clear MX MY MW AX AY PX PY SZ NS SV
     rcases RB with RB | RB
     ·simp only at RB
      subst RB
      have MW3:=Lib.hid (MW2.out.trans (if_pos rfl))
      clear MW2
      obtain ⟨yB0,yB1,yB2,yB3,yBz,yBf0,yBf1,yBf2,yBf3⟩:=blf4 KB
      go_wp2
      replace KB:=kst (kst KB 2 (.int .i64 (max m1 rx))) 3 (.int .i64 (max m2 ry))
      refine ot5 (st2 w26 (bS + 1) 2 (.int .i64 (max m1 rx)) 3 (.int .i64 (max m2 ry))) HB KZ KS KE KA KC (by omega) (by omega) (by omega) (by omega) (by omega) (by omega) ?_
      clear HB KZ KS KE KA KC
      intro HB KZ KS KE KA KC
      clear yB0 yB1 yB2 yB3 yBz yBf0 yBf1 yBf2 yBf3
      simp only [List.set] at KB
      have IX2:=Lib.hid (ints_other (j:=3) (ints_other (j:=2) IX.out hgb (.int .i64 (max m1 rx))) hgb (.int .i64 (max m2 ry)))
      exact ⟨⟨k + 1,by go_num,by rw [MW3.out],by omega,HB,KZ,KS,by rw [MX2.out,MY2.out]; exact KB,Lib.hid fun k hk=>⟨gk,rfl,hk1,hk2,hgb,IX2.out⟩,HRD2⟩,by simp [intOf]; omega⟩
     ·injection RB with RB1 RB2
      injection RB1 with RB3 RB4
      subst RB2 RB3 RB4
      have MW3:=Lib.hid (MW2.out.trans (if_neg (by simp)))
      clear MW2
      obtain ⟨yB0,yB1,yB2,yB3,yBz,yBf0,yBf1,yBf2,yBf3⟩:=blf4 KB
      go_wp2
      replace KB:=kst (kst KB 2 (.int .i64 (max m1 0))) 3 (.int .i64 (max m2 0))
      refine ot5 (st2 w26 (bS + 1) 2 (.int .i64 (max m1 0)) 3 (.int .i64 (max m2 0))) HB KZ KS KE KA KC (by omega) (by omega) (by omega) (by omega) (by omega) (by omega) ?_
      clear HB KZ KS KE KA KC
      intro HB KZ KS KE KA KC
      clear yB0 yB1 yB2 yB3 yBz yBf0 yBf1 yBf2 yBf3
      simp only [List.set] at KB
      have IX2:=Lib.hid (ints_other (j:=3) (ints_other (j:=2) IX.out hgb (.int .i64 (max m1 0))) hgb (.int .i64 (max m2 0)))
      exact ⟨⟨k + 1,by go_num,by rw [MW3.out],by omega,HB,KZ,KS,by rw [MX2.out,MY2.out]; exact KB,Lib.hid fun k hk=>⟨gk,rfl,hk1,hk2,hgb,IX2.out⟩,HRD2⟩,by simp [intOf]; omega⟩
   ·obtain rfl:k = K.length:=by omega
    rw [List.take_length] at KB
    rw [List.take_length]
    rcases ws_cases l cx cy K with ⟨we,hw⟩ | ⟨we,i,hi,hw⟩
    ·rw [we]
     have HV:=Lib.hid (EV3.out HR.out hw)
     clear we hw
     generalize maxF (mxF l cx cy) K = m1 at *
     generalize maxF (myF l cx cy) K = m2 at *
     obtain ⟨yZ0,yZ1,yZ2,yZ3,yZz,yZf0,yZf1,yZf2,yZf3⟩:=blf4 KZ
     obtain ⟨yB0,yB1,yB2,yB3,yBz⟩:=blk4 KB
     go_wp2
     replace KZ:=kst (kst (kst (kst KZ 0 (.int .i64 cx)) 1 (.int .i64 cy)) 2 (.int .i64 m1)) 3 (.int .i64 m2)
     refine ot2 (st4 wr w.heap.size 0 (.int .i64 cx) 1 (.int .i64 cy) 2 (.int .i64 m1) 3 (.int .i64 m2)) HB KS KB (by omega) (by omega) (by omega) ?_
     clear HB KS KB
     intro HB KS KB
     clear yZ0 yZ1 yZ2 yZ3 yZz yZf0 yZf1 yZf2 yZf3 yB0 yB1 yB2 yB3 yBz
     generalize (((wr.setCell _ _).setCell _ _).setCell _ _).setCell _ _ = w51 at *
     simp only [List.set] at KZ
     obtain ⟨yZ0,yZ1,yZ2,yZ3,yZz⟩:=blk4 KZ
     refine bodyPost_ret (v:=.tuple #[.agg #[.int .i64 cx,.int .i64 cy,.int .i64 m1,.int .i64 m2],.int .i64 0]) (by simp [results,Tryz.results75,go_sem,yZ0,yZ1,yZ2,yZ3]) rfl ⟨by rw [HV.out]; rfl,HB.out⟩
    ·rw [we]
     have HV:=Lib.hid (EV2.out HR.out _ (KM.out i hi) hw)
     clear we hw hi
     generalize maxF (mxF l cx cy) K = m1 at *
     generalize maxF (myF l cx cy) K = m2 at *
     obtain ⟨yZ0,yZ1,yZ2,yZ3,yZz,yZf0,yZf1,yZf2,yZf3⟩:=blf4 KZ
     go_wp2
     replace KZ:=kst (kst (kst (kst KZ 0 (.int .i64 0)) 1 (.int .i64 0)) 2 (.int .i64 0)) 3 (.int .i64 0)
     refine ot2 (st4 wr w.heap.size 0 (.int .i64 0) 1 (.int .i64 0) 2 (.int .i64 0) 3 (.int .i64 0)) HB KS KB (by omega) (by omega) (by omega) ?_
     clear HB KS KB
     intro HB KS KB
     clear yZ0 yZ1 yZ2 yZ3 yZz yZf0 yZf1 yZf2 yZf3
     generalize (((wr.setCell _ _).setCell _ _).setCell _ _).setCell _ _ = w51 at *
     simp only [List.set] at KZ
     obtain ⟨yZ0,yZ1,yZ2,yZ3,yZz⟩:=blk4 KZ
     refine bodyPost_ret (v:=.tuple #[.agg #[.int .i64 0,.int .i64 0,.int .i64 0,.int .i64 0],.int .i64 2]) (by simp [results,Tryz.results75,go_sem,yZ0,yZ1,yZ2,yZ3]) rfl ⟨by rw [HV.out]; rfl,HB.out⟩
 ·have SO:=Lib.hid fun w h=>rsol_bad l (.slice p l.length cap) w h hs
  have HV:Hid (levF l = (box0,solE l)):=Lib.hid (by unfold levF; rw [if_neg hs])
  have g:(solE l != 0) = true:=by simpa using hs
  have g':(solE l == 0) = false:=by simpa using hs
  clear hs
  generalize solE l = c at *
  have H0:=Lib.hid h
  obtain ⟨KZ,HB⟩:=ent1 w #[.int .i64 0,.int .i64 0,.int .i64 0,.int .i64 0] 25
  go_enter Tryz.func75,Tryz.ntmps75
  clear h
  go_wp2_with fail
  generalize w.alloc _ = w0 at *
  refine (SO.out _ (H0.out.below HB.out)).mono ?_
  rintro e1 w1 ⟨rfl,hb1⟩
  replace HB:=hT HB hb1
  replace KZ:=hK KZ hb1
  clear hb1
  obtain ⟨yZ0,yZ1,yZ2,yZ3,yZz,yZf0,yZf1,yZf2,yZf3⟩:=blf4 KZ
  go_wp2
  have hs:=st4 w1 w.heap.size 0 (.int .i64 0) 1 (.int .i64 0) 2 (.int .i64 0) 3 (.int .i64 0)
  replace KZ:=kst (kst (kst (kst KZ 0 (.int .i64 0)) 1 (.int .i64 0)) 2 (.int .i64 0)) 3 (.int .i64 0)
  replace HB:=oH hs HB (by omega)
  clear hs
  clear yZ0 yZ1 yZ2 yZ3 yZz yZf0 yZf1 yZf2 yZf3
  generalize (((w1.setCell _ _).setCell _ _).setCell _ _).setCell _ _ = w2 at *
  simp only [List.set] at KZ
  obtain ⟨KS,hb3⟩:=alB w2 #[.int .i64 0,.int .u64 0,.int .i64 0,.int .u64 0,.int .i64 0,.int .i64 0,.int .i64 0] 114
  have hnS:=HB.out.size
  have nzS_Z:=KZ.out.lt
  replace HB:=hT HB hb3
  replace KZ:=hK KZ hb3
  clear hb3
  generalize w2.alloc _ = w3 at *
  generalize w2.heap.size = bS at *
  have neS_Z:bS≠w.heap.size:=by omega
  clear nzS_Z
  obtain ⟨yZ0,yZ1,yZ2,yZ3,yZz⟩:=blk4 KZ
  refine bodyPost_ret (v:=.tuple #[.agg #[.int .i64 0,.int .i64 0,.int .i64 0,.int .i64 0],.int .i64 c]) (by simp [results,Tryz.results75,go_sem,yZ0,yZ1,yZ2,yZ3]) rfl ⟨by rw [HV.out]; rfl,HB.out⟩
end Go.Proofs.YtajmjkliblippaaGreatDoor
