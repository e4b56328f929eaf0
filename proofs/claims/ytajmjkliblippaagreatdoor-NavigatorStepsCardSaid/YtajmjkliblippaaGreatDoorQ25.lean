/-
  Walks and laws of the layers below, gathered from several texts.
-/
import Derived.Test.YtajmjkliblippaaGreatDoorQ12
import Derived.Test.YtajmjkliblippaaGreatDoorQ19
import Derived.Test.YtajmjkliblippaaGreatDoorQ23
import Derived.Test.YtajmjkliblippaaGreatDoorQ24
set_option linter.unusedVariables false
namespace Go.Proofs.YtajmjkliblippaaGreatDoor
open Go.RowKit
def exW (l:List Ms) (k:Int):Ex:=⟨solX (woL l k),solY (woL l k),noiX (woL l k),noiY (woL l k),detN (woL l k)⟩
def rowsL (l:List Ms) (ks:List Int):List Ex:=ks.map (exW l)
theorem rows_len (l:List Ms) (ks:List Int):(rowsL l ks).length = ks.length:=List.length_map ..
theorem take_int {ks:List Int} {k:Nat} (h:k < ks.length):ks.take (k + 1) = ks.take k ++ [ks.getD k 0]:=by
 rw [List.take_add_one,List.getD_eq_getElem?_getD,List.getElem?_eq_getElem h]
 rfl
theorem rows_succ (l:List Ms) {ks:List Int} {k:Nat} (h:k < ks.length):rowsL l (ks.take (k + 1)) = rowsL l (ks.take k) ++ [exW l (ks.getD k 0)]:=by
 unfold rowsL
 rw [take_int h,List.map_append]
 rfl
theorem rows_nth (l:List Ms) {ks:List Int} {k:Nat} (h:k < ks.length):nthE (rowsL l ks) k = exW l (ks.getD k 0):=by
 rw [nthE_eq (by rw [rows_len]; exact h)]
 unfold rowsL
 rw [List.getElem_map,List.getD_eq_getElem?_getD,List.getElem?_eq_getElem h]
 rfl
def LvR1 (l:List Ms) (K:List Int) (W:World) (u s:Value) (wr:World):Prop:=∃ k:Nat,s = .int .i64 k∧k≤K.length∧Hid (Below W.heap.size W wr)∧Hid (OE W.heap.size wr u (rowsL l (K.take k)))∧Hid (∀ i,i < k→detN (woL l (K.getD i 0))≠0)
def mxF (l:List Ms) (cx cy:Int) (k:Int):Int:=(reachF cx cy (woL l k)).1.1
def myF (l:List Ms) (cx cy:Int) (k:Int):Int:=(reachF cx cy (woL l k)).1.2
def LvR2 (l:List Ms) (K:List Int) (cx cy:Int) (bb:Nat) (W:World) (s:Value) (wr:World):Prop:=∃ k:Nat,s = .int .i64 k∧k≤K.length∧Hid (Below bb W wr)∧Hid (Blk [.int .i64 cx,.int .i64 cy,.int .i64 (maxF (mxF l cx cy) (K.take k)),.int .i64 (maxF (myF l cx cy) (K.take k))] bb wr)∧Hid (∀ i,i < k→(reachF cx cy (woL l (K.getD i 0))).2 = 0)
theorem chk_wo {l:List Ms} (h:chkL l = 0) (k:Int):chkL (woL l k) = 0:=by
 have o:=(okL_of h).wo k
 exact chkL_of o.len o.ok
theorem getD_mem {K:List Int} {i:Nat} (h:i < K.length):K.getD i 0 ∈ K:=by
 rw [List.getD_eq_getElem?_getD,List.getElem?_eq_getElem h]
 exact List.getElem_mem h
theorem mem_getD {K:List Int} {x:Int} (h:x ∈ K):∃ i,i < K.length∧K.getD i 0 = x:=by
 obtain ⟨i,hi,e⟩:=List.getElem_of_mem h
 exact ⟨i,hi,by rw [List.getD_eq_getElem?_getD,List.getElem?_eq_getElem hi]; exact e⟩
theorem blk_keep {vs:List Value} {b B:Nat} {W w':World} (h:Blk vs b W) (hb:Below B W w') (hB:b < B):Blk vs b w':=
 ⟨Nat.lt_of_lt_of_le h.lt hb.size,fun i v e=>(hb.cell (p:=⟨b,i,none⟩) hB).trans (h.c i v e),fun i v e=>(hb.frozen (p:=⟨b,i,none⟩) hB).trans (h.f i v e)⟩
theorem ex_keep {l:List Ex} {g B:Nat} {w w':World} (h:ExAt l g w) (hb:Below B w w') (hB:g < B):ExAt l g w':=
 ⟨Nat.lt_of_lt_of_le h.lt hb.size,fun i hi=>(hb.cell (p:=⟨g,i * 9,none⟩) hB).trans (h.c0 i hi),fun i hi=>(hb.cell (p:=⟨g,i * 9 + 1,none⟩) hB).trans (h.c1 i hi),fun i hi=>(hb.cell (p:=⟨g,i * 9 + 2,none⟩) hB).trans (h.c2 i hi),fun i hi=>(hb.cell (p:=⟨g,i * 9 + 3,none⟩) hB).trans (h.c3 i hi),fun i hi=>(hb.cell (p:=⟨g,i * 9 + 4,none⟩) hB).trans (h.c4 i hi),fun i hi=>(hb.cell (p:=⟨g,i * 9 + 5,none⟩) hB).trans (h.c5 i hi),fun i hi=>(hb.cell (p:=⟨g,i * 9 + 6,none⟩) hB).trans (h.c6 i hi),fun i hi=>(hb.cell (p:=⟨g,i * 9 + 7,none⟩) hB).trans (h.c7 i hi),fun i hi=>(hb.cell (p:=⟨g,i * 9 + 8,none⟩) hB).trans (h.c8 i hi)⟩
theorem lev_rank {l:List Ms} (hs:solE l = 0) {k:Int} (h:k ∈ srcL l) (hd:detN (woL l k) = 0):levF l = (box0,14):=by
 unfold levF
 rw [if_pos hs,if_pos]
 exact List.any_eq_true.2 ⟨k,h,by unfold rankB; exact decide_eq_true hd⟩
theorem lev_wide {l:List Ms} (hs:solE l = 0) (hr:∀ i,i < (srcL l).length→detN (woL l ((srcL l).getD i 0))≠0) {k:Int} (h:k ∈ srcL l) (hw:(reachF (cenX l) (cenY l) (woL l k)).2≠0):levF l = (box0,2):=by
 unfold levF
 rw [if_pos hs,if_neg,if_pos]
 ·exact List.any_eq_true.2 ⟨k,h,by unfold wideB; exact decide_eq_true hw⟩
 ·intro q
  obtain ⟨z,hz,e⟩:=List.any_eq_true.1 q
  obtain ⟨i,hi,rfl⟩:=mem_getD hz
  exact hr i hi (of_decide_eq_true e)
theorem lev_good {l:List Ms} (hs:solE l = 0) (hr:∀ i,i < (srcL l).length→detN (woL l ((srcL l).getD i 0))≠0) (hw:∀ i,i < (srcL l).length→(reachF (cenX l) (cenY l) (woL l ((srcL l).getD i 0))).2 = 0) :
 levF l = (⟨cenX l,cenY l,maxF (mxF l (cenX l) (cenY l)) (srcL l),maxF (myF l (cenX l) (cenY l)) (srcL l)⟩,0):=by
 refine lev_val ⟨hs,fun k hk=>?_,fun k hk=>?_⟩
 ·obtain ⟨i,hi,rfl⟩:=mem_getD hk
  exact hr i hi
 ·obtain ⟨i,hi,rfl⟩:=mem_getD hk
  exact hw i hi
set_option maxHeartbeats 40000000
set_option maxRecDepth 100000
theorem lev_any (l:List Ms) (v:Value) (w:World) (h:LstAt l v w) :
 Calls Tryz.prog 61 #[v] w fun e w'=>e = .returned (.tuple #[boxV (levF l).1,.int .i64 (levF l).2])∧Below w.heap.size w w':=by
 obtain ⟨p,cap,rfl⟩:=lst_form h
 by_cases hs:solE l = 0
 ·obtain ⟨hc,hd,hx,hy⟩:=sol_chk hs
  have SO:=Lib.hid fun w h=>sol_ok l (.slice p l.length cap) w h hs
  have L18:=Lib.hid (show l.length≤18 by have:=(okL_of hc).len; omega)
  have SR:=Lib.hid fun w h=>src_any l (.slice p l.length cap) w h L18.out
  have HC:=Lib.hid hc
  have EV1:=Lib.hid fun k (h:k ∈ srcL l) hd=>lev_rank hs h hd
  have EV2:=Lib.hid fun hr k (h:k ∈ srcL l) hw=>lev_wide hs hr h hw
  have EV3:=Lib.hid fun hr hw=>lev_good hs hr hw
  have RE:=Lib.hid fun k (hd:detN (woL l k)≠0) w=>reachL_any ((okL_of hc).wo k) (det_pos (chk_wo hc k) hd) hx hy w
  have KM:=Lib.hid fun k (h:k < (srcL l).length)=>getD_mem h
  have KL:=Lib.hid (show (srcL l).length≤18 from Nat.le_trans (src_len l) L18.out)
  clear hs hc hd hx hy
  generalize solX l = X at *
  generalize solY l = Y at *
  generalize detN l = T at *
  generalize cenX l = cx at *
  generalize cenY l = cy at *
  obtain ⟨K,hK⟩:∃ x,srcL l = x:=⟨_,rfl⟩
  rw [hK] at SR KM EV1 EV2 EV3 KL
  clear hK
  have H0:=Lib.hid h
  obtain ⟨KZ,HB⟩:=ent1 w #[.int .i64 0,.int .i64 0,.int .i64 0,.int .i64 0] 25
  go_enter Tryz.func61,Tryz.ntmps61
  clear h
  go_wp2_with fail
  generalize w.alloc _ = w0 at *
  refine (SO.out _ (H0.out.below HB.out)).mono ?_
  rintro e1 w1 ⟨rfl,hb1⟩
  replace HB:=hT HB hb1
  replace KZ:=hK KZ hb1
  clear hb1
  go_wp2_with fail
  obtain ⟨KS,hb2⟩:=alB w1 #[.int .i64 (hiW X),.int .u64 (loW X),.int .i64 (hiW Y),.int .u64 (loW Y),.int .i64 T,.int .i64 cx,.int .i64 cy] 114
  have hnS:=HB.out.size
  have nzS_Z:=KZ.out.lt
  replace HB:=hT HB hb2
  replace KZ:=hK KZ hb2
  clear hb2
  generalize w1.alloc _ = w2 at *
  generalize w1.heap.size = bS at *
  have neS_Z:bS≠w.heap.size:=by omega
  clear nzS_Z
  refine (SR.out _ (H0.out.below HB.out)).mono ?_
  rintro e9 w9 ⟨⟨us,rfl,hoi⟩,hb9⟩
  refine up2 hb9 HB KZ KS ?_
  clear hb9 HB KZ KS
  intro HB KZ KS
  obtain ⟨ps,caps,rfl,IK⟩:∃ ps caps,us = .slice ps K.length caps∧Hid (∀ k,k < K.length→∃ g,ps = some ⟨g,0,none⟩∧K.length≤caps∧caps≤9223372036854775807∧IntsAt K g w9):=by
   rcases oi_cases hoi with ⟨rfl,e⟩ | ⟨g,cap',rfl,q1,q2,_,q4⟩
   ·exact ⟨none,0,by rw [e]; rfl,Lib.hid fun k hk=>absurd hk (by rw [e]; simp)⟩
   ·exact ⟨_,cap',rfl,Lib.hid fun k hk=>⟨g,rfl,q1,q2,q4⟩⟩
  clear hoi
  have HL9:=Lib.hid (H0.out.below HB.out)
  have hnS9:=HB.out.size
  go_wp2
  go_loopw [6,28] (LvR1 l K w9) (fun _ i _=>K.length - (intOf i).toNat)
  case atStart=>exact ⟨0,rfl,Nat.zero_le _,Lib.hid (Below.refl _ _),Lib.hid (World.ownsRow_nil _ _ _ _),Lib.hid fun i hi=>absurd hi (by omega)⟩
  case round =>
   obtain ⟨k,rfl,hk,HBR,HO,HR⟩:=hrel
   by_cases q:k < K.length
   ·replace KZ:=Lib.hid (KZ.out.below HBR.out)
    replace KS:=Lib.hid (KS.out.below HBR.out)
    replace HB:=Lib.hid (HB.out.trans (HBR.out.mono HB.out.size))
    have q':decide (k < K.length) = true:=by simpa using q
    obtain ⟨gk,rfl,hk1,hk2,IA⟩:=IK.out k q
    have ck:=(IA.below HBR.out).c k q
    have ckz:=(IA.below HBR.out).lt
    clear IA
    have RS:=Lib.hid (rows_succ l q)
    have MK:=Lib.hid (KM.out k q)
    have RL:=Lib.hid (show (rowsL l (K.take k)).length≤100000 by rw [rows_len,List.length_take]; have:=KL.out; omega)
    have WO:=Lib.hid fun w h=>wo_any l (K.getD k 0) (.slice p l.length cap) w h L18.out
    have SV:=Lib.hid fun v w h=>solve_any (woL l (K.getD k 0)) v w h (chk_wo HC.out _)
    have ER:=Lib.hid fun hd=>EV1.out _ (KM.out k q) hd
    have EX:=Lib.hid (show exW l (K.getD k 0) = ⟨solX (woL l (K.getD k 0)),solY (woL l (K.getD k 0)),noiX (woL l (K.getD k 0)),noiY (woL l (K.getD k 0)),detN (woL l (K.getD k 0))⟩ from rfl)
    have HRD:=Lib.hid fun (h:detN (woL l (K.getD k 0))≠0) i (hi:i < k + 1)=>show detN (woL l (K.getD i 0))≠0 from by rcases Nat.lt_or_ge i k with a | a; exact HR.out i a; rw [show i = k by omega]; exact h
    have OL:=Lib.hid (World.ownsRow.lt HO.out)
    have HO2:=Lib.hid (show OE w9.heap.size wr u6 (rowsL l (K.take k)) from HO.out)
    generalize exW l (K.getD k 0) = ex at *
    generalize hkk:K.getD k 0 = kk at *
    clear hkk
    have WE:=Lib.hid (rfl:woL l kk = woL l kk)
    generalize woL l kk = lw at *
    clear WE
    go_wp2_with fail
    refine (WO.out _ (HL9.out.below HBR.out)).mono ?_
    rintro e21 w21 ⟨⟨uw,rfl,how⟩,hb21⟩
    have HW:=Lib.hid (OM.lst how)
    have HBW:=Lib.hid (HBR.out.trans (hb21.mono HBR.out.size))
    have HO3:=Lib.hid (HO2.out.below hb21)
    refine up2 hb21 HB KZ KS ?_
    clear hb21 HB KZ KS
    intro HB KZ KS
    clear how ck ckz
    go_wp2_with fail
    refine (SV.out _ _ HW.out).mono ?_
    rintro e22 w22 ⟨rfl,hb22⟩
    replace HBW:=hT HBW hb22
    replace HO3:=Lib.hid (HO3.out.below hb22)
    refine up2 hb22 HB KZ KS ?_
    clear hb22 HB KZ KS
    intro HB KZ KS
    obtain ⟨x,y,u,v,t⟩:=ex
    have EX1:=EX.out
    injection EX1 with ex1 ex2 ex3 ex4 ex5
    rw [← ex5] at ER HRD
    rw [← ex1,← ex2,← ex3,← ex4,← ex5]
    clear ex1 ex2 ex3 ex4 ex5
    clear EX
    by_cases hd:t = 0
    ·have g:(t == 0) = true:=by simpa using hd
     have HV:=Lib.hid (ER.out hd)
     clear hd
     obtain ⟨yZ0,yZ1,yZ2,yZ3,yZz,yZf0,yZf1,yZf2,yZf3⟩:=blf4 KZ
     go_wp2
     replace KZ:=kst (kst (kst (kst KZ 0 (.int .i64 0)) 1 (.int .i64 0)) 2 (.int .i64 0)) 3 (.int .i64 0)
     refine ot1 (st4 w22 w.heap.size 0 (.int .i64 0) 1 (.int .i64 0) 2 (.int .i64 0) 3 (.int .i64 0)) HB KS (by omega) (by omega) ?_
     clear HB KS
     intro HB KS
     clear yZ0 yZ1 yZ2 yZ3 yZz yZf0 yZf1 yZf2 yZf3
     generalize (((w22.setCell _ _).setCell _ _).setCell _ _).setCell _ _ = w23 at *
     simp only [List.set] at KZ
     obtain ⟨KE,hb24⟩:=alB w23 #[.int .i64 (hiW x),.int .u64 (loW x),.int .i64 (hiW y),.int .u64 (loW y),.int .i64 (hiW u),.int .u64 (loW u),.int .i64 (hiW v),.int .u64 (loW v),.int .i64 t] 119
     have hnE:=HB.out.size
     have nzE_Z:=KZ.out.lt
     have nzE_S:=KS.out.lt
     refine up2 hb24 HB KZ KS ?_
     clear hb24 HB KZ KS
     intro HB KZ KS
     generalize w23.alloc _ = w24 at *
     generalize w23.heap.size = bE at *
     have neE_Z:bE≠w.heap.size:=by omega
     have neE_S:bE≠bS:=by omega
     clear nzE_Z nzE_S
     obtain ⟨yZ0,yZ1,yZ2,yZ3,yZz⟩:=blk4 KZ
     refine bodyPost_ret (v:=.tuple #[.agg #[.int .i64 0,.int .i64 0,.int .i64 0,.int .i64 0],.int .i64 14]) (by simp [results,Tryz.results61,go_sem,yZ0,yZ1,yZ2,yZ3]) rfl ⟨by rw [HV.out]; rfl,HB.out⟩
    ·have g:(t == 0) = false:=by simpa using hd
     have HRD2:=Lib.hid (HRD.out hd)
     clear hd
     have HA:=Lib.hid ((Below.refl w22.heap.size w22).alloc (Nat.le_refl _) (.cells #[.int .i64 (hiW x),.int .u64 (loW x),.int .i64 (hiW y),.int .u64 (loW y),.int .i64 (hiW u),.int .u64 (loW u),.int .i64 (hiW v),.int .u64 (loW v),.int .i64 t] 119))
     have HS9:=Lib.hid (show w9.heap.size≤w22.heap.size from HBW.out.size)
     go_wp2_with (at_builtin; refine Halt.mk ?_)
     unfold Halt
     refine wpList_oe rfl (.tmp 40) (.tmp 42) rfl w9.heap.size u6 (rowsL l (K.take k)) rfl (w22.alloc (.cells #[.int .i64 (hiW x),.int .u64 (loW x),.int .i64 (hiW y),.int .u64 (loW y),.int .i64 (hiW u),.int .u64 (loW u),.int .i64 (hiW v),.int .u64 (loW v),.int .i64 t] 119)) (HO3.out.below HA.out) _ ⟨x,y,u,v,t⟩ 1 (by rw [World.size_alloc]; rfl) RL.out (by have:=HS9.out; simp; omega) ?_
     intro u2 w5 ho5 hg5 hat5
     have HO5:Hid (OE w9.heap.size w5 u2 (rowsL l (K.take (k + 1)))):=Lib.hid (by rw [RS.out]; exact ho5)
     have HB5:Hid (Below w9.heap.size w9 w5):=Lib.hid (below_grown ((HBW.out.trans (HA.out.mono HS9.out)).alloc (by simp; have:=HS9.out; omega) _) hg5 (by simp; have:=HS9.out; omega) (fun k hk=>(OL.out k hk).1))
     clear hg5 hat5
     obtain ⟨g5,cap5,hu2⟩:=Go.Joins.ownsRow_form ho5 (show 0 < (rowsL l (K.take k) ++ [(⟨x,y,u,v,t⟩:Ex)]).length by rw [List.length_append,List.length_singleton]; omega)
     obtain ⟨N5,hN5⟩:∃ N,(rowsL l (K.take k) ++ [(⟨x,y,u,v,t⟩:Ex)]).length = N:=⟨_,rfl⟩
     rw [hN5] at hu2
     clear ho5 hN5
     subst hu2
     go_wp2
     exact ⟨⟨k + 1,by go_num,by omega,HB5,HO5,HRD2⟩,by simp [intOf]; omega⟩
   ·obtain rfl:k = K.length:=by omega
    rw [List.take_length] at HO
    replace KZ:=Lib.hid (KZ.out.below HBR.out)
    replace KS:=Lib.hid (KS.out.below HBR.out)
    replace HB:=Lib.hid (HB.out.trans (HBR.out.mono HB.out.size))
    obtain ⟨pe,cape,hpe⟩:=oe_form HO.out
    subst hpe
    rw [rows_len] at HO
    have EA:=Lib.hid fun k (q:k < K.length)=>oe_at (p:=pe) (cap:=cape) (l:=rowsL l K) (by rw [rows_len]; exact HO.out) (k:=k) (by rw [rows_len]; exact q)
    simp only [rows_len] at *
    clear HO hk q HL9 IK
    have EA2:Hid (∀ k,k < K.length→∃ g,pe = some ⟨g,0,none⟩∧K.length≤cape∧cape≤9223372036854775807∧g < wr.heap.size∧ExAt (rowsL l K) g (wr.alloc (.cells #[.int .i64 cx,.int .i64 cy,.int .i64 0,.int .i64 0] 25))):=Lib.hid fun k q=>by
     obtain ⟨g,a1,a2,a3,a4⟩:=EA.out k q
     exact ⟨g,a1,a2,a3,a4.lt,a4.below ((Below.refl _ _).alloc (Nat.le_refl _) _)⟩
    clear EA HBR
    obtain ⟨yS0,yS1,yS2,yS3,yS4,yS5,yS6,ySz⟩:=blk7 KS
    go_wp2
    obtain ⟨KB,hb31⟩:=alB wr #[.int .i64 cx,.int .i64 cy,.int .i64 0,.int .i64 0] 25
    have hnB:=HB.out.size
    have nzB_Z:=KZ.out.lt
    have nzB_S:=KS.out.lt
    refine up2 hb31 HB KZ KS ?_
    clear hb31 yS0 yS1 yS2 yS3 yS4 yS5 yS6 ySz HB KZ KS
    intro HB KZ KS
    generalize wr.alloc _ = w31 at *
    generalize wr.heap.size = bB at *
    have neB_Z:bB≠w.heap.size:=by omega
    have neB_S:bB≠bS:=by omega
    have HZ0:=KZ
    have HS0:=KS
    have HB00:=HB
    have h31:=Nat.le_of_lt KB.out.lt
    go_loopw [50] (LvR2 l K cx cy bB w31) (fun i _=>K.length - (intOf i).toNat)
    case atStart=>exact ⟨0,rfl,Nat.zero_le _,Lib.hid (Below.refl _ _),KB,Lib.hid fun i hi=>absurd hi (by omega)⟩
    case round =>
     clear KB KZ KS HB
     obtain ⟨k,rfl,hk,HBR,KB,HW⟩:=hrel
     have KZ:=Lib.hid (blk_keep HZ0.out HBR.out nzB_Z)
     have KS:=Lib.hid (blk_keep HS0.out HBR.out nzB_S)
     have HB:=Lib.hid (HB00.out.trans (HBR.out.mono hnB))
     by_cases q:k < K.length
     ·have q':decide (k < K.length) = true:=by simpa using q
      obtain ⟨gk,rfl,hk1,hk2,glt,EAT⟩:=EA2.out k q
      have EAW:=ex_keep EAT HBR.out glt
      have c0:=EAW.c0 k (by rw [rows_len]; exact q)
      rw [rows_nth l q] at c0
      have c1:=EAW.c1 k (by rw [rows_len]; exact q)
      rw [rows_nth l q] at c1
      have c2:=EAW.c2 k (by rw [rows_len]; exact q)
      rw [rows_nth l q] at c2
      have c3:=EAW.c3 k (by rw [rows_len]; exact q)
      rw [rows_nth l q] at c3
      have c4:=EAW.c4 k (by rw [rows_len]; exact q)
      rw [rows_nth l q] at c4
      have c5:=EAW.c5 k (by rw [rows_len]; exact q)
      rw [rows_nth l q] at c5
      have c6:=EAW.c6 k (by rw [rows_len]; exact q)
      rw [rows_nth l q] at c6
      have c7:=EAW.c7 k (by rw [rows_len]; exact q)
      rw [rows_nth l q] at c7
      have c8:=EAW.c8 k (by rw [rows_len]; exact q)
      rw [rows_nth l q] at c8
      have clt:=EAW.lt
      clear EAT EAW
      have MX:=Lib.hid (show maxF (mxF l cx cy) (K.take (k + 1)) = max (maxF (mxF l cx cy) (K.take k)) (reachF cx cy (woL l (K.getD k 0))).1.1 by rw [take_int q,max_snoc]; rfl)
      have MY:=Lib.hid (show maxF (myF l cx cy) (K.take (k + 1)) = max (maxF (myF l cx cy) (K.take k)) (reachF cx cy (woL l (K.getD k 0))).1.2 by rw [take_int q,max_snoc]; rfl)
      have RE2:=Lib.hid fun w=>RE.out (K.getD k 0) (HR.out k q) w
      have ER:=Lib.hid fun hw=>EV2.out HR.out (K.getD k 0) (KM.out k q) hw
      have RB:=reach_bad cx cy (woL l (K.getD k 0))
      have HWN:=Lib.hid fun (h:(reachF cx cy (woL l (K.getD k 0))).2 = 0) i (hi:i < k + 1)=>show (reachF cx cy (woL l (K.getD i 0))).2 = 0 from by rcases Nat.lt_or_ge i k with a | a; exact HW.out i a; rw [show i = k by omega]; exact h
      generalize maxF (mxF l cx cy) (K.take k) = m1 at *
      generalize maxF (myF l cx cy) (K.take k) = m2 at *
      have EX:exW l (K.getD k 0) = ⟨solX (woL l (K.getD k 0)),solY (woL l (K.getD k 0)),noiX (woL l (K.getD k 0)),noiY (woL l (K.getD k 0)),detN (woL l (K.getD k 0))⟩:=rfl
      generalize exW l (K.getD k 0) = ex at *
      generalize woL l (K.getD k 0) = lw at *
      obtain ⟨x,y,u,v,t⟩:=ex
      injection EX with ex1 ex2 ex3 ex4 ex5
      rw [← ex1,← ex2,← ex3,← ex4,← ex5] at RE2
      simp only at c0 c1 c2 c3 c4 c5 c6 c7 c8
      clear ex1 ex2 ex3 ex4 ex5
      obtain ⟨R,hR⟩:∃ z,reachF cx cy lw = z:=⟨_,rfl⟩
      rw [hR] at RE2 ER RB HWN MX MY
      clear hR
      obtain ⟨yS0,yS1,yS2,yS3,yS4,yS5,yS6,ySz⟩:=blk7 KS
      go_wp2_with fail
      obtain ⟨KC,hb51⟩:=alB wr #[.int .i64 (hiW x),.int .u64 (loW x),.int .i64 (hiW y),.int .u64 (loW y),.int .i64 (hiW u),.int .u64 (loW u),.int .i64 (hiW v),.int .u64 (loW v),.int .i64 t] 119
      have hnC:=HB.out.size
      have nzC_Z:=KZ.out.lt
      have nzC_S:=KS.out.lt
      have nzC_B:=KB.out.lt
      refine up3 hb51 HB KZ KS KB ?_
      clear HB KZ KS KB
      intro HB KZ KS KB
      replace HBR:=Lib.hid (HBR.out.trans (hb51.mono (Nat.le_trans h31 HBR.out.size)))
      clear yS0 yS1 yS2 yS3 yS4 yS5 yS6 ySz
      clear hb51
      generalize wr.alloc _ = w51 at *
      generalize wr.heap.size = bC at *
      have neC_Z:bC≠w.heap.size:=by omega
      have neC_S:bC≠bS:=by omega
      have neC_B:bC≠bB:=by omega
      clear nzC_Z nzC_S nzC_B
      clear c0 c1 c2 c3 c4 c5 c6 c7 c8 clt
      refine (RE2.out _).mono ?_
      rintro e52 w52 ⟨rfl,hb52⟩
      refine up4 hb52 HB KZ KS KB KC ?_
      clear HB KZ KS KB KC
      intro HB KZ KS KB KC
      replace HBR:=Lib.hid (HBR.out.trans (hb52.mono (Nat.le_trans h31 HBR.out.size)))
      clear hb52
      clear RE2
      rcases RB with RB | rfl
      ·obtain ⟨⟨rx,ry⟩,re⟩:=R
       simp only at RB
       subst RB
       have HWN2:=Lib.hid (HWN.out rfl)
       have MX2:=Lib.hid MX.out
       have MY2:=Lib.hid MY.out
       clear ER HWN MX MY
       obtain ⟨yB0,yB1,yB2,yB3,yBz,yBf0,yBf1,yBf2,yBf3⟩:=blf4 KB
       go_wp2
       have hs:=st2 w52 bB 2 (.int .i64 (max m1 rx)) 3 (.int .i64 (max m2 ry))
       replace KZ:=oB hs KZ (by omega)
       replace KS:=oB hs KS (by omega)
       replace KB:=kst (kst KB 2 (.int .i64 (max m1 rx))) 3 (.int .i64 (max m2 ry))
       replace KC:=oB hs KC (by omega)
       replace HB:=oH hs HB (by omega)
       replace HBR:=oH hs HBR (Nat.le_refl _)
       clear hs
       clear yB0 yB1 yB2 yB3 yBz yBf0 yBf1 yBf2 yBf3
       generalize (w52.setCell _ _).setCell _ _ = w53 at *
       simp only [List.set] at KB
       exact ⟨⟨k + 1,by go_num,by omega,HBR,by rw [MX2.out,MY2.out]; exact KB,HWN2⟩,by simp [intOf]; omega⟩
      ·have HV:=Lib.hid (ER.out (by simp))
       clear ER HWN MX MY
       obtain ⟨yZ0,yZ1,yZ2,yZ3,yZz,yZf0,yZf1,yZf2,yZf3⟩:=blf4 KZ
       go_wp2
       replace KZ:=kst (kst (kst (kst KZ 0 (.int .i64 0)) 1 (.int .i64 0)) 2 (.int .i64 0)) 3 (.int .i64 0)
       refine ot3 (st4 w52 w.heap.size 0 (.int .i64 0) 1 (.int .i64 0) 2 (.int .i64 0) 3 (.int .i64 0)) HB KS KB KC (by omega) (by omega) (by omega) (by omega) ?_
       clear HB KS KB KC
       intro HB KS KB KC
       clear yZ0 yZ1 yZ2 yZ3 yZz yZf0 yZf1 yZf2 yZf3
       generalize (((w52.setCell _ _).setCell _ _).setCell _ _).setCell _ _ = w53 at *
       simp only [List.set] at KZ
       obtain ⟨yZ0,yZ1,yZ2,yZ3,yZz⟩:=blk4 KZ
       refine bodyPost_ret (v:=.tuple #[.agg #[.int .i64 0,.int .i64 0,.int .i64 0,.int .i64 0],.int .i64 2]) (by simp [results,Tryz.results61,go_sem,yZ0,yZ1,yZ2,yZ3]) rfl ⟨by rw [HV.out]; rfl,HB.out⟩
     ·obtain rfl:k = K.length:=by omega
      rw [List.take_length] at KB
      have HV:=Lib.hid (EV3.out HR.out HW.out)
      generalize maxF (mxF l cx cy) K = m1 at *
      generalize maxF (myF l cx cy) K = m2 at *
      obtain ⟨yZ0,yZ1,yZ2,yZ3,yZz,yZf0,yZf1,yZf2,yZf3⟩:=blf4 KZ
      obtain ⟨yB0,yB1,yB2,yB3,yBz⟩:=blk4 KB
      go_wp2
      replace KZ:=kst (kst (kst (kst KZ 0 (.int .i64 cx)) 1 (.int .i64 cy)) 2 (.int .i64 m1)) 3 (.int .i64 m2)
      refine ot2 (st4 wr w.heap.size 0 (.int .i64 cx) 1 (.int .i64 cy) 2 (.int .i64 m1) 3 (.int .i64 m2)) HB KS KB (by omega) (by omega) (by omega) ?_
      clear HB KS KB
      intro HB KS KB
      clear yZ0 yZ1 yZ2 yZ3 yZz yZf0 yZf1 yZf2 yZf3 yB0 yB1 yB2 yB3 yBz
      generalize (((wr.setCell _ _).setCell _ _).setCell _ _).setCell _ _ = w51 at *
      simp only [List.set] at KZ
      obtain ⟨yZ0,yZ1,yZ2,yZ3,yZz⟩:=blk4 KZ
      refine bodyPost_ret (v:=.tuple #[.agg #[.int .i64 cx,.int .i64 cy,.int .i64 m1,.int .i64 m2],.int .i64 0]) (by simp [results,Tryz.results61,go_sem,yZ0,yZ1,yZ2,yZ3]) rfl ⟨by rw [HV.out]; rfl,HB.out⟩
 ·have SO:=Lib.hid fun w h=>sol_bad l (.slice p l.length cap) w h hs
  have HV:Hid (levF l = (box0,solE l)):=Lib.hid (by unfold levF; rw [if_neg hs])
  have g:(solE l != 0) = true:=by simpa using hs
  have g':(solE l == 0) = false:=by simpa using hs
  clear hs
  generalize solE l = c at *
  have H0:=Lib.hid h
  obtain ⟨KZ,HB⟩:=ent1 w #[.int .i64 0,.int .i64 0,.int .i64 0,.int .i64 0] 25
  go_enter Tryz.func61,Tryz.ntmps61
  clear h
  go_wp2_with fail
  generalize w.alloc _ = w0 at *
  refine (SO.out _ (H0.out.below HB.out)).mono ?_
  rintro e1 w1 ⟨rfl,hb1⟩
  replace HB:=hT HB hb1
  replace KZ:=hK KZ hb1
  clear hb1
  obtain ⟨yZ0,yZ1,yZ2,yZ3,yZz,yZf0,yZf1,yZf2,yZf3⟩:=blf4 KZ
  go_wp2
  have hs:=st4 w1 w.heap.size 0 (.int .i64 0) 1 (.int .i64 0) 2 (.int .i64 0) 3 (.int .i64 0)
  replace KZ:=kst (kst (kst (kst KZ 0 (.int .i64 0)) 1 (.int .i64 0)) 2 (.int .i64 0)) 3 (.int .i64 0)
  replace HB:=oH hs HB (by omega)
  clear hs
  clear yZ0 yZ1 yZ2 yZ3 yZz yZf0 yZf1 yZf2 yZf3
  generalize (((w1.setCell _ _).setCell _ _).setCell _ _).setCell _ _ = w2 at *
  simp only [List.set] at KZ
  obtain ⟨KS,hb3⟩:=alB w2 #[.int .i64 0,.int .u64 0,.int .i64 0,.int .u64 0,.int .i64 0,.int .i64 0,.int .i64 0] 114
  have hnS:=HB.out.size
  have nzS_Z:=KZ.out.lt
  replace HB:=hT HB hb3
  replace KZ:=hK KZ hb3
  clear hb3
  generalize w2.alloc _ = w3 at *
  generalize w2.heap.size = bS at *
  have neS_Z:bS≠w.heap.size:=by omega
  clear nzS_Z
  obtain ⟨yZ0,yZ1,yZ2,yZ3,yZz⟩:=blk4 KZ
  refine bodyPost_ret (v:=.tuple #[.agg #[.int .i64 0,.int .i64 0,.int .i64 0,.int .i64 0],.int .i64 c]) (by simp [results,Tryz.results61,go_sem,yZ0,yZ1,yZ2,yZ3]) rfl ⟨by rw [HV.out]; rfl,HB.out⟩
end Go.Proofs.YtajmjkliblippaaGreatDoor
namespace Go.Proofs.YtajmjkliblippaaGreatDoor
open Go.RowKit
def NwR (L:List Rp) (tk cx cy x y:Int) (W:World) (v5 v13:Value) (wr:World):Prop:=∃ k:Nat,v13 = .int .i64 k∧k≤L.length∧Hid (Below W.heap.size W wr)∧Hid (OM W.heap.size wr v5 (rowsT tk cx cy x y (L.take k)))
theorem below_om2 {B B':Nat} {w:World} {v:Value} {l:List Ms} (hB:B≤B') (h:OM B' w v l):OM B w v l:=by
 unfold OM World.ownsRow at *
 obtain ⟨h1,h2⟩:=h
 refine ⟨h1,?_⟩
 rcases h2 with h2 | ⟨g,cap,cur,e,hb,r⟩
 ·exact .inl h2
 ·exact .inr ⟨g,cap,cur,e,Nat.le_trans hB hb,r⟩
set_option maxHeartbeats 40000000
set_option maxRecDepth 100000
theorem nrows_any (L:List Rp) (v:Value) (tk ve vn dr rq cx cy x y:Int) (w:World) (h:RlG L v w) (hK:∀ i,i < L.length→0≤(nthR L i).k∧(nthR L i).k≤255) (hn:L.length≤20000) :
 Calls Tryz.prog 34 #[.agg #[.int .i64 tk,v,.int .i64 ve,.int .i64 vn,.int .i64 dr,.int .i64 rq],.agg #[.int .i64 cx,.int .i64 cy,.int .i64 x,.int .i64 y]] w fun e w'=>(∃ u,e = .returned u∧OM w.heap.size w' u (rowsT tk cx cy x y L))∧Below w.heap.size w w':=by
 have KK:=Lib.hid hK
 have HN:=Lib.hid hn
 clear hK hn
 obtain ⟨p,cap,rfl⟩:=rg_form h
 have H0:=Lib.hid h
 obtain ⟨KI,KB,HB⟩:=ent2 w #[.int .i64 tk,.slice p L.length cap,.int .i64 ve,.int .i64 vn,.int .i64 dr,.int .i64 rq] 38 #[.int .i64 cx,.int .i64 cy,.int .i64 x,.int .i64 y] 25
 go_enter Tryz.func34,Tryz.ntmps34
 clear h
 have KI1:=KI
 have KB1:=KB
 have HB1:=HB
 have hI1:=KI.out.lt
 have hB1:=KB.out.lt
 go_wp2
 have hz1:((w.alloc (.cells #[.int .i64 tk,.slice p L.length cap,.int .i64 ve,.int .i64 vn,.int .i64 dr,.int .i64 rq] 38)).alloc (.cells #[.int .i64 cx,.int .i64 cy,.int .i64 x,.int .i64 y] 25)).heap.size = w.heap.size + 1 + 1:=by simp
 generalize (w.alloc _).alloc _ = w1 at *
 have h11:=HB.out.size
 go_loopw [5,13] (NwR L tk cx cy x y w1) (fun _ i _=>L.length - (intOf i).toNat)
 case atStart=>exact ⟨0,rfl,Nat.zero_le _,Lib.hid (Below.refl _ _),Lib.hid (World.ownsRow_nil _ _ _ _)⟩
 case round =>
  clear KI KB HB
  obtain ⟨k,rfl,hk,HBR,HO⟩:=hrel
  have KI:=Lib.hid (blk_keep KI1.out HBR.out hI1)
  have KB:=Lib.hid (blk_keep KB1.out HBR.out hB1)
  have HB:=Lib.hid (HB1.out.trans (HBR.out.mono h11))
  by_cases q:k < L.length
  ·have q':decide (k < L.length) = true:=by simpa using q
   obtain ⟨b,o,rfl,hcap,hmax,RA⟩:=rg_at (H0.out.below HB.out) q
   have HR:=Lib.hid RA
   have c0:=RA.c0 k q
   have c1:=RA.c1 k q
   have c2:=RA.c2 k q
   have c3:=RA.c3 k q
   have c4:=RA.c4 k q
   have c5:=RA.c5 k q
   have c6:=RA.c6 k q
   have c7:=RA.c7 k q
   have clt:=RA.lt
   clear RA
   have hkk:=KK.out k q
   have SU:=Lib.hid (rowsT_succ tk cx cy x y q)
   have LN:=Lib.hid (show (rowsT tk cx cy x y (L.take k)).length≤50000 by have h1:=rowsT_len tk cx cy x y (L.take k); have h2:=List.length_take_le k L; have:=HN.out; omega)
   obtain ⟨rr,hrr⟩:∃ z,nthR L k = z:=⟨_,rfl⟩
   rw [hrr] at c0 c1 c2 c3 c4 c5 c6 c7 hkk SU
   clear hrr
   have RW:=Lib.hid fun w=>rowsN_any rr cx cy x y w hkk.1 hkk.2
   have N0:=Lib.hid fun h=>rowT_other (tk:=tk) (cx:=cx) (cy:=cy) (x:=x) (y:=y) (r:=rr) h
   have N1:=Lib.hid fun h=>rowT_bad (tk:=tk) (cx:=cx) (cy:=cy) (x:=x) (y:=y) (r:=rr) h
   have N2:=Lib.hid fun h=>rowT_good (tk:=tk) (cx:=cx) (cy:=cy) (x:=x) (y:=y) (r:=rr) h
   have RL:=Lib.hid (rowsN_len rr cx cy x y)
   have RG:=Lib.hid (rowsN_good (r:=rr) (cx:=cx) (cy:=cy) (bx:=x) (b2:=y))
   clear hkk
   generalize rowT tk cx cy x y rr = rt at *
   obtain ⟨R,hR⟩:∃ z,rowsN rr cx cy x y = z:=⟨_,rfl⟩
   rw [hR] at RW N1 N2 RL RG
   clear hR
   obtain ⟨pl,en⟩:=R
   simp only at RW N1 N2 RL RG
   go_upto_region 5 with (fail)
   obtain ⟨KG,hb21⟩:=alB wr #[.int .i64 rr.s,.int .u8 rr.k,.int .i64 rr.x,.int .i64 rr.y,.int .i64 rr.v,.int .i64 rr.b,.int .i64 rr.wt,.int .i64 rr.t] 49
   have hnG:=HB.out.size
   have nzG_I:=KI.out.lt
   have nzG_B:=KB.out.lt
   refine up2 hb21 HB KI KB ?_
   clear HB KI KB
   intro HB KI KB
   replace HO:=Lib.hid (HO.out.below hb21)
   replace HR:=Lib.hid (HR.out.below hb21)
   replace HBR:=Lib.hid (HBR.out.trans (hb21.mono (Nat.le_trans (Nat.le_refl w1.heap.size) HBR.out.size)))
   clear hb21
   generalize wr.alloc _ = w21 at *
   generalize wr.heap.size = bG at *
   have neG_I:bG≠w.heap.size:=by omega
   have neG_B:bG≠(w.heap.size + 1):=by omega
   clear nzG_I nzG_B
   clear c0 c1 c2 c3 c4 c5 c6 c7 clt
   by_cases ht:rr.t = tk
   ·have g:(rr.t != tk) = false:=by simpa using ht
    have N3:=Lib.hid (N2.out ht)
    clear N0 N2 ht
    obtain ⟨yI0,yI1,yI2,yI3,yI4,yI5,yIz⟩:=blk6 KI
    obtain ⟨yB0,yB1,yB2,yB3,yBz⟩:=blk4 KB
    obtain ⟨yG0,yG1,yG2,yG3,yG4,yG5,yG6,yG7,yGz⟩:=blk8 KG
    go_wp2_with fail
    refine (RW.out _).mono ?_
    rintro e22 w22 ⟨ur,rfl,hrn,hb22⟩
    refine up3 hb22 HB KI KB KG ?_
    clear HB KI KB KG
    intro HB KI KB KG
    replace HO:=Lib.hid (HO.out.below hb22)
    replace HR:=Lib.hid (HR.out.below hb22)
    replace HBR:=Lib.hid (HBR.out.trans (hb22.mono (Nat.le_trans (Nat.le_refl w1.heap.size) HBR.out.size)))
    clear yI0 yI1 yI2 yI3 yI4 yI5 yIz yB0 yB1 yB2 yB3 yBz yG0 yG1 yG2 yG3 yG4 yG5 yG6 yG7 yGz
    clear hb22
    clear RW
    by_cases he:en = 0
    ·subst he
     have hne:=RG.out (by first | rfl | trivial)
     obtain ⟨kk,hur,hk2⟩:∃ kk:Nat,ur = .slice (some ⟨kk,0,none⟩) pl.length pl.length∧w22.heap[kk]? = some (.cells (msC pl).toArray 71):=by
      rcases hrn with ⟨e,_⟩ | ⟨kk,_,e,_,h2⟩
      ·exact absurd e hne
      ·exact ⟨kk,e,h2⟩
     subst hur
     clear hrn RG
     have HK2:=Lib.hid hk2
     clear hk2
     have OL:=Lib.hid (World.ownsRow.lt HO.out)
     go_wp2_with (at_builtin; refine Halt.mk ?_)
     unfold Halt
     refine wpList_oml rfl (.tmp 30) (.tmp 31) rfl w1.heap.size u5 (rowsT tk cx cy x y (L.take k)) rfl w22 HO.out kk pl rfl HK2.out (by have:=LN.out; have:=RL.out; omega) HBR.out.size ?_
     intro u2 w5 ho5 hg5 hat5
     clear hat5 HK2
     have HBR5:=Lib.hid (below_grown HBR.out hg5 HBR.out.size fun k hk=>(OL.out k hk).1)
     have HB5:=Lib.hid (below_grown HB.out hg5 HB.out.size fun k hk=>Nat.le_trans h11 (OL.out k hk).1)
     clear hg5
     obtain ⟨g5,cap5,hu2⟩:=Go.Joins.ownsRow_form ho5 (show 0 < (rowsT tk cx cy x y (L.take k) ++ pl).length by rw [List.length_append]; have:=List.length_pos_iff.2 hne; omega)
     rw [← N3.out] at ho5 hu2
     rw [← SU.out] at ho5 hu2
     have HO6:=Lib.hid ho5
     obtain ⟨N5,hN5⟩:∃ N,(rowsT tk cx cy x y (L.take (k + 1))).length = N:=⟨_,rfl⟩
     rw [hN5] at hu2
     clear ho5 hN5
     subst hu2
     clear HO OL hne LN RL SU N1 N3 KG hnG neG_I neG_B HBR HB
     have HBR:=HBR5
     go_wp2
     exact ⟨⟨k + 1,by go_num,by omega,HBR,HO6⟩,by simp [intOf]; omega⟩
    ·have ge:(en == 0) = false:=by simpa using he
     have HO6:=Lib.hid (show OM w1.heap.size w22 u5 (rowsT tk cx cy x y (L.take (k + 1))) from by rw [SU.out,N1.out he,List.append_nil]; exact HO.out)
     clear HO SU N1 N3 RG RL LN
     clear he hrn
     go_wp2
     exact ⟨⟨k + 1,by go_num,by omega,HBR,HO6⟩,by simp [intOf]; omega⟩
   ·have g:(rr.t != tk) = true:=by simpa using ht
    have HO6:=Lib.hid (show OM w1.heap.size w21 u5 (rowsT tk cx cy x y (L.take (k + 1))) from by rw [SU.out,N0.out ht,List.append_nil]; exact HO.out)
    clear HO SU N0 N1 N2 RG RL LN
    clear ht RW
    obtain ⟨yI0,yI1,yI2,yI3,yI4,yI5,yIz⟩:=blk6 KI
    obtain ⟨yG0,yG1,yG2,yG3,yG4,yG5,yG6,yG7,yGz⟩:=blk8 KG
    go_wp2
    exact ⟨⟨k + 1,by go_num,by omega,HBR,HO6⟩,by simp [intOf]; omega⟩
  ·obtain rfl:k = L.length:=by omega
   have q':decide (L.length < L.length) = false:=by simp
   have HO2:=Lib.hid (below_om2 h11 HO.out)
   rw [List.take_length] at HO2
   clear HO
   go_wp2
   go_ret
   exact ⟨⟨_,rfl,HO2.out⟩,HB.out⟩
end Go.Proofs.YtajmjkliblippaaGreatDoor
