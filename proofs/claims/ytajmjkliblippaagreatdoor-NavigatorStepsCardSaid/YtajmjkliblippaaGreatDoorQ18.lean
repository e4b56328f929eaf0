/-
  Walks and laws of the layers below, gathered from several texts.
-/
import Derived.Maps.AppendAt
import Derived.OwnWalk
import Derived.OneCell
import Derived.Deep.RegionHeld
import Derived.Lib.SmallJoins
import Derived.Deep.Onto
import Derived.Test.YtajmjkliblippaaGreatDoorProg
import Derived.Test.YtajmjkliblippaaGreatDoorShelfQ
import Derived.WalkKit
import Derived.WalkSpells
import Derived.Lib.Hide
import Derived.Deep.QuietTactic
import Derived.BigQuiet
import Derived.Laws.Bits64
import Derived.IntWalk
import Derived.Lib.Mul64
import Derived.Laws.Bits64b
import Derived.Lib.Zigzag
import Derived.Laws.OwnMore
import Derived.Lib.SlicesCompact
import Derived.Lib.RowBridge
import Derived.Sort.OwnSortedInts
import Derived.Test.YtajmjkliblippaaGreatDoorQ3
import Derived.Test.YtajmjkliblippaaGreatDoorQ9
import Derived.Test.YtajmjkliblippaaGreatDoorQ17
set_option linter.unusedVariables false
namespace Go.Proofs.YtajmjkliblippaaGreatDoor.S44
open Go.RowKit
def pairsUpto (l:List Ms) (i:Nat):List (Ms × Ms):=(List.range i).flatMap fun k=>(l.take k).map fun n=>(nth l k,n)
def pairsAt (l:List Ms) (i j:Nat):List (Ms × Ms):=pairsUpto l i ++ (l.take j).map fun n=>(nth l i,n)
def pairsL (l:List Ms):List (Ms × Ms):=pairsUpto l l.length
theorem pairsAt_zero (l:List Ms) (i:Nat):pairsAt l i 0 = pairsUpto l i:=by unfold pairsAt; simp
theorem pairsAt_full (l:List Ms) (i:Nat):pairsAt l i i = pairsUpto l (i + 1):=by
 unfold pairsAt pairsUpto
 rw [List.range_succ,List.flatMap_append]
 simp
theorem pairsAt_succ {l:List Ms} {i j:Nat} (h:j < l.length):pairsAt l i (j + 1) = pairsAt l i j ++ [(nth l i,nth l j)]:=by
 unfold pairsAt
 rw [take_nth h,List.map_append,← List.append_assoc]
 rfl
theorem pairsUpto_len (l:List Ms) (i:Nat):(pairsUpto l i).length≤i * l.length:=by
 induction i with
 | zero=>simp [pairsUpto]
 | succ i ih =>
  rw [← pairsAt_full]
  unfold pairsAt
  rw [List.length_append,List.length_map,List.length_take,Nat.succ_mul]
  omega
theorem pairsAt_len {l:List Ms} {i j:Nat} (hl:l.length≤17) (hi:i < l.length):(pairsAt l i j).length≤306:=by
 unfold pairsAt
 rw [List.length_append,List.length_map,List.length_take]
 have:=pairsUpto_len l i
 have h2:i * l.length≤17 * 17:=Nat.mul_le_mul (by omega) hl
 omega
structure KeepX (Own:World→Nat→Prop) (W w':World):Prop where
 size:W.heap.size≤w'.heap.size
 keep:∀ k,k < W.heap.size→¬ Own W k→w'.heap[k]? = W.heap[k]?∧¬ Own w' k
structure InvX (l:List Ms) (b o:Nat) (Inv:List (Ms × Ms)→World→Prop) (Own:World→Nat→Prop):Prop where
 at':∀ acc W,Inv acc W→MsAt l b o W
 alloc:∀ acc W ob,Inv acc W→Inv acc (W.alloc ob)∧¬ Own (W.alloc ob) W.heap.size∧∀ k,k < W.heap.size→¬ Own W k→¬ Own (W.alloc ob) k
structure CopyAt (m:Ms) (bm:Nat) (W:World):Prop where
 lt:bm < W.heap.size
 c0:W.cell? ⟨bm,0,none⟩ = some (.int .i64 m.s)
 c1:W.cell? ⟨bm,1,none⟩ = some (.int .i64 m.a)
 c2:W.cell? ⟨bm,2,none⟩ = some (.int .i64 m.b)
 c3:W.cell? ⟨bm,3,none⟩ = some (.int .i64 m.z)
 c4:W.cell? ⟨bm,4,none⟩ = some (.int .i64 m.d)
 c5:W.cell? ⟨bm,5,none⟩ = some (.int .i64 m.w)
theorem copy_new (m:Ms) (w:World) (t:TypeId):CopyAt m w.heap.size (w.alloc (.cells #[.int .i64 m.s,.int .i64 m.a,.int .i64 m.b,.int .i64 m.z,.int .i64 m.d,.int .i64 m.w] t)):=
 ⟨by simp,by rw [World.cell?_alloc_at _ _ _ _ rfl]; rfl,by rw [World.cell?_alloc_at _ _ _ _ rfl]; rfl,by rw [World.cell?_alloc_at _ _ _ _ rfl]; rfl,by rw [World.cell?_alloc_at _ _ _ _ rfl]; rfl,by rw [World.cell?_alloc_at _ _ _ _ rfl]; rfl,by rw [World.cell?_alloc_at _ _ _ _ rfl]; rfl⟩
theorem CopyAt.same {m:Ms} {bm:Nat} {W w':World} (h:CopyAt m bm W) (hk:w'.heap[bm]? = W.heap[bm]?) (hs:W.heap.size≤w'.heap.size):CopyAt m bm w':=
 ⟨Nat.lt_of_lt_of_le h.lt hs,(World.cell?_of_block (w:=W) (a:=⟨bm,0,none⟩) hk).trans h.c0,(World.cell?_of_block (w:=W) (a:=⟨bm,1,none⟩) hk).trans h.c1,(World.cell?_of_block (w:=W) (a:=⟨bm,2,none⟩) hk).trans h.c2,(World.cell?_of_block (w:=W) (a:=⟨bm,3,none⟩) hk).trans h.c3,(World.cell?_of_block (w:=W) (a:=⟨bm,4,none⟩) hk).trans h.c4,(World.cell?_of_block (w:=W) (a:=⟨bm,5,none⟩) hk).trans h.c5⟩
theorem CopyAt.below {m:Ms} {bm:Nat} {W w':World} (h:CopyAt m bm W) (hb:Below W.heap.size W w'):CopyAt m bm w':=h.same (hb.block bm h.lt) hb.size
def R1full (l:List Ms) (Inv:List (Ms × Ms)→World→Prop) (v:Value) (W:World):Prop:=∃ i:Nat,v = .int .i64 i∧i≤l.length∧Hid (Inv (pairsUpto l i) W)
def R2full (l:List Ms) (Inv:List (Ms × Ms)→World→Prop) (Own:World→Nat→Prop) (i bm:Nat) (v:Value) (W:World):Prop:=∃ j:Nat,v = .int .i64 j∧j≤i∧Hid (Inv (pairsAt l i j) W)∧Hid (CopyAt (nth l i) bm W)∧Hid (¬ Own W bm)
set_option maxHeartbeats 4000000
theorem pairs_full (l:List Ms) (b o cap:Nat) (w0:World) (a0:Addr) (Inv:List (Ms × Ms)→World→Prop) (Own:World→Nat→Prop) (hl:l.length≤17) (hc:l.length≤cap) (hm:cap≤9223372036854775807)
 (hX:InvX l b o Inv Own) (h0:Inv [] w0)
 (hstep:∀ acc m n W,m ∈ l→n ∈ l→acc.length≤306→Inv acc W→Calls Tryz.prog 133 #[.agg #[.int .i64 m.s,.int .i64 m.a,.int .i64 m.b,.int .i64 m.z,.int .i64 m.d,.int .i64 m.w],.agg #[.int .i64 n.s,.int .i64 n.a,.int .i64 n.b,.int .i64 n.z,.int .i64 n.d,.int .i64 n.w],.pointer (some a0)] W
  fun e w'=>e = .returned (.tuple #[])∧Inv (acc ++ [(m,n)]) w'∧KeepX Own W w') :
 Calls Tryz.prog 132 #[.slice (some ⟨b,o,none⟩) l.length cap,.func (.func 133) #[] #[.pointer (some a0)]] w0 fun e w'=>e = .returned (.tuple #[])∧Inv (pairsL l) w':=by
 have HX:=Lib.hid hX
 have HS:=Lib.hid hstep
 have H0:=Lib.hid h0
 clear hX hstep h0
 go_enter Tryz.func132,Tryz.ntmps132
 go_wp2
 go_loopw [10] (R1full l Inv) (fun i _=>l.length - (intOf i).toNat)
 case atStart=>exact ⟨0,rfl,Nat.zero_le _,H0⟩
 case round =>
  obtain ⟨i,rfl,hi,HI⟩:=hrel
  by_cases q:i < l.length
  ·have q':decide (i < l.length) = true:=by simpa using q
   have M:=HX.out.at' _ _ HI.out
   have c0:=M.c0 i q
   have c1:=M.c1 i q
   have c2:=M.c2 i q
   have c3:=M.c3 i q
   have c4:=M.c4 i q
   have c5:=M.c5 i q
   have AL:=Lib.hid (HX.out.alloc _ _ (.cells #[.int .i64 (nth l i).s,.int .i64 (nth l i).a,.int .i64 (nth l i).b,.int .i64 (nth l i).z,.int .i64 (nth l i).d,.int .i64 (nth l i).w] 71) HI.out)
   have CO:=Lib.hid (copy_new (nth l i) wr 71)
   have MI:=Lib.hid (nth_mem q)
   have LE:=Lib.hid fun j=>pairsAt_len (l:=l) (i:=i) (j:=j) hl q
   have hic:i≤cap:=by omega
   clear M HI
   go_wp2_with fail
   generalize hbm:wr.heap.size = bm at *
   generalize hwo:wr.alloc (.cells #[.int .i64 (nth l i).s,.int .i64 (nth l i).a,.int .i64 (nth l i).b,.int .i64 (nth l i).z,.int .i64 (nth l i).d,.int .i64 (nth l i).w] 71) = wo at *
   have HBM:=Lib.hid hbm
   clear hbm hwo c0 c1 c2 c3 c4 c5
   go_loopw [19] (R2full l Inv Own i bm) (fun j _=>i - (intOf j).toNat)
   case atStart=>exact ⟨0,rfl,Nat.zero_le _,by rw [pairsAt_zero]; exact AL.out.1,CO,AL.out.2.1⟩
   case round =>
    obtain ⟨j,rfl,hj,HI,HC,HN⟩:=hrel
    by_cases r:j < i
    ·have r':decide (j < i) = true:=by simpa using r
     have hjl:j < l.length:=by omega
     have M:=HX.out.at' _ _ HI.out
     have c0:=M.c0 j hjl
     have c1:=M.c1 j hjl
     have c2:=M.c2 j hjl
     have c3:=M.c3 j hjl
     have c4:=M.c4 j hjl
     have c5:=M.c5 j hjl
     have hc:=HC.out
     have x0:=hc.c0
     have x1:=hc.c1
     have x2:=hc.c2
     have x3:=hc.c3
     have x4:=hc.c4
     have x5:=hc.c5
     have hbl:=hc.lt
     have AL2:=Lib.hid (HX.out.alloc _ _ (.cells #[.int .i64 (nth l j).s,.int .i64 (nth l j).a,.int .i64 (nth l j).b,.int .i64 (nth l j).z,.int .i64 (nth l j).d,.int .i64 (nth l j).w] 71) HI.out)
     have ST:=Lib.hid (HS.out (pairsAt l i j) (nth l i) (nth l j) _ MI.out (nth_mem hjl) (LE.out j) AL2.out.1)
     have PS:=Lib.hid (pairsAt_succ (l:=l) (i:=i) hjl)
     clear M HI hc
     go_wp2_with (go_at_call 133; refine ST.out.mono ?_; rintro e w2 ⟨rfl,hi2,hk2⟩)
     go_roundw
     case rel =>
      have hn2:=AL2.out.2.2 bm hbl HN.out
      have hlt2:bm < (wr.alloc (.cells #[.int .i64 (nth l j).s,.int .i64 (nth l j).a,.int .i64 (nth l j).b,.int .i64 (nth l j).z,.int .i64 (nth l j).d,.int .i64 (nth l j).w] 71)).heap.size:=by simp; omega
      have hk:=hk2.keep bm hlt2 hn2
      exact ⟨j + 1,by go_num,by omega,by rw [PS.out]; exact hi2,(HC.out.below ((Below.refl _ _).alloc (Nat.le_refl _) _)).same hk.1 hk2.size,hk.2⟩
     case measure=>simp [intOf]; omega
    ·obtain rfl:j = i:=by omega
     have PF:=Lib.hid (pairsAt_full l j)
     go_wp2
     go_roundw
     case rel=>exact ⟨j + 1,by go_num,by omega,by rw [← PF.out]; exact HI⟩
     case measure=>simp [intOf]; omega
  ·obtain rfl:i = l.length:=by omega
   go_wp2
   go_end0
   exact ⟨rfl,HI.out⟩
set_option maxHeartbeats 200000
def R1cor (l:List Ms) (Inv:List (Ms × Ms)→World→Prop) (v:Value) (W:World):Prop:=∃ i:Nat,v = .int .i64 i∧i≤l.length∧Hid (Inv (pairsUpto l i) W)
def R2cor (l:List Ms) (Inv:List (Ms × Ms)→World→Prop) (Own:World→Nat→Prop) (i bm:Nat) (v:Value) (W:World):Prop:=∃ j:Nat,v = .int .i64 j∧j≤i∧Hid (Inv (pairsAt l i j) W)∧Hid (CopyAt (nth l i) bm W)∧Hid (¬ Own W bm)
set_option maxHeartbeats 4000000
theorem pairs_cor (l:List Ms) (b o cap:Nat) (w0:World) (a0 a1:Addr) (Inv:List (Ms × Ms)→World→Prop) (Own:World→Nat→Prop) (hl:l.length≤17) (hc:l.length≤cap) (hm:cap≤9223372036854775807)
 (hX:InvX l b o Inv Own) (h0:Inv [] w0)
 (hstep:∀ acc m n W,m ∈ l→n ∈ l→acc.length≤306→Inv acc W→Calls Tryz.prog 136 #[.agg #[.int .i64 m.s,.int .i64 m.a,.int .i64 m.b,.int .i64 m.z,.int .i64 m.d,.int .i64 m.w],.agg #[.int .i64 n.s,.int .i64 n.a,.int .i64 n.b,.int .i64 n.z,.int .i64 n.d,.int .i64 n.w],.pointer (some a0),.pointer (some a1)] W
  fun e w'=>e = .returned (.tuple #[])∧Inv (acc ++ [(m,n)]) w'∧KeepX Own W w') :
 Calls Tryz.prog 132 #[.slice (some ⟨b,o,none⟩) l.length cap,.func (.func 136) #[] #[.pointer (some a0),.pointer (some a1)]] w0 fun e w'=>e = .returned (.tuple #[])∧Inv (pairsL l) w':=by
 have HX:=Lib.hid hX
 have HS:=Lib.hid hstep
 have H0:=Lib.hid h0
 clear hX hstep h0
 go_enter Tryz.func132,Tryz.ntmps132
 go_wp2
 go_loopw [10] (R1cor l Inv) (fun i _=>l.length - (intOf i).toNat)
 case atStart=>exact ⟨0,rfl,Nat.zero_le _,H0⟩
 case round =>
  obtain ⟨i,rfl,hi,HI⟩:=hrel
  by_cases q:i < l.length
  ·have q':decide (i < l.length) = true:=by simpa using q
   have M:=HX.out.at' _ _ HI.out
   have c0:=M.c0 i q
   have c1:=M.c1 i q
   have c2:=M.c2 i q
   have c3:=M.c3 i q
   have c4:=M.c4 i q
   have c5:=M.c5 i q
   have AL:=Lib.hid (HX.out.alloc _ _ (.cells #[.int .i64 (nth l i).s,.int .i64 (nth l i).a,.int .i64 (nth l i).b,.int .i64 (nth l i).z,.int .i64 (nth l i).d,.int .i64 (nth l i).w] 71) HI.out)
   have CO:=Lib.hid (copy_new (nth l i) wr 71)
   have MI:=Lib.hid (nth_mem q)
   have LE:=Lib.hid fun j=>pairsAt_len (l:=l) (i:=i) (j:=j) hl q
   have hic:i≤cap:=by omega
   clear M HI
   go_wp2_with fail
   generalize hbm:wr.heap.size = bm at *
   generalize hwo:wr.alloc (.cells #[.int .i64 (nth l i).s,.int .i64 (nth l i).a,.int .i64 (nth l i).b,.int .i64 (nth l i).z,.int .i64 (nth l i).d,.int .i64 (nth l i).w] 71) = wo at *
   have HBM:=Lib.hid hbm
   clear hbm hwo c0 c1 c2 c3 c4 c5
   go_loopw [19] (R2cor l Inv Own i bm) (fun j _=>i - (intOf j).toNat)
   case atStart=>exact ⟨0,rfl,Nat.zero_le _,by rw [pairsAt_zero]; exact AL.out.1,CO,AL.out.2.1⟩
   case round =>
    obtain ⟨j,rfl,hj,HI,HC,HN⟩:=hrel
    by_cases r:j < i
    ·have r':decide (j < i) = true:=by simpa using r
     have hjl:j < l.length:=by omega
     have M:=HX.out.at' _ _ HI.out
     have c0:=M.c0 j hjl
     have c1:=M.c1 j hjl
     have c2:=M.c2 j hjl
     have c3:=M.c3 j hjl
     have c4:=M.c4 j hjl
     have c5:=M.c5 j hjl
     have hc:=HC.out
     have x0:=hc.c0
     have x1:=hc.c1
     have x2:=hc.c2
     have x3:=hc.c3
     have x4:=hc.c4
     have x5:=hc.c5
     have hbl:=hc.lt
     have AL2:=Lib.hid (HX.out.alloc _ _ (.cells #[.int .i64 (nth l j).s,.int .i64 (nth l j).a,.int .i64 (nth l j).b,.int .i64 (nth l j).z,.int .i64 (nth l j).d,.int .i64 (nth l j).w] 71) HI.out)
     have ST:=Lib.hid (HS.out (pairsAt l i j) (nth l i) (nth l j) _ MI.out (nth_mem hjl) (LE.out j) AL2.out.1)
     have PS:=Lib.hid (pairsAt_succ (l:=l) (i:=i) hjl)
     clear M HI hc
     go_wp2_with (go_at_call 136; refine ST.out.mono ?_; rintro e w2 ⟨rfl,hi2,hk2⟩)
     go_roundw
     case rel =>
      have hn2:=AL2.out.2.2 bm hbl HN.out
      have hlt2:bm < (wr.alloc (.cells #[.int .i64 (nth l j).s,.int .i64 (nth l j).a,.int .i64 (nth l j).b,.int .i64 (nth l j).z,.int .i64 (nth l j).d,.int .i64 (nth l j).w] 71)).heap.size:=by simp; omega
      have hk:=hk2.keep bm hlt2 hn2
      exact ⟨j + 1,by go_num,by omega,by rw [PS.out]; exact hi2,(HC.out.below ((Below.refl _ _).alloc (Nat.le_refl _) _)).same hk.1 hk2.size,hk.2⟩
     case measure=>simp [intOf]; omega
    ·obtain rfl:j = i:=by omega
     have PF:=Lib.hid (pairsAt_full l j)
     go_wp2
     go_roundw
     case rel=>exact ⟨j + 1,by go_num,by omega,by rw [← PF.out]; exact HI⟩
     case measure=>simp [intOf]; omega
  ·obtain rfl:i = l.length:=by omega
   go_wp2
   go_end0
   exact ⟨rfl,HI.out⟩
end Go.Proofs.YtajmjkliblippaaGreatDoor.S44
namespace Go.Proofs.YtajmjkliblippaaGreatDoor.S44
open Go.RowKit
def crossB (p:Ms × Ms):Bool:=p.1.a * p.2.b != p.2.a * p.1.b
def fullB (l:List Ms):Bool:=(pairsL l).any crossB
theorem crossB_iff {m n:Ms}:crossB (m,n) = true↔detM m n≠0:=by
 unfold crossB detM
 simp only [bne_iff_ne,ne_eq]
 omega
structure FulI (w:World) (bf:Nat) (f:Bool) (W:World):Prop where
 below:Below w.heap.size w W
 le:w.heap.size≤bf
 lt:bf < W.heap.size
 cell:W.cell? ⟨bf,0,none⟩ = some (.bool f)
 frz:W.frozen? ⟨bf,0,none⟩ = false
theorem FulI.alloc {w:World} {bf:Nat} {f:Bool} {W:World} (h:FulI w bf f W) (o:Obj):FulI w bf f (W.alloc o):=by
 have hb:=(Below.refl W.heap.size W).alloc (Nat.le_refl _) o
 have hl:=h.lt
 exact ⟨h.below.alloc h.below.size o,h.le,by simp; omega,(hb.cell (p:=⟨bf,0,none⟩) hl).trans h.cell,(hb.frozen (p:=⟨bf,0,none⟩) hl).trans h.frz⟩
theorem FulI.store {w:World} {bf:Nat} {f:Bool} {W:World} (h:FulI w bf f W) (g:Bool):FulI w bf g (W.setCell ⟨bf,0,none⟩ (.bool g)):=
 ⟨h.below.setCell (p:=⟨bf,0,none⟩) h.le _,h.le,by have:=h.lt; simpa [World.setCell] using this,World.cell?_setCell_same' W _ _ (by rw [h.cell]; rfl),by rw [World.frozen?_setCell]; exact h.frz⟩
theorem keepx_store (bf:Nat) (W:World) (o1 o2:Obj) (v:Value):KeepX (fun _ k=>k = bf) W (((W.setCell ⟨bf,0,none⟩ v).alloc o1).alloc o2):=by
 have hs:(W.setCell ⟨bf,0,none⟩ v).heap.size = W.heap.size:=by simp [World.setCell]
 exact ⟨by rw [World.size_alloc,World.size_alloc,hs]; omega,fun k hk hn=>⟨by
  rw [Below.heap_alloc _ _ _ (by rw [World.size_alloc,hs]; omega),Below.heap_alloc _ _ _ (by rw [hs]; exact hk),Below.heap_setCell _ _ _ _ (by simpa using hn)],hn⟩⟩
set_option maxHeartbeats 1000000
theorem full_fn (m n:Ms) (w W:World) (bf:Nat) (f:Bool) (h:FulI w bf f W) (hm:EdM m) (hn:EdM n) :
 Calls Tryz.prog 133 #[.agg #[.int .i64 m.s,.int .i64 m.a,.int .i64 m.b,.int .i64 m.z,.int .i64 m.d,.int .i64 m.w],.agg #[.int .i64 n.s,.int .i64 n.a,.int .i64 n.b,.int .i64 n.z,.int .i64 n.d,.int .i64 n.w],.pointer (some ⟨bf,0,none⟩)] W
  fun e w'=>e = .returned (.tuple #[])∧FulI w bf (f || crossB (m,n)) w'∧KeepX (fun _ k=>k = bf) W w':=by
 obtain ⟨p10,p11⟩:=mul_abs (X:=256) (Y:=256) hm.a0 hm.a1 hn.b0 hn.b1
 obtain ⟨p20,p21⟩:=mul_abs (X:=256) (Y:=256) hn.a0 hn.a1 hm.b0 hm.b1
 have EB:crossB (m,n) = (m.a * n.b != n.a * m.b):=rfl
 have I2:=Lib.hid fun o1 o2=>(h.alloc o1).alloc o2
 have HX:=Lib.hid h
 have kc:=fun o1 o2=>((h.alloc o1).alloc o2).cell
 have kf:=fun o1 o2=>((h.alloc o1).alloc o2).frz
 have hl:=h.lt
 clear hm hn h
 generalize crossB (m,n) = g at *
 obtain ⟨ms,a,b,mz,md,mw⟩:=m
 obtain ⟨ns,a',b',nz,nd,nw⟩:=n
 simp only at p10 p11 p20 p21 EB ⊢
 cases f with
 | true =>
  clear EB
  go_enter Tryz.func133,Tryz.ntmps133
  go_wp2
  go_end0
  exact ⟨rfl,((HX.out.store _).alloc _).alloc _,keepx_store _ _ _ _ _⟩
 | false =>
  have E:=EB.symm
  clear EB
  go_enter Tryz.func133,Tryz.ntmps133
  go_wp2
  go_end0
  exact ⟨rfl,((HX.out.store _).alloc _).alloc _,keepx_store _ _ _ _ _⟩
set_option maxHeartbeats 200000
theorem full_some (l:List Ms) (b o cap:Nat) (w:World) (h:MsAt l b o w) (hc:l.length≤cap) (hm:cap≤9223372036854775807) (he:∀ m ∈ l,EdM m) (hl:l.length≤17) :
 Calls Tryz.prog 93 #[.slice (some ⟨b,o,none⟩) l.length cap] w fun e w'=>e = .returned (.bool (fullB l))∧Below w.heap.size w w':=by
 have HP:=Lib.hid fun W1 (h0:FulI w w.heap.size false W1)=>pairs_full l b o cap W1 ⟨w.heap.size,0,none⟩ (fun acc W=>FulI w w.heap.size (acc.any crossB) W) (fun _ k=>k = w.heap.size) hl hc hm
  ⟨fun acc W hi=>h.below hi.below,fun acc W ob hi=>⟨hi.alloc ob,by have:=hi.lt; show W.heap.size≠w.heap.size; omega,fun k _ hn=>hn⟩⟩ h0
  (fun acc m n W hm hn _ hi=>(full_fn m n w W w.heap.size _ hi (he m hm) (he n hn)).mono fun e w' ⟨h1,h2,h3⟩=>⟨h1,by rw [List.any_append]; simpa using h2,h3⟩)
 have H0:=Lib.hid (show ∀ t,FulI w w.heap.size false (w.alloc (.cells #[.bool false] t)) from fun t=>⟨(Below.refl _ _).alloc (Nat.le_refl _) _,Nat.le_refl _,by simp,by rw [World.cell?_alloc_at _ _ _ _ rfl]; rfl,by go_simp⟩)
 have EF:=Lib.hid (show fullB l = (pairsL l).any crossB from rfl)
 clear h he
 go_enter Tryz.func93,Tryz.ntmps93
 go_wp2_with (go_at_call 132; refine (HP.out _ (H0.out _)).mono ?_; rintro e w2 ⟨rfl,hi⟩; have hcell:=hi.cell; have hbl:=Lib.hid hi.below; clear hi)
 go_ret
 exact ⟨ret_b EF.out.symm,hbl.out⟩
theorem pairs_nil (F:FuncId) (cs:Array Value) (w:World) :
 Calls Tryz.prog 132 #[.slice none 0 0,.func (.func F) #[] cs] w fun e w'=>e = .returned (.tuple #[])∧w = w':=by
 go_enter Tryz.func132,Tryz.ntmps132
 go_wp2
 go_loop [10] (fun v=>v = .int .i64 0) (fun _=>0)
 case atStart=>rfl
 case round =>
  subst hrel
  go_wp2
  go_end0
  exact ⟨rfl,rfl⟩
theorem full_nil (w:World) :
 Calls Tryz.prog 93 #[.slice none 0 0] w fun e w'=>e = .returned (.bool false)∧Below w.heap.size w w':=by
 go_enter Tryz.func93,Tryz.ntmps93
 go_wp2_with (go_at_call 132; refine (pairs_nil _ _ _).mono ?_; rintro e w2 ⟨rfl,rfl⟩)
 go_ret
 exact ⟨rfl,(Below.refl _ _).alloc (Nat.le_refl _) _⟩
theorem full_any (l:List Ms) (v:Value) (w:World) (h:LstAt l v w) (he:∀ m ∈ l,EdM m) (hl:l.length≤17) :
 Calls Tryz.prog 93 #[v] w fun e w'=>e = .returned (.bool (fullB l))∧Below w.heap.size w w':=by
 rcases h with ⟨rfl,rfl⟩ | ⟨b,o,cap,rfl,h2,h3,h4⟩
 ·exact full_nil w
 ·exact full_some l b o cap w h4 h2 h3 he hl
end Go.Proofs.YtajmjkliblippaaGreatDoor.S44
namespace Go.Proofs.YtajmjkliblippaaGreatDoor.S44
open Go.RowKit
def crC (l:List Cr):List Value:=l.flatMap fun p=>[Value.int .i64 p.x,Value.int .i64 p.y,Value.int .i64 p.d]
theorem crC_append (l k:List Cr):crC (l ++ k) = crC l ++ crC k:=by unfold crC; rw [List.flatMap_append]
theorem crC_len (l:List Cr):(crC l).length = l.length * 3:=by
 unfold crC
 induction l with
 | nil=>rfl
 | cons p r ih=>simp only [List.flatMap_cons,List.length_append,List.length_cons,List.length_nil,ih]; omega
theorem crC_get:∀ (l:List Cr) (i:Nat) (h:i < l.length),(crC l)[i * 3]? = some (.int .i64 l[i].x)∧(crC l)[i * 3 + 1]? = some (.int .i64 l[i].y)∧(crC l)[i * 3 + 2]? = some (.int .i64 l[i].d)
 | [],i,h=>absurd h (by simp)
 | p :: l,0,h=>⟨rfl,rfl,rfl⟩
 | p :: l,i + 1,h=>by
  obtain ⟨a,b,c⟩:=crC_get l i (by simpa using h)
  unfold crC at *
  rw [List.flatMap_cons,show (i + 1) * 3 = i * 3 + 3 by omega]
  exact ⟨a,b,c⟩
def OC (B:Nat) (w:World) (v:Value) (l:List Cr):Prop:=w.ownsRow B 155 3 v l.length (crC l)
theorem infoCor:(Tryz.prog.info? 155).map (fun i=>(i.zero,i.size,i.bytes)) = some (some (.agg #[.int .i64 0,.int .i64 0,.int .i64 0]),3,24):=by kernel_rfl
theorem wpList_oc {ops:Array Oper} {rest:List Oper} {o:Oper} {a:Act} {Q:Exit→Act→World→Prop} (hgd:o.guard = none) (s x:Operand)
 (ho:o.op = .call { callee:=.builtin .append,args:=#[s,x],argTypes:=#[108,108] })
 (B:Nat) (v:Value) (l:List Cr) (hs:a.eval s = v) (w0:World) (h:OC B w0 v l) (T:TypeId) (p:Cr) (c:Nat)
 (hx:a.eval x = .slice (some ⟨w0.heap.size,0,none⟩) 1 c) (hl:l.length≤100000) (hB:B≤w0.heap.size)
 (H:∀ v' w',OC B w' v' (l ++ [p])→(w0.alloc (.cells #[.int .i64 p.x,.int .i64 p.y,.int .i64 p.d] T)).grownBy w' v.ownBlock→(v'.ownBlock = v.ownBlock∨v'.ownBlock = some (w0.heap.size + 1))→wpList Tryz.prog ops Q rest (a.put o.dst v') w') :
 wpList Tryz.prog ops Q (o :: rest) a (w0.alloc (.cells #[.int .i64 p.x,.int .i64 p.y,.int .i64 p.d] T)):=by
 obtain ⟨i0,hi,hz0,hz1,hz2⟩:=info_parts infoCor
 refine wpList_append_own_at _ hgd s x 108 ho B 155 i0 (.agg #[.int .i64 0,.int .i64 0,.int .i64 0]) 3 24 Tryz.underlying108 hi hz0 hz1 hz2 rfl (by decide) v l.length (crC l) hs (World.ownsRow.alloc h _) ⟨w0.heap.size,0,none⟩ 1 c (crC [p]) hx (by rw [crC_len]; rfl) ?_ ?_ (by unfold maxLen; omega) (by omega) (by simp; omega) ?_
 ·intro j u hu
  have hadd:(⟨w0.heap.size,0,none⟩:Addr).add j = ⟨w0.heap.size,j,none⟩:=by unfold Addr.add; split <;> simp_all
  rw [hadd,World.cell?_alloc_at _ _ _ _ (by rfl)]
  unfold crC at hu
  simpa using hu
 ·intro u hu
  unfold crC at hu
  simp only [List.flatMap_cons,List.flatMap_nil,List.append_nil,List.mem_cons,List.not_mem_nil,or_false] at hu
  rcases hu with rfl | rfl | rfl <;> rfl
 ·intro v' w' ho' hg _ hat
  refine H v' w' (by unfold OC; rw [List.length_append,crC_append]; exact ho') hg ?_
  simpa using hat
def OwnC (bo:Nat) (W:World) (k:Nat):Prop:=k = bo∨∃ u,W.cell? ⟨bo,0,none⟩ = some u∧u.ownBlock = some k
structure CorI (w:World) (bl bo:Nat) (v u:Value) (C:List Cr) (W:World):Prop where
 below:Below w.heap.size w W
 le:w.heap.size≤bo
 lb:bl≤bo
 lt:bo < W.heap.size
 lst:W.cell? ⟨bl,0,none⟩ = some v
 cell:W.cell? ⟨bo,0,none⟩ = some u
 frz:W.frozen? ⟨bo,0,none⟩ = false
 own:OC (bo + 1) W u C
theorem CorI.keep {w:World} {bl bo:Nat} {v u:Value} {C:List Cr} {W w':World} (h:CorI w bl bo v u C W) (hb:Below W.heap.size W w'):CorI w bl bo v u C w':=by
 have hl:=h.lt
 refine ⟨h.below.trans (hb.mono h.below.size),h.le,h.lb,Nat.lt_of_lt_of_le hl hb.size,(hb.cell (p:=⟨bl,0,none⟩) ?_).trans h.lst,(hb.cell (p:=⟨bo,0,none⟩) hl).trans h.cell,(hb.frozen (p:=⟨bo,0,none⟩) hl).trans h.frz,?_⟩
 ·have:=h.lb
  show bl < W.heap.size
  omega
 ·refine World.ownsRow.kept h.own (grown_of_below hb) ?_
  cases u.ownBlock <;> simp
theorem keepx_below {bo:Nat} {W w':World} (hl:bo < W.heap.size) (hb:Below W.heap.size W w'):KeepX (OwnC bo) W w':=
 ⟨hb.size,fun k hk hn=>⟨hb.block k hk,fun h=>hn (by
  rcases h with h | ⟨u,h1,h2⟩
  ·exact .inl h
  ·exact .inr ⟨u,by rw [← h1]; exact (hb.cell (p:=⟨bo,0,none⟩) hl).symm,h2⟩)⟩⟩
theorem KeepX.trans {Own:World→Nat→Prop} {a b c:World} (h:KeepX Own a b) (g:KeepX Own b c):KeepX Own a c:=
 ⟨Nat.le_trans h.size g.size,fun k hk hn=>by
  obtain ⟨h1,h2⟩:=h.keep k hk hn
  obtain ⟨g1,g2⟩:=g.keep k (Nat.lt_of_lt_of_le hk h.size) h2
  exact ⟨g1.trans h1,g2⟩⟩
theorem own_new {w:World} {bl bo:Nat} {v u:Value} {C:List Cr} {W:World} (h:CorI w bl bo v u C W) {k:Nat} (hk:W.heap.size≤k):¬ OwnC bo W k:=by
 rintro (rfl | ⟨x,h1,h2⟩)
 ·have:=h.lt; omega
 ·rw [h.cell] at h1
  obtain rfl:=Option.some.inj h1
  have:=(World.ownsRow.lt h.own k h2).2
  omega
theorem own_alloc {w:World} {bl bo:Nat} {v u:Value} {C:List Cr} {W:World} (h:CorI w bl bo v u C W) (o:Obj):¬ OwnC bo (W.alloc o) W.heap.size:=by
 rintro (e | ⟨x,h1,h2⟩)
 ·have:=h.lt; omega
 ·rw [(h.keep ((Below.refl _ _).alloc (Nat.le_refl _) o)).cell] at h1
  obtain rfl:=Option.some.inj h1
  have:=(World.ownsRow.lt h.own _ h2).2
  omega
theorem CorI.push {w:World} {bl bo:Nat} {v u u':Value} {C:List Cr} {p:Cr} {W w5:World} {ob:Obj} (h:CorI w bl bo v u C W) (hlb:bl≠bo) (hown:OC (bo + 1) w5 u' (C ++ [p])) (hg:(W.alloc ob).grownBy w5 u.ownBlock)
 (hat:u'.ownBlock = u.ownBlock∨u'.ownBlock = some (W.heap.size + 1)) :
 CorI w bl bo v u' (C ++ [p]) (w5.setCell ⟨bo,0,none⟩ u')∧KeepX (OwnC bo) W (w5.setCell ⟨bo,0,none⟩ u'):=by
 have hb:=(Below.refl W.heap.size W).alloc (Nat.le_refl _) ob
 have h2:=h.keep hb
 have hl:=h.lt
 have hlb':=h.lb
 have hr:∀ k,u.ownBlock = some k→bo + 1≤k:=fun k hk=>(World.ownsRow.lt h.own k hk).1
 have hs:=hg.size
 rw [World.size_alloc] at hs
 have hb5:Below (bo + 1) (W.alloc ob) w5:=⟨hg.os,hg.tape,hg.output,hg.size,fun k hk=>hg.block k (by rw [World.size_alloc]; omega) (fun e=>by have:=hr k e.symm; omega)⟩
 have hc5:w5.cell? ⟨bo,0,none⟩ = some u:=(hb5.cell (p:=⟨bo,0,none⟩) (Nat.lt_succ_self bo)).trans h2.cell
 have hss:(w5.setCell ⟨bo,0,none⟩ u').heap.size = w5.heap.size:=by simp [World.setCell]
 have hcs:(w5.setCell ⟨bo,0,none⟩ u').cell? ⟨bo,0,none⟩ = some u':=World.cell?_setCell_same' w5 _ _ (by rw [hc5]; rfl)
 refine ⟨⟨?_,h.le,h.lb,by rw [hss]; omega,?_,hcs,?_,?_⟩,by rw [hss]; omega,fun k hk hn=>⟨?_,?_⟩⟩
 ·exact (h2.below.trans (hb5.mono (by have:=h.le; omega))).setCell (p:=⟨bo,0,none⟩) h.le _
 ·rw [World.cell?_setCell_far _ _ _ _ (show bo≠bl by omega)]
  exact (hb5.cell (p:=⟨bl,0,none⟩) (show bl < bo + 1 by omega)).trans h2.lst
 ·rw [World.frozen?_setCell]
  exact (hb5.frozen (p:=⟨bo,0,none⟩) (Nat.lt_succ_self bo)).trans h2.frz
 ·exact ownsRow_setCell_below hown (Nat.lt_succ_self bo) u'
 ·have n1:k≠bo:=fun e=>hn (.inl e)
  have n2:some k≠u.ownBlock:=fun e=>hn (.inr ⟨u,h.cell,e.symm⟩)
  rw [Below.heap_setCell _ _ _ _ (by simpa using n1),hg.block k (by rw [World.size_alloc]; omega) n2,Below.heap_alloc _ _ _ hk]
 ·rintro (e | ⟨x,h1,h3⟩)
  ·exact hn (.inl e)
  ·rw [hcs] at h1
   obtain rfl:=Option.some.inj h1
   rcases hat with e | e
   ·exact hn (.inr ⟨u,h.cell,by rw [← e]; exact h3⟩)
   ·rw [e] at h3
    have:=Option.some.inj h3
    omega
def pickC (R:List Ms) (m n:Ms) (s t:Bool):List Cr:=if detM m n = 0 then [] else if holdsB R (crossC m n (edgeC m s) (edgeC n t)) = true then [crossC m n (edgeC m s) (edgeC n t)] else []
def tag2 (i:Nat):Bool:=i == 1
def crn (R:List Ms) (m n:Ms) (k:Nat):List Cr:=(List.range k).flatMap fun q=>pickC R m n (tag2 (q / 2)) (tag2 (q % 2))
theorem crn_succ (R:List Ms) (m n:Ms) (k:Nat):crn R m n (k + 1) = crn R m n k ++ pickC R m n (tag2 (k / 2)) (tag2 (k % 2)):=by
 unfold crn
 rw [List.range_succ,List.flatMap_append]
 simp
theorem pick_len (R:List Ms) (m n:Ms) (s t:Bool):(pickC R m n s t).length≤1:=by
 unfold pickC
 split
 ·simp
 ·split <;> simp
theorem crn_len (R:List Ms) (m n:Ms) (k:Nat):(crn R m n k).length≤k:=by
 induction k with
 | zero=>simp [crn]
 | succ k ih =>
  rw [crn_succ,List.length_append]
  have:=pick_len R m n (tag2 (k / 2)) (tag2 (k % 2))
  omega
def corP (R:List Ms) (ps:List (Ms × Ms)):List Cr:=ps.flatMap fun p=>crn R p.1 p.2 4
def corL (l:List Ms):List Cr:=corP l (pairsL l)
theorem corP_len (R:List Ms) (ps:List (Ms × Ms)):(corP R ps).length≤4 * ps.length:=by
 unfold corP
 induction ps with
 | nil=>simp
 | cons p r ih =>
  simp only [List.flatMap_cons,List.length_append,List.length_cons]
  have:=crn_len R p.1 p.2 4
  omega
end Go.Proofs.YtajmjkliblippaaGreatDoor.S44
namespace Go.Proofs.YtajmjkliblippaaGreatDoor.S44
open Go.RowKit
structure EdgeAt (m:Ms) (c:Int) (be:Nat) (W:World):Prop where
 lt:be < W.heap.size
 c0:W.cell? ⟨be,0,none⟩ = some (.int .i64 m.a)
 c1:W.cell? ⟨be,1,none⟩ = some (.int .i64 m.b)
 c2:W.cell? ⟨be,2,none⟩ = some (.int .i64 c)
theorem edge_new (m:Ms) (c:Int) (w:World) (t:TypeId):EdgeAt m c w.heap.size (w.alloc (.cells #[.int .i64 m.a,.int .i64 m.b,.int .i64 c] t)):=
 ⟨by simp,by rw [World.cell?_alloc_at _ _ _ _ rfl]; rfl,by rw [World.cell?_alloc_at _ _ _ _ rfl]; rfl,by rw [World.cell?_alloc_at _ _ _ _ rfl]; rfl⟩
theorem EdgeAt.same {m:Ms} {c:Int} {be:Nat} {W w':World} (h:EdgeAt m c be W) (hk:w'.heap[be]? = W.heap[be]?) (hs:W.heap.size≤w'.heap.size):EdgeAt m c be w':=
 ⟨Nat.lt_of_lt_of_le h.lt hs,(World.cell?_of_block (w:=W) (a:=⟨be,0,none⟩) hk).trans h.c0,(World.cell?_of_block (w:=W) (a:=⟨be,1,none⟩) hk).trans h.c1,(World.cell?_of_block (w:=W) (a:=⟨be,2,none⟩) hk).trans h.c2⟩
theorem EdgeAt.below {m:Ms} {c:Int} {be:Nat} {W w':World} (h:EdgeAt m c be W) (hb:Below W.heap.size W w'):EdgeAt m c be w':=h.same (hb.block be h.lt) hb.size
structure CrAt (p:Cr) (bp:Nat) (W:World):Prop where
 lt:bp < W.heap.size
 c0:W.cell? ⟨bp,0,none⟩ = some (.int .i64 p.x)
 c1:W.cell? ⟨bp,1,none⟩ = some (.int .i64 p.y)
 c2:W.cell? ⟨bp,2,none⟩ = some (.int .i64 p.d)
theorem cr_new (p:Cr) (w:World) (t:TypeId):CrAt p w.heap.size (w.alloc (.cells #[.int .i64 p.x,.int .i64 p.y,.int .i64 p.d] t)):=
 ⟨by simp,by rw [World.cell?_alloc_at _ _ _ _ rfl]; rfl,by rw [World.cell?_alloc_at _ _ _ _ rfl]; rfl,by rw [World.cell?_alloc_at _ _ _ _ rfl]; rfl⟩
theorem CrAt.below {p:Cr} {be:Nat} {W w':World} (h:CrAt p be W) (hb:Below W.heap.size W w'):CrAt p be w':=
 ⟨Nat.lt_of_lt_of_le h.lt hb.size,(hb.cell (p:=⟨be,0,none⟩) h.lt).trans h.c0,(hb.cell (p:=⟨be,1,none⟩) h.lt).trans h.c1,(hb.cell (p:=⟨be,2,none⟩) h.lt).trans h.c2⟩
theorem own_below {bo:Nat} {W w':World} {k:Nat} (hl:bo < W.heap.size) (hb:Below W.heap.size W w') (hn:¬ OwnC bo W k):¬ OwnC bo w' k:=fun h=>hn (by
 rcases h with h | ⟨u,h1,h2⟩
 ·exact .inl h
 ·exact .inr ⟨u,by rw [← h1]; exact (hb.cell (p:=⟨bo,0,none⟩) hl).symm,h2⟩)
structure CorSt (w W:World) (bl bo:Nat) (v:Value) (n:Ms) (bn:Nat) (C:List Cr) (wr:World):Prop where
 ex:∃ u,CorI w bl bo v u C wr
 kx:KeepX (OwnC bo) W wr
 cp:CopyAt n bn wr
 nn:¬ OwnC bo wr bn
theorem CorSt.keep {w W:World} {bl bo:Nat} {v:Value} {n:Ms} {bn:Nat} {C:List Cr} {wr w':World} (h:CorSt w W bl bo v n bn C wr) (hb:Below wr.heap.size wr w'):CorSt w W bl bo v n bn C w':=by
 obtain ⟨u,hu⟩:=h.ex
 exact ⟨⟨u,hu.keep hb⟩,h.kx.trans (keepx_below hu.lt hb),h.cp.below hb,own_below hu.lt hb h.nn⟩
def Q1 (w W:World) (bl bo:Nat) (v:Value) (l:List Ms) (m n:Ms) (bn:Nat) (C:List Cr) (s:Value) (wr:World):Prop:=∃ i:Nat,s = .int .i64 i∧i≤2∧Hid (CorSt w W bl bo v n bn (C ++ crn l m n (2 * i)) wr)
def Q2 (w W:World) (bl bo:Nat) (v:Value) (l:List Ms) (m n:Ms) (bn:Nat) (C:List Cr) (i be:Nat) (s:Value) (wr:World):Prop:=∃ j:Nat,s = .int .i64 j∧j≤2∧Hid (CorSt w W bl bo v n bn (C ++ crn l m n (2 * i + j)) wr)∧Hid (EdgeAt m (edgeC m (tag2 i)) be wr)∧Hid (¬ OwnC bo wr be)
def CorPost (w W:World) (bl bo:Nat) (v:Value) (l:List Ms) (m n:Ms) (C:List Cr) (e:Ending) (w':World):Prop:=e = .returned (.tuple #[])∧(∃ u,CorI w bl bo v u (C ++ crn l m n 4) w')∧KeepX (OwnC bo) W w'
theorem crn_at (l:List Ms) (m n:Ms) {i j:Nat} (hj:j < 2):crn l m n (2 * i + (j + 1)) = crn l m n (2 * i + j) ++ pickC l m n (tag2 i) (tag2 j):=by
 rw [← Nat.add_assoc,crn_succ,show (2 * i + j) / 2 = i by omega,show (2 * i + j) % 2 = j by omega]
set_option maxHeartbeats 16000000
set_option maxRecDepth 100000
theorem cor_fn (l:List Ms) (v u:Value) (m n:Ms) (w W:World) (bl bo:Nat) (C:List Cr) (hI:CorI w bl bo v u C W) (hlb:bl≠bo) (hV:LstAt l v w) (he:∀ m ∈ l,EdM m) (hm:EdM m) (hn:EdM n) (hC:C.length≤2000) :
 Calls Tryz.prog 136 #[.agg #[.int .i64 m.s,.int .i64 m.a,.int .i64 m.b,.int .i64 m.z,.int .i64 m.d,.int .i64 m.w],.agg #[.int .i64 n.s,.int .i64 n.a,.int .i64 n.b,.int .i64 n.z,.int .i64 n.d,.int .i64 n.w],.pointer (some ⟨bl,0,none⟩),.pointer (some ⟨bo,0,none⟩)] W
  (CorPost w W bl bo v l m n C):=by
 have HI:=Lib.hid hI
 have HLB:=Lib.hid hlb
 have HV:=Lib.hid hV
 have HEd:=Lib.hid he
 have HM:=Lib.hid hm
 have HN:=Lib.hid hn
 have CN:=Lib.hid (copy_new n (W.alloc (.cells #[.int .i64 m.s,.int .i64 m.a,.int .i64 m.b,.int .i64 m.z,.int .i64 m.d,.int .i64 m.w] 71)) 71)
 clear hI hlb hV he hm hn
 go_enter Tryz.func136,Tryz.ntmps136
 go_wp2_with fail
 refine (edges_any m _ HM.out).mono ?_
 rintro e w1 ⟨rfl,hb1⟩
 have hbW:Below W.heap.size W w1:=(((Below.refl W.heap.size W).alloc (Nat.le_refl _) _).alloc (by simp) _).trans (hb1.mono (by simp; omega))
 have S1:CorSt w W bl bo v n (W.heap.size + 1) (C ++ crn l m n (2 * 0)) w1:=by
  refine ⟨⟨u,?_⟩,keepx_below HI.out.lt hbW,?_,own_below HI.out.lt hbW (own_new HI.out (by omega))⟩
  ·have e:C ++ crn l m n (2 * 0) = C:=by unfold crn; simp
   rw [e]
   exact HI.out.keep hbW
  ·have:=CN.out.below hb1
   simpa using this
 have HS1:=Lib.hid S1
 clear hbW S1 hb1 CN
 generalize W.heap.size + 1 = bn at *
 go_wp2_with fail
 go_loopw [14] (Q1 w W bl bo v l m n bn C) (fun i _=>2 - (intOf i).toNat)
 case atStart=>exact ⟨0,rfl,by omega,HS1⟩
 case round =>
  obtain ⟨i,rfl,hi,HS⟩:=hrel
  by_cases q:i < 2
  ·have q':decide ((i:Int) < 2) = true:=by simp; omega
   have ix1:∀ w,(Instr.index 152 (.agg #[.int .i64 m.a,.int .i64 m.b,.int .i64 (edgeC m false),.int .i64 m.a,.int .i64 m.b,.int .i64 (edgeC m true)]) (.int .i64 (i:Int))).run Tryz.prog w = .ok (.agg #[.int .i64 m.a,.int .i64 m.b,.int .i64 (edgeC m (tag2 i))]) w:=by
    intro w
    rcases (show i = 0∨i = 1 by omega) with rfl | rfl <;> rfl
   have cn:=HS.out.cp
   have c0:=cn.c0
   have c1:=cn.c1
   have c2:=cn.c2
   have c3:=cn.c3
   have c4:=cn.c4
   have c5:=cn.c5
   have hbn:=cn.lt
   clear cn
   have EN:=Lib.hid (edge_new m (edgeC m (tag2 i)) wr 151)
   go_wp2_with fail
   refine (edges_any n _ HN.out).mono ?_
   rintro e w2 ⟨rfl,hb2⟩
   have hbr:Below wr.heap.size wr w2:=((Below.refl wr.heap.size wr).alloc (Nat.le_refl _) _).trans (hb2.mono (by simp))
   have HS2:=Lib.hid (HS.out.keep hbr)
   have HE2:=Lib.hid (EN.out.below hb2)
   have HO2:Hid (¬ OwnC bo w2 wr.heap.size):=by
    obtain ⟨u0,hu0⟩:=HS.out.ex
    exact own_below hu0.lt hbr (own_new hu0 (Nat.le_refl _))
   clear c0 c1 c2 c3 c4 c5 hbn hbr hb2 EN ix1 HS
   generalize wr.heap.size = be at *
   go_wp2_with fail
   go_loopw [19] (Q2 w W bl bo v l m n bn C i be) (fun j _=>2 - (intOf j).toNat)
   case atStart=>exact ⟨0,rfl,by omega,HS2,HE2,HO2⟩
   case round =>
    obtain ⟨j,rfl,hj,HS,HE,HO⟩:=hrel
    by_cases r:j < 2
    ·have r':decide ((j:Int) < 2) = true:=by simp; omega
     have ix2:∀ w,(Instr.index 152 (.agg #[.int .i64 n.a,.int .i64 n.b,.int .i64 (edgeC n false),.int .i64 n.a,.int .i64 n.b,.int .i64 (edgeC n true)]) (.int .i64 (j:Int))).run Tryz.prog w = .ok (.agg #[.int .i64 n.a,.int .i64 n.b,.int .i64 (edgeC n (tag2 j))]) w:=by
      intro w
      rcases (show j = 0∨j = 1 by omega) with rfl | rfl <;> rfl
     have he:=HE.out
     have x0:=he.c0
     have x1:=he.c1
     have x2:=he.c2
     have hbe:=he.lt
     have hsm1:=Lib.hid (edge_sm HM.out (tag2 i))
     have hsm2:=Lib.hid (edge_sm HN.out (tag2 j))
     have CA:=Lib.hid (crn_at l m n (i:=i) r)
     have MT:=Lib.hid fun w=>meet_any m n (edgeC m (tag2 i)) (edgeC n (tag2 j)) w HM.out HN.out hsm1.out hsm2.out
     obtain ⟨u1,hu1⟩:=HS.out.ex
     have HU:=Lib.hid hu1
     clear he hu1
     by_cases hd:detM m n = 0
     ·have PK:=Lib.hid (show pickC l m n (tag2 i) (tag2 j) = [] by unfold pickC; rw [if_pos hd])
      have EM:meetF m n (edgeC m (tag2 i)) (edgeC n (tag2 j)) = (⟨0,0,0⟩,false):=by unfold meetF; rw [if_pos hd]
      have MT2:=MT.out
      rw [EM] at MT2
      have HMT:=Lib.hid MT2
      clear hd EM MT2 MT
      go_wp2_with fail
      refine (HMT.out _).mono ?_
      rintro e w3 ⟨rfl,hb3⟩
      have hbr:Below wr.heap.size wr w3:=((Below.refl wr.heap.size wr).alloc (Nat.le_refl _) _).trans (hb3.mono (by simp))
      have HB:=Lib.hid hbr
      clear x0 x1 x2 hbe hb3 hbr
      go_wp2
      go_roundw
      case rel =>
       have hb:=HB.out.alloc HB.out.size (.cells #[.int .i64 0,.int .i64 0,.int .i64 0] 155)
       refine ⟨j + 1,by go_num,by omega,?_,HE.out.below hb,own_below HU.out.lt hb HO.out⟩
       rw [CA.out,PK.out,List.append_nil]
       exact HS.out.keep hb
      case measure=>simp [intOf]; omega
     ·have EM:meetF m n (edgeC m (tag2 i)) (edgeC n (tag2 j)) = (crossC m n (edgeC m (tag2 i)) (edgeC n (tag2 j)),true):=by unfold meetF; rw [if_neg hd]
      have MT2:=MT.out
      rw [EM] at MT2
      have HMT:=Lib.hid MT2
      have SP:=Lib.hid (cross_sm HM.out HN.out hsm1.out hsm2.out)
      have PK0:pickC l m n (tag2 i) (tag2 j) = if holdsB l (crossC m n (edgeC m (tag2 i)) (edgeC n (tag2 j))) = true then [crossC m n (edgeC m (tag2 i)) (edgeC n (tag2 j))] else []:=by unfold pickC; rw [if_neg hd]
      clear hd EM MT2 MT
      generalize crossC m n (edgeC m (tag2 i)) (edgeC n (tag2 j)) = p at *
      have HO0:=fun v w hv=>holds_any l p v w hv HEd.out SP.out
      have CNP:=Lib.hid fun w=>cr_new p w 155
      cases hh:holdsB l p with
      | false =>
       rw [hh] at HO0
       have HH:=Lib.hid HO0
       have PK:=Lib.hid (show pickC l m n (tag2 i) (tag2 j) = [] by rw [PK0,hh]; rfl)
       clear hh PK0 HO0
       go_wp2_with fail
       refine (HMT.out _).mono ?_
       rintro e w3 ⟨rfl,hb3⟩
       have hbr:Below wr.heap.size wr w3:=((Below.refl wr.heap.size wr).alloc (Nat.le_refl _) _).trans (hb3.mono (by simp))
       have HB:=Lib.hid (hbr.alloc hbr.size (.cells #[.int .i64 p.x,.int .i64 p.y,.int .i64 p.d] 155))
       have HU3:=HU.out.keep HB.out
       have k0:=HU3.lst
       have CP:=CNP.out w3
       have k1:=CP.c0
       have k2:=CP.c1
       have k3:=CP.c2
       have LV:=Lib.hid (HV.out.below HU3.below)
       clear x0 x1 x2 hbe hb3 hbr HU3 CP
       go_wp2_with fail
       refine (HH.out _ _ LV.out).mono ?_
       rintro e w4 ⟨rfl,hb4⟩
       have HB4:=Lib.hid (HB.out.trans (hb4.mono HB.out.size))
       clear k0 k1 k2 k3 hb4
       go_wp2
       go_roundw
       case rel =>
        refine ⟨j + 1,by go_num,by omega,?_,HE.out.below HB4.out,own_below HU.out.lt HB4.out HO.out⟩
        rw [CA.out,PK.out,List.append_nil]
        exact HS.out.keep HB4.out
       case measure=>simp [intOf]; omega
      | true =>
       rw [hh] at HO0
       have HH:=Lib.hid HO0
       have PK:=Lib.hid (show pickC l m n (tag2 i) (tag2 j) = [p] by rw [PK0,hh]; rfl)
       clear hh PK0 HO0
       go_wp2_with fail
       refine (HMT.out _).mono ?_
       rintro e w3 ⟨rfl,hb3⟩
       have hbr:Below wr.heap.size wr w3:=((Below.refl wr.heap.size wr).alloc (Nat.le_refl _) _).trans (hb3.mono (by simp))
       have HB:=Lib.hid (hbr.alloc hbr.size (.cells #[.int .i64 p.x,.int .i64 p.y,.int .i64 p.d] 155))
       have HU3:=HU.out.keep HB.out
       have k0:=HU3.lst
       have CP:=CNP.out w3
       have k1:=CP.c0
       have k2:=CP.c1
       have k3:=CP.c2
       have LV:=Lib.hid (HV.out.below HU3.below)
       have HCP:=Lib.hid CP
       clear x0 x1 x2 hbe hb3 hbr HU3 CP
       go_wp2_with fail
       refine (HH.out _ _ LV.out).mono ?_
       rintro e w4 ⟨rfl,hb4⟩
       have HB4:=Lib.hid (HB.out.trans (hb4.mono HB.out.size))
       have HU4:=Lib.hid (HU.out.keep HB4.out)
       have CP4:=HCP.out.below hb4
       have k0:=HU4.out.cell
       have k1:=CP4.c0
       have k2:=CP4.c1
       have k3:=CP4.c2
       have hbo4:=HU4.out.lt
       have hp4:=CP4.lt
       have SZ:(C ++ crn l m n (2 * i + j)).length≤100000:=by
        have:=crn_len l m n (2 * i + j)
        rw [List.length_append]
        omega
       have HSZ:=Lib.hid SZ
       have hB4:Hid (bo + 1≤w4.heap.size):=hbo4
       clear hb4 CP4 SZ
       go_wp2_with (at_builtin; refine Halt.mk ?_)
       unfold Halt
       refine wpList_oc rfl (.tmp 34) (.tmp 36) rfl (bo + 1) u1 (C ++ crn l m n (2 * i + j)) rfl w4 HU4.out.own _ p 1 rfl HSZ.out hB4.out ?_
       intro u2 w5 ho5 hg5 hat5
       have PU:=Lib.hid (CorI.push HU4.out HLB.out ho5 hg5 hat5)
       have hr5:∀ k,u1.ownBlock = some k→bo + 1≤k:=fun k hk=>(World.ownsRow.lt HU4.out.own k hk).1
       have hne:some bo≠u1.ownBlock:=fun e=>by have:=hr5 bo e.symm; omega
       have k5:w5.cell? ⟨bo,0,none⟩ = some u1:=hg5.cell (a:=⟨bo,0,none⟩) ((HU4.out.keep ((Below.refl _ _).alloc (Nat.le_refl _) _)).cell) hne
       have f5:w5.frozen? ⟨bo,0,none⟩ = false:=(World.frozen?_of_block (hg5.block bo (by rw [World.size_alloc]; omega) hne)).trans ((HU4.out.keep ((Below.refl _ _).alloc (Nat.le_refl _) _)).frz)
       obtain ⟨g5,cap5,hu2⟩:=Go.Joins.ownsRow_form ho5 (show 0 < ((C ++ crn l m n (2 * i + j)) ++ [p]).length by rw [List.length_append,List.length_singleton]; omega)
       obtain ⟨N5,hN5⟩:∃ N,((C ++ crn l m n (2 * i + j)) ++ [p]).length = N:=⟨_,rfl⟩
       rw [hN5] at hu2
       clear k0 k1 k2 k3 hp4 hr5 hne hg5 ho5 hat5 hN5
       subst hu2
       go_wp2
       go_roundw
       case rel =>
        have kx:=PU.out.2
        have hk4:=(keepx_below HU.out.lt HB4.out).trans kx
        have kb:=hk4.keep be HE.out.lt HO.out
        have kn:=hk4.keep bn HS.out.cp.lt HS.out.nn
        refine ⟨j + 1,by go_num,by omega,?_,HE.out.same kb.1 hk4.size,kb.2⟩
        rw [CA.out,PK.out,← List.append_assoc]
        exact ⟨⟨_,PU.out.1⟩,HS.out.kx.trans hk4,HS.out.cp.same kn.1 hk4.size,kn.2⟩
       case measure=>simp [intOf]; omega
    ·obtain rfl:j = 2:=by omega
     go_wp2
     go_roundw
     case rel=>exact ⟨i + 1,by go_num,by omega,HS⟩
     case measure=>simp [intOf]; omega
  ·obtain rfl:i = 2:=by omega
   go_wp2
   go_end0
   exact ⟨rfl,HS.out.ex,HS.out.kx⟩
set_option maxHeartbeats 200000
set_option maxRecDepth 512
theorem corners_some (l:List Ms) (b o cap:Nat) (w:World) (h:MsAt l b o w) (hc:l.length≤cap) (hm:cap≤9223372036854775807) (he:∀ m ∈ l,EdM m) (hl:l.length≤17) :
 Calls Tryz.prog 95 #[.slice (some ⟨b,o,none⟩) l.length cap] w fun e w'=>(∃ u,e = .returned u∧OC w.heap.size w' u (corL l))∧Below w.heap.size w w':=by
 have LV:LstAt l (.slice (some ⟨b,o,none⟩) l.length cap) w:=.inr ⟨b,o,cap,rfl,hc,hm,h⟩
 have HP:=Lib.hid fun W1 (h0:∃ u,CorI w w.heap.size (w.heap.size + 1) (.slice (some ⟨b,o,none⟩) l.length cap) u [] W1)=>pairs_cor l b o cap W1 ⟨w.heap.size,0,none⟩ ⟨w.heap.size + 1,0,none⟩
  (fun acc W=>∃ u,CorI w w.heap.size (w.heap.size + 1) (.slice (some ⟨b,o,none⟩) l.length cap) u (corP l acc) W) (OwnC (w.heap.size + 1)) hl hc hm
  ⟨fun acc W hi=>by obtain ⟨u,hi⟩:=hi; exact h.below hi.below,fun acc W ob hi=>by
   obtain ⟨u,hi⟩:=hi
   have hb:=(Below.refl W.heap.size W).alloc (Nat.le_refl _) ob
   exact ⟨⟨u,hi.keep hb⟩,own_alloc hi ob,fun k hk hn=>own_below hi.lt hb hn⟩⟩ h0
  (fun acc m n W hm hn hacc hi=>by
   obtain ⟨u,hi⟩:=hi
   refine (cor_fn l _ u m n w W _ _ _ hi (by omega) LV he (he m hm) (he n hn) (by have:=corP_len l acc; omega)).mono fun e w' ⟨h1,h2,h3⟩=>⟨h1,?_,h3⟩
   have e:corP l (acc ++ [(m,n)]) = corP l acc ++ crn l m n 4:=by unfold corP; rw [List.flatMap_append]; simp
   rw [e]
   exact h2)
 have H0:=Lib.hid (show ∀ t1 t2,∃ u,CorI w w.heap.size (w.heap.size + 1) (.slice (some ⟨b,o,none⟩) l.length cap) u [] ((w.alloc (.cells #[.slice (some ⟨b,o,none⟩) l.length cap] t1)).alloc (.cells #[.slice none 0 0] t2)) from fun t1 t2 =>
  ⟨.slice none 0 0,⟨((Below.refl _ _).alloc (Nat.le_refl _) _).alloc (by simp) _,by omega,by omega,by simp,by
   rw [World.cell?_alloc_some _ _ _ (by rw [World.cell?_alloc_at _ _ _ _ rfl]; rfl),World.cell?_alloc_at _ _ _ _ rfl]; rfl,by
   rw [World.cell?_alloc_at _ _ _ _ (by simp)]; rfl,by go_simp,World.ownsRow_nil _ _ _ _⟩⟩)
 clear h he LV
 go_enter Tryz.func95,Tryz.ntmps95
 go_wp2_with (go_at_call 132; refine (HP.out _ (H0.out _ _)).mono ?_; rintro e w2 ⟨rfl,u,hi⟩; have hcell:=hi.cell; have HI:=Lib.hid hi; clear hi)
 go_ret
 exact ⟨⟨u,rfl,(World.ownsRow.mono HI.out.own (by omega))⟩,HI.out.below⟩
theorem corners_nil (w:World) :
 Calls Tryz.prog 95 #[.slice none 0 0] w fun e w'=>(∃ u,e = .returned u∧OC w.heap.size w' u (corL []))∧Below w.heap.size w w':=by
 go_enter Tryz.func95,Tryz.ntmps95
 go_wp2_with (go_at_call 132; refine (pairs_nil _ _ _).mono ?_; rintro e w2 ⟨rfl,rfl⟩)
 go_ret
 exact ⟨⟨_,rfl,World.ownsRow_nil _ _ _ _⟩,((Below.refl _ _).alloc (Nat.le_refl _) _).alloc (by simp) _⟩
theorem corners_any (l:List Ms) (v:Value) (w:World) (h:LstAt l v w) (he:∀ m ∈ l,EdM m) (hl:l.length≤17) :
 Calls Tryz.prog 95 #[v] w fun e w'=>(∃ u,e = .returned u∧OC w.heap.size w' u (corL l))∧Below w.heap.size w w':=by
 rcases h with ⟨rfl,rfl⟩ | ⟨b,o,cap,rfl,h2,h3,h4⟩
 ·exact corners_nil w
 ·exact corners_some l b o cap w h4 h2 h3 he hl
end Go.Proofs.YtajmjkliblippaaGreatDoor.S44
namespace Go.Proofs.YtajmjkliblippaaGreatDoor.S44
open Go.RowKit
def cr0:Cr:=⟨0,0,0⟩
def nthC (l:List Cr) (i:Nat):Cr:=l.getD i cr0
theorem nthC_eq {l:List Cr} {i:Nat} (h:i < l.length):nthC l i = l[i]:=by
 unfold nthC
 rw [List.getD_eq_getElem?_getD,List.getElem?_eq_getElem h]
 rfl
structure CrsAt (l:List Cr) (g:Nat) (w:World):Prop where
 lt:g < w.heap.size
 c0:∀ i,i < l.length→w.cell? ⟨g,i * 3,none⟩ = some (.int .i64 (nthC l i).x)
 c1:∀ i,i < l.length→w.cell? ⟨g,i * 3 + 1,none⟩ = some (.int .i64 (nthC l i).y)
 c2:∀ i,i < l.length→w.cell? ⟨g,i * 3 + 2,none⟩ = some (.int .i64 (nthC l i).d)
theorem CrsAt.below {l:List Cr} {g:Nat} {w w':World} (h:CrsAt l g w) (hb:Below w.heap.size w w'):CrsAt l g w':=
 ⟨Nat.lt_of_lt_of_le h.lt hb.size,fun i hi=>(hb.cell (p:=⟨g,i * 3,none⟩) h.lt).trans (h.c0 i hi),fun i hi=>(hb.cell (p:=⟨g,i * 3 + 1,none⟩) h.lt).trans (h.c1 i hi),fun i hi=>(hb.cell (p:=⟨g,i * 3 + 2,none⟩) h.lt).trans (h.c2 i hi)⟩
theorem oc_cases {B:Nat} {w:World} {v:Value} {l:List Cr} (h:OC B w v l):(v = .slice none 0 0∧l = [])∨∃ g cap,v = .slice (some ⟨g,0,none⟩) l.length cap∧l.length≤cap∧cap≤9223372036854775807∧CrsAt l g w:=by
 obtain ⟨h1,h2⟩:=h
 rcases h2 with ⟨rfl,hn⟩ | ⟨g,cap,cur,rfl,hb,hg,hc,hm,hs,ht⟩
 ·exact .inl ⟨rfl,List.eq_nil_of_length_eq_zero hn⟩
 ·have hlt:g < w.heap.size:=(Array.getElem?_eq_some_iff.1 hg).1
  have hget:∀ j,j < l.length * 3→w.cell? ⟨g,j,none⟩ = (crC l)[j]?:=fun j hj=>by
   rw [← ht,List.getElem?_take,if_pos hj]
   unfold World.cell?
   rw [hg]
   simp
  unfold maxLen at hm
  refine .inr ⟨g,cap,rfl,hc,hm,hlt,fun i hi=>?_,fun i hi=>?_,fun i hi=>?_⟩
  ·rw [hget _ (by omega),nthC_eq hi]; exact (crC_get l i hi).1
  ·rw [hget _ (by omega),nthC_eq hi]; exact (crC_get l i hi).2.1
  ·rw [hget _ (by omega),nthC_eq hi]; exact (crC_get l i hi).2.2
structure Out2 (bo:Nat) (x y:Int) (W:World):Prop where
 lt:bo < W.heap.size
 c0:W.cell? ⟨bo,0,none⟩ = some (.int .i64 x)
 c1:W.cell? ⟨bo,1,none⟩ = some (.int .i64 y)
 f0:W.frozen? ⟨bo,0,none⟩ = false
 f1:W.frozen? ⟨bo,1,none⟩ = false
theorem Out2.below {bo:Nat} {x y:Int} {W w':World} (h:Out2 bo x y W) (hb:Below W.heap.size W w'):Out2 bo x y w':=
 ⟨Nat.lt_of_lt_of_le h.lt hb.size,(hb.cell (p:=⟨bo,0,none⟩) h.lt).trans h.c0,(hb.cell (p:=⟨bo,1,none⟩) h.lt).trans h.c1,(hb.frozen (p:=⟨bo,0,none⟩) h.lt).trans h.f0,(hb.frozen (p:=⟨bo,1,none⟩) h.lt).trans h.f1⟩
theorem Out2.set {bo:Nat} {x y:Int} {W:World} (h:Out2 bo x y W) (u v:Int):Out2 bo u v ((W.setCell ⟨bo,0,none⟩ (.int .i64 u)).setCell ⟨bo,1,none⟩ (.int .i64 v)):=by
 have e1:(W.setCell ⟨bo,0,none⟩ (.int .i64 u)).cell? ⟨bo,1,none⟩ = some (.int .i64 y):=by rw [World.cell?_setCell_other]; exact h.c1; intro e; injection e with _ e _; cases e
 have e0:(W.setCell ⟨bo,0,none⟩ (.int .i64 u)).cell? ⟨bo,0,none⟩ = some (.int .i64 u):=World.cell?_setCell_same' W _ _ (by rw [h.c0]; rfl)
 refine ⟨by have:=h.lt; simpa [World.setCell] using this,?_,World.cell?_setCell_same' _ _ _ (by rw [e1]; rfl),by rw [World.frozen?_setCell,World.frozen?_setCell]; exact h.f0,by rw [World.frozen?_setCell,World.frozen?_setCell]; exact h.f1⟩
 rw [World.cell?_setCell_other]
 ·exact e0
 ·intro e; injection e with _ e _; cases e
end Go.Proofs.YtajmjkliblippaaGreatDoor.S44
namespace Go.Proofs.YtajmjkliblippaaGreatDoor.S44
open Go.RowKit
theorem oc_len {B:Nat} {w:World} {v:Value} {l:List Cr} (h:OC B w v l):∃ p cap,v = .slice p l.length cap:=by
 rcases oc_cases h with ⟨rfl,rfl⟩ | ⟨g,cap,rfl,_⟩
 ·exact ⟨none,0,rfl⟩
 ·exact ⟨_,_,rfl⟩
theorem ed_of {l:List Ms} (h:chkL l = 0):(∀ m ∈ l,EdM m)∧l.length≤17:=⟨fun m hm=>OkM.ed ((chkL_ok h).2 m hm),by have:=(chkL_ok h).1; omega⟩
end Go.Proofs.YtajmjkliblippaaGreatDoor.S44
namespace Go.Proofs.YtajmjkliblippaaGreatDoor.S44
open Go.RowKit
set_option maxHeartbeats 4000000
theorem wo_some (l:List Ms) (s:Int) (b o cap:Nat) (w:World) (h:MsAt l b o w) (hc:l.length≤cap) (hm:cap≤9223372036854775807) (hl:l.length≤17) :
 Calls Tryz.prog 62 #[.slice (some ⟨b,o,none⟩) l.length cap,.int .i64 s] w fun e w'=>(∃ u,e = .returned u∧OM w.heap.size w' u (woL l s))∧Below w.heap.size w w':=by
 have H:=Lib.hid h
 have hlt:=h.lt
 clear h
 go_enter Tryz.func62,Tryz.ntmps62
 go_wp2
 go_loopw [5,10] (WoR l s w) (fun _ i _=>l.length - (intOf i).toNat)
 case atStart=>exact ⟨0,rfl,Nat.zero_le _,Lib.hid (Below.refl _ _),Lib.hid (World.ownsRow_nil _ _ _ _)⟩
 case round =>
  obtain ⟨k,rfl,hk,HB,HO⟩:=hrel
  by_cases q:k < l.length
  ·have q':decide (k < l.length) = true:=by simpa using q
   have M:=H.out.keep HB.out hlt
   have c0:=M.c0 k q
   have c1:=M.c1 k q
   have c2:=M.c2 k q
   have c3:=M.c3 k q
   have c4:=M.c4 k q
   have c5:=M.c5 k q
   have WS:=Lib.hid (woL_succ (s:=s) q)
   have SZ:=Lib.hid (show (woL (l.take k) s).length≤100000 by have:=woL_len (l.take k) s; rw [List.length_take] at this; omega)
   have HS:=Lib.hid HB.out.size
   clear M
   generalize hp:nth l k = p at *
   clear hp
   by_cases e:p.s = s
   ·have g:(p.s != s) = false:=by simpa using e
    have E:=Lib.hid e
    clear e
    go_wp2
    go_roundw
    case rel =>
     have hb:=(Below.refl wr.heap.size wr).alloc (Nat.le_refl _) (.cells #[.int .i64 p.s,.int .i64 p.a,.int .i64 p.b,.int .i64 p.z,.int .i64 p.d,.int .i64 p.w] 71)
     exact ⟨k + 1,by go_num,by omega,HB.out.trans (hb.mono HS.out),by rw [WS.out,if_pos E.out]; exact HO.out.below hb⟩
    case measure=>simp [intOf]; omega
   ·have g:(p.s != s) = true:=by simpa using e
    have HA:=Lib.hid ((Below.refl wr.heap.size wr).alloc (Nat.le_refl _) (.cells #[.int .i64 p.s,.int .i64 p.a,.int .i64 p.b,.int .i64 p.z,.int .i64 p.d,.int .i64 p.w] 71))
    go_wp2_with (at_builtin; refine Halt.mk ?_)
    unfold Halt
    refine wpList_om rfl (.tmp 18) (.tmp 20) rfl w.heap.size u5 (woL (l.take k) s) rfl (wr.alloc (.cells #[.int .i64 p.s,.int .i64 p.a,.int .i64 p.b,.int .i64 p.z,.int .i64 p.d,.int .i64 p.w] 71)) (HO.out.below HA.out) _ p 1 (by rw [World.size_alloc]; rfl) SZ.out (by have:=HS.out; simp; omega) ?_
    intro u2 w5 ho5 hg5 hat5
    have HO5:Hid (OM w.heap.size w5 u2 (woL (l.take (k + 1)) s)):=Lib.hid (by rw [WS.out,if_neg e]; exact ho5)
    have HB5:Hid (Below w.heap.size w w5):=Lib.hid (below_grown ((HB.out.trans (HA.out.mono HS.out)).alloc (by simp; have:=HS.out; omega) _) hg5 (by simp; have:=HS.out; omega) (fun k hk=>(World.ownsRow.lt HO.out k hk).1))
    clear hg5 hat5 c0 c1 c2 c3 c4 c5
    obtain ⟨g5,cap5,hu2⟩:=Go.Joins.ownsRow_form ho5 (show 0 < (woL (l.take k) s ++ [p]).length by rw [List.length_append,List.length_singleton]; omega)
    obtain ⟨N5,hN5⟩:∃ N,(woL (l.take k) s ++ [p]).length = N:=⟨_,rfl⟩
    rw [hN5] at hu2
    clear ho5 hN5
    subst hu2
    go_wp2
    go_roundw
    case rel=>exact ⟨k + 1,by go_num,by omega,HB5,HO5⟩
    case measure=>simp [intOf]; omega
  ·obtain rfl:k = l.length:=by omega
   rw [List.take_length] at HO
   rcases om_cases HO.out with ⟨rfl,hz⟩ | ⟨g,cap',rfl,_⟩
   ·go_wp2
    go_ret
    exact ⟨⟨_,rfl,HO.out⟩,HB.out⟩
   ·go_wp2
    go_ret
    exact ⟨⟨_,rfl,HO.out⟩,HB.out⟩
set_option maxHeartbeats 200000
theorem wo_any (l:List Ms) (s:Int) (v:Value) (w:World) (h:LstAt l v w) (hl:l.length≤17) :
 Calls Tryz.prog 62 #[v,.int .i64 s] w fun e w'=>(∃ u,e = .returned u∧OM w.heap.size w' u (woL l s))∧Below w.heap.size w w':=by
 rcases h with ⟨rfl,rfl⟩ | ⟨b,o,cap,rfl,h2,h3,h4⟩
 ·exact wo_nil s w
 ·exact wo_some l s b o cap w h4 h2 h3 hl
end Go.Proofs.YtajmjkliblippaaGreatDoor.S44
namespace Go.Proofs.YtajmjkliblippaaGreatDoor.S44
open Go.RowKit
set_option maxHeartbeats 4000000
theorem src_some (l:List Ms) (b o cap:Nat) (w:World) (h:MsAt l b o w) (hc:l.length≤cap) (hm:cap≤9223372036854775807) (hl:l.length≤17) :
 Calls Tryz.prog 94 #[.slice (some ⟨b,o,none⟩) l.length cap] w fun e w'=>(∃ u,e = .returned u∧OI w.heap.size w' u (srcL l))∧Below w.heap.size w w':=by
 have H:=Lib.hid h
 have hlt:=h.lt
 clear h
 go_enter Tryz.func94,Tryz.ntmps94
 go_wp2
 go_loopw [3,8] (SrR l w) (fun _ i _=>l.length - (intOf i).toNat)
 case atStart=>exact ⟨0,rfl,Nat.zero_le _,Lib.hid (Below.refl _ _),Lib.hid (World.ownsRow_nil _ _ _ _)⟩
 case round =>
  obtain ⟨k,rfl,hk,HB,HO⟩:=hrel
  by_cases q:k < l.length
  ·have q':decide (k < l.length) = true:=by simpa using q
   have M:=H.out.keep HB.out hlt
   have c0:=M.c0 k q
   have c1:=M.c1 k q
   have c2:=M.c2 k q
   have c3:=M.c3 k q
   have c4:=M.c4 k q
   have c5:=M.c5 k q
   have WS:=Lib.hid (srcs_succ q)
   have SZ:=Lib.hid (show ((l.take k).map Ms.s).length≤100000 by rw [List.length_map,List.length_take]; omega)
   have HS:=Lib.hid HB.out.size
   clear M
   generalize hp:nth l k = p at *
   clear hp
   have HA:=Lib.hid ((Below.refl wr.heap.size wr).alloc (Nat.le_refl _) (.cells #[.int .i64 p.s,.int .i64 p.a,.int .i64 p.b,.int .i64 p.z,.int .i64 p.d,.int .i64 p.w] 71))
   go_wp2_with (at_builtin; refine Halt.mk ?_)
   unfold Halt
   refine wpList_oi rfl (.tmp 12) (.tmp 15) rfl w.heap.size u3 ((l.take k).map Ms.s) rfl (wr.alloc (.cells #[.int .i64 p.s,.int .i64 p.a,.int .i64 p.b,.int .i64 p.z,.int .i64 p.d,.int .i64 p.w] 71)) (HO.out.below HA.out) _ p.s 1 (by rw [World.size_alloc]; rfl) SZ.out (by have:=HS.out; simp; omega) ?_
   intro u2 w5 ho5 hg5 hat5
   have HO5:Hid (OI w.heap.size w5 u2 ((l.take (k + 1)).map Ms.s)):=Lib.hid (by rw [WS.out]; exact ho5)
   have HB5:Hid (Below w.heap.size w w5):=Lib.hid (below_grown ((HB.out.trans (HA.out.mono HS.out)).alloc (by simp; have:=HS.out; omega) _) hg5 (by simp; have:=HS.out; omega) (fun k hk=>(World.ownsRow.lt HO.out k hk).1))
   clear hg5 hat5 c0 c1 c2 c3 c4 c5
   obtain ⟨g5,cap5,hu2⟩:=Go.Joins.ownsRow_form ho5 (show 0 < ((l.take k).map Ms.s ++ [p.s]).length by rw [List.length_append,List.length_singleton]; omega)
   obtain ⟨N5,hN5⟩:∃ N,((l.take k).map Ms.s ++ [p.s]).length = N:=⟨_,rfl⟩
   rw [hN5] at hu2
   clear ho5 hN5
   subst hu2
   go_wp2
   go_roundw
   case rel=>exact ⟨k + 1,by go_num,by omega,HB5,HO5⟩
   case measure=>simp [intOf]; omega
  ·obtain rfl:k = l.length:=by omega
   rw [List.take_length] at HO
   have HS:=HB.out.size
   have L1:(l.map Ms.s).length≤100000:=by rw [List.length_map]; omega
   have L2:(srtL l).length≤100000:=by rw [srt_len]; omega
   have SO:=Lib.hid (sort_own HO.out L1 HS)
   have CO:=Lib.hid fun w1 (h:OI w.heap.size w1 u3 (srtL l)) (hs:w.heap.size≤w1.heap.size)=>compact_own h L2 hs
   have FM:(∃ x y z,u3 = .slice x y z):=by
    rcases oi_cases HO.out with ⟨h,_⟩ | ⟨g,cap',h,_⟩
    ·exact ⟨_,_,_,h⟩
    ·exact ⟨_,_,_,h⟩
   obtain ⟨x3,y3,z3,rfl⟩:=FM
   clear HO
   go_wp2_with fail
   refine SO.out.mono ?_
   rintro e w1 ⟨rfl,ho1,hb1⟩
   have C1:=Lib.hid (CO.out w1 ho1 (Nat.le_trans HS hb1.size))
   have HB1:=Lib.hid (HB.out.trans hb1)
   clear ho1 hb1
   go_wp2_with fail
   refine C1.out.mono ?_
   rintro e w2 ⟨⟨u,rfl,ho2⟩,hb2⟩
   have HB2:=Lib.hid (HB1.out.trans hb2)
   have HO2:Hid (OI w.heap.size w2 u (srcL l)):=Lib.hid ho2
   clear hb2
   have FM:(∃ x y z,u = .slice x y z):=by
    rcases oi_cases ho2 with ⟨h,_⟩ | ⟨g,cap',h,_⟩
    ·exact ⟨_,_,_,h⟩
    ·exact ⟨_,_,_,h⟩
   obtain ⟨x4,y4,z4,rfl⟩:=FM
   clear ho2
   go_wp2
   go_ret
   exact ⟨⟨_,rfl,HO2.out⟩,HB2.out⟩
set_option maxHeartbeats 200000
theorem src_any (l:List Ms) (v:Value) (w:World) (h:LstAt l v w) (hl:l.length≤17) :
 Calls Tryz.prog 94 #[v] w fun e w'=>(∃ u,e = .returned u∧OI w.heap.size w' u (srcL l))∧Below w.heap.size w w':=by
 rcases h with ⟨rfl,rfl⟩ | ⟨b,o,cap,rfl,h2,h3,h4⟩
 ·exact src_nil w
 ·exact src_some l b o cap w h4 h2 h3 hl
end Go.Proofs.YtajmjkliblippaaGreatDoor.S44
namespace Go.Proofs.YtajmjkliblippaaGreatDoor.S44
open Go.RowKit
def okS (l:List Ms) (s:Int):Bool:=decide (0 < (corL (woL l s)).length)
def fuS (l:List Ms) (s:Int):Bool:=fullB (woL l s)
def rgtL (l:List Ms) (k:Nat):List Int:=((srcL l).take k).filter (okS l)
theorem rgtL_succ {l:List Ms} {k:Nat} (h:k < (srcL l).length):rgtL l (k + 1) = if okS l ((srcL l).getD k 0) = true then rgtL l k ++ [(srcL l).getD k 0] else rgtL l k:=by
 have e:(srcL l).getD k 0 = (srcL l)[k]:=by rw [List.getD_eq_getElem?_getD,List.getElem?_eq_getElem h]; rfl
 unfold rgtL
 rw [List.take_succ_eq_append_getElem h,List.filter_append,e]
 by_cases q:okS l (srcL l)[k] = true
 ·rw [if_pos q]
  simp [q]
 ·rw [if_neg q]
  simp [q]
theorem rgtL_len (l:List Ms) (k:Nat):(rgtL l k).length≤l.length:=by
 unfold rgtL
 have h1:=List.length_filter_le (okS l) ((srcL l).take k)
 rw [List.length_take] at h1
 have:=src_len l
 omega
def verd (c:Nat) (r:List Int):Int × Int:=if 0 < c then (0,0) else if r.length = 0 then (0,11) else if 1 < r.length then (0,8) else (r.getD 0 0,0)
def fltF (l:List Ms):Int × Int:=
 if chkL l = 0 then (if fullB l = true then (if (srcL l).all (fuS l) = true then verd (corL l).length ((srcL l).filter (okS l)) else (0,14)) else (0,14)) else (0,chkL l)
theorem wo_ed {l:List Ms} (he:∀ m ∈ l,EdM m) (s:Int):∀ m ∈ woL l s,EdM m:=fun m hm=>he m (List.mem_filter.1 hm).1
theorem slc_of {B:Nat} {w:World} {v:Value} {l:List Int} (h:OI B w v l):∃ p cap,v = .slice p l.length cap:=by
 rcases oi_cases h with ⟨rfl,rfl⟩ | ⟨g,cap,rfl,_⟩
 ·exact ⟨none,0,rfl⟩
 ·exact ⟨_,_,rfl⟩
theorem slm_of {B:Nat} {w:World} {v:Value} {l:List Ms} (h:OM B w v l):∃ p cap,v = .slice p l.length cap:=by
 rcases om_cases h with ⟨rfl,rfl⟩ | ⟨g,cap,rfl,_⟩
 ·exact ⟨none,0,rfl⟩
 ·exact ⟨_,_,rfl⟩
def FlR (l:List Ms) (w W1:World) (v u:Value) (wr:World):Prop:=
 ∃ k:Nat,u = .int .i64 k∧k≤(srcL l).length∧Hid (Below W1.heap.size W1 wr)∧Hid (OI W1.heap.size wr v (rgtL l k))∧Hid (∀ j,j < k→fuS l ((srcL l).getD j 0) = true)
def FlP (l:List Ms) (w:World) (e:Ending) (w':World):Prop:=e = .returned (.tuple #[.int .i64 (fltF l).1,.int .i64 (fltF l).2])∧Below w.heap.size w w'
set_option maxHeartbeats 8000000
theorem flt_any (l:List Ms) (v:Value) (w:World) (h:LstAt l v w) :
 Calls Tryz.prog 60 #[v] w (FlP l w):=by
 have CH:=fun w hv=>check_any l v w hv
 have H:=Lib.hid h
 clear h
 by_cases hc:chkL l = 0
 ·obtain ⟨he,hl⟩:=ed_of hc
  rw [hc] at CH
  have HCH:=Lib.hid CH
  have FU:=fun w hv=>full_any l v w hv he hl
  have CO:=Lib.hid fun w hv=>corners_any l v w hv he hl
  have SR:=Lib.hid fun w hv=>src_any l v w hv hl
  have WO:=Lib.hid fun s w hv=>wo_any l s v w hv hl
  have E0:fltF l = if fullB l = true then (if (srcL l).all (fuS l) = true then verd (corL l).length ((srcL l).filter (okS l)) else (0,14)) else (0,14):=by unfold fltF; rw [if_pos hc]
  have HE:=Lib.hid he
  clear CH hc he
  cases hf:fullB l with
  | false =>
   rw [hf] at FU
   have HFU:=Lib.hid FU
   have E:=Lib.hid (show fltF l = (0,14) by rw [E0,hf]; rfl)
   clear FU hf E0
   go_enter Tryz.func60,Tryz.ntmps60
   go_wp2_with fail
   refine (HCH.out _ H.out).mono ?_
   rintro e w1 ⟨rfl,hb1⟩
   have HB1:=Lib.hid hb1
   clear hb1
   go_wp2_with fail
   refine (HFU.out _ (H.out.below HB1.out)).mono ?_
   rintro e w2 ⟨rfl,hb2⟩
   have HB2:=Lib.hid (HB1.out.trans (hb2.mono HB1.out.size))
   clear hb2
   go_wp2
   go_ret2
   exact ⟨by rw [E.out]; rfl,HB2.out⟩
  | true =>
   rw [hf] at FU
   have HFU:=Lib.hid FU
   have E:=Lib.hid (show fltF l = if (srcL l).all (fuS l) = true then verd (corL l).length ((srcL l).filter (okS l)) else (0,14) by rw [E0,hf]; rfl)
   clear FU hf E0
   go_enter Tryz.func60,Tryz.ntmps60
   go_wp2_with fail
   refine (HCH.out _ H.out).mono ?_
   rintro e w1 ⟨rfl,hb1⟩
   have HB1:=Lib.hid hb1
   clear hb1
   go_wp2_with fail
   refine (HFU.out _ (H.out.below HB1.out)).mono ?_
   rintro e w2 ⟨rfl,hb2⟩
   have HB2:=Lib.hid (HB1.out.trans (hb2.mono HB1.out.size))
   clear hb2
   go_wp2_with fail
   refine (SR.out _ (H.out.below HB2.out)).mono ?_
   rintro e w3 ⟨⟨u,rfl,hoi⟩,hb3⟩
   have HB3:=Lib.hid (HB2.out.trans (hb3.mono HB2.out.size))
   have HOI:=Lib.hid hoi
   have HL:=Lib.hid (H.out.below HB3.out)
   clear hb3
   obtain ⟨p,cap,rfl⟩:=slc_of hoi
   clear hoi
   go_wp2_with fail
   go_loopw [5,22] (FlR l w w3) (fun _ i _=>(srcL l).length - (intOf i).toNat)
   case atStart=>exact ⟨0,rfl,Nat.zero_le _,Lib.hid (Below.refl _ _),Lib.hid (by unfold rgtL; rw [List.take_zero,List.filter_nil]; exact World.ownsRow_nil _ _ _ _),Lib.hid fun j hj=>absurd hj (by omega)⟩
   case round =>
    obtain ⟨k,rfl,hk,HB,HO,HF⟩:=hrel
    have HS:=Lib.hid HB.out.size
    have HLr:=Lib.hid (HL.out.below HB.out)
    have HBr:=Lib.hid (HB3.out.trans (HB.out.mono HB3.out.size))
    by_cases q:k < (srcL l).length
    ·have q':decide (k < (srcL l).length) = true:=by simpa using q
     have HPO:∃ g,p = some ⟨g,0,none⟩∧(srcL l).length≤cap∧cap≤9223372036854775807∧IntsAt (srcL l) g wr:=by
      rcases oi_cases HOI.out with ⟨e,hz⟩ | ⟨g,c,e,h1,h2,_,h3⟩
      ·rw [hz] at q; exact absurd q (by simp)
      ·cases e
       exact ⟨g,rfl,h1,h2,h3.below HB.out⟩
     obtain ⟨g,rfl,hcap,hcm,hia⟩:=HPO
     have c0:=hia.c k q
     have RS:=Lib.hid (rgtL_succ q)
     have MEM:(srcL l).getD k 0 ∈ srcL l:=by
      rw [List.getD_eq_getElem?_getD,List.getElem?_eq_getElem q]
      exact List.getElem_mem q
     have FALLS:=fun h:fuS l ((srcL l).getD k 0) = false=>show fltF l = (0,14) by
      rw [E.out,if_neg]
      intro e
      have:=List.all_eq_true.1 e _ MEM
      rw [h] at this
      cases this
     have HFA:=Lib.hid FALLS
     have SZ:=Lib.hid (show (rgtL l k).length≤100000 by have:=rgtL_len l k; omega)
     clear hia MEM FALLS
     generalize hsk:(srcL l).getD k 0 = s at *
     have HSK:=Lib.hid hsk
     clear hsk
     have FUS:=Lib.hid fun v w (h:LstAt (woL l s) v w)=>full_any (woL l s) v w h (wo_ed HE.out s) (by have:=woL_len l s; omega)
     have COS:=Lib.hid fun v w (h:LstAt (woL l s) v w)=>corners_any (woL l s) v w h (wo_ed HE.out s) (by have:=woL_len l s; omega)
     have EFU:=Lib.hid (show fuS l s = fullB (woL l s) from rfl)
     go_wp2_with fail
     refine (WO.out s _ HLr.out).mono ?_
     rintro e w4 ⟨⟨u4,rfl,hom⟩,hb4⟩
     have HL4:=Lib.hid hom.lst
     have HB4:=Lib.hid hb4
     clear hb4
     obtain ⟨p4,cap4,rfl⟩:=slm_of hom
     clear hom
     generalize hN4:(woL l s).length = N4 at *
     clear hN4
     have FU4:=FUS.out _ _ HL4.out
     rw [← EFU.out] at FU4
     cases hfs:fuS l s with
     | false =>
      have EE:=Lib.hid (HFA.out hfs)
      rw [hfs] at FU4
      have HFU4:=Lib.hid FU4
      clear FU4 hfs
      go_wp2_with fail
      refine HFU4.out.mono ?_
      rintro e w5 ⟨rfl,hb5⟩
      have HB5:=Lib.hid ((HBr.out.trans (HB4.out.mono HBr.out.size)).trans (hb5.mono (by have:=HBr.out.size; have:=HB4.out.size; omega)))
      clear hb5
      go_wp2
      go_ret2
      exact ⟨by rw [EE.out]; rfl,HB5.out⟩
     | true =>
      have HFk:=Lib.hid (show ∀ j,j < k→fuS l ((srcL l).getD j 0) = true from HF.out)
      rw [hfs] at FU4
      have HFU4:=Lib.hid FU4
      have HFS:=Lib.hid hfs
      clear FU4 hfs
      go_wp2_with fail
      refine HFU4.out.mono ?_
      rintro e w5 ⟨rfl,hb5⟩
      have HL5:=Lib.hid (HL4.out.below hb5)
      have HB5:=Lib.hid (HB4.out.trans (hb5.mono HB4.out.size))
      clear hb5
      go_wp2_with fail
      refine (COS.out _ _ HL5.out).mono ?_
      rintro e w6 ⟨⟨u6,rfl,hoc⟩,hb6⟩
      obtain ⟨p6,cap6,rfl⟩:=oc_len hoc
      have HB6:=Lib.hid (HB5.out.trans (hb6.mono HB5.out.size))
      clear hb6 hoc
      have HR6:=Lib.hid (show Below w3.heap.size w3 w6 from HB.out.trans (HB6.out.mono HS.out))
      have HO6:=Lib.hid (HO.out.below HB6.out)
      have OKE:=Lib.hid (show okS l s = decide (0 < (corL (woL l s)).length) from rfl)
      generalize (corL (woL l s)).length = N6 at *
      have HF2:Hid (∀ j,j < k + 1→fuS l ((srcL l).getD j 0) = true):=Lib.hid fun j hj=>by
       by_cases e:j = k
       ·rw [e,HSK.out]; exact HFS.out
       ·exact HFk.out j (by omega)
      by_cases hz:0 < N6
      ·have gz:decide (0 < (N6:Int)) = true:=by simp; omega
       have gz2:decide (0 < N6) = true:=by simpa using hz
       have RS2:=Lib.hid (RS.out.trans (if_pos (by rw [OKE.out]; exact decide_eq_true hz)))
       have HS6:=Lib.hid (show w3.heap.size≤w6.heap.size from HR6.out.size)
       clear hz
       go_wp2_with (at_builtin; refine Halt.mk ?_)
       unfold Halt
       refine wpList_oi rfl (.tmp 36) (.tmp 38) rfl w3.heap.size u5 (rgtL l k) rfl w6 HO6.out _ s 1 rfl SZ.out HS6.out ?_
       intro u2 w7 ho7 hg7 hat7
       have HO7:Hid (OI w3.heap.size w7 u2 (rgtL l (k + 1))):=Lib.hid (by rw [RS2.out]; exact ho7)
       have HB7:Hid (Below w3.heap.size w3 w7):=Lib.hid (below_grown (HR6.out.alloc HS6.out _) hg7 (by simp; have:=HS6.out; omega) (fun k hk=>(World.ownsRow.lt HO6.out k hk).1))
       clear hg7 hat7
       obtain ⟨g7,cap7,hu2⟩:=Go.Joins.ownsRow_form ho7 (show 0 < (rgtL l k ++ [s]).length by rw [List.length_append,List.length_singleton]; omega)
       obtain ⟨N7,hN7⟩:∃ N,(rgtL l k ++ [s]).length = N:=⟨_,rfl⟩
       rw [hN7] at hu2
       clear ho7 hN7
       subst hu2
       go_wp2
       go_roundw
       case rel=>exact ⟨k + 1,by go_num,by omega,HB7,HO7,HF2⟩
       case measure=>simp [intOf]; omega
      ·have gz:decide (0 < (N6:Int)) = false:=by simp; omega
       have gz2:decide (0 < N6) = false:=by simpa using hz
       have RS2:=Lib.hid (RS.out.trans (if_neg (by rw [OKE.out]; simpa using hz)))
       clear hz
       go_wp2
       go_roundw
       case rel=>exact ⟨k + 1,by go_num,by omega,HR6,Lib.hid (by rw [RS2.out]; exact HO6.out),HF2⟩
       case measure=>simp [intOf]; omega
    ·obtain rfl:k = (srcL l).length:=by omega
     have q':decide ((srcL l).length < (srcL l).length) = false:=by simp
     have ER:rgtL l (srcL l).length = (srcL l).filter (okS l):=by unfold rgtL; rw [List.take_length]
     have HALL:(srcL l).all (fuS l) = true:=List.all_eq_true.2 fun x hx=>by
      obtain ⟨i,hi,rfl⟩:=List.getElem_of_mem hx
      have:=HF.out i hi
      rw [List.getD_eq_getElem?_getD,List.getElem?_eq_getElem hi] at this
      exact this
     have EV:=Lib.hid (show fltF l = verd (corL l).length (rgtL l (srcL l).length) by rw [E.out,if_pos HALL,ER])
     have COR:=Lib.hid (CO.out _ HLr.out)
     clear ER HALL hk q
     generalize rgtL l (srcL l).length = r at *
     go_wp2_with fail
     refine COR.out.mono ?_
     rintro e w4 ⟨⟨u4,rfl,hoc⟩,hb4⟩
     have HB4:=Lib.hid (HBr.out.trans (hb4.mono HBr.out.size))
     have HO4:=Lib.hid (HO.out.below hb4)
     obtain ⟨p4,cap4,rfl⟩:=oc_len hoc
     clear hb4 hoc
     generalize (corL l).length = N4 at *
     by_cases hz:0 < N4
     ·have gz:decide (0 < (N4:Int)) = true:=by simp; omega
      have gz2:decide (0 < N4) = true:=by simpa using hz
      have EE:=Lib.hid (show fltF l = (0,0) by rw [EV.out]; unfold verd; rw [if_pos hz])
      clear hz
      go_wp2
      go_ret2
      exact ⟨by rw [EE.out]; rfl,HB4.out⟩
     ·have gz:decide (0 < (N4:Int)) = false:=by simp; omega
      have gz2:decide (0 < N4) = false:=by simpa using hz
      have EV2:=Lib.hid (show fltF l = if r.length = 0 then (0,11) else if 1 < r.length then (0,8) else (r.getD 0 0,0) by rw [EV.out]; unfold verd; rw [if_neg hz])
      clear hz
      obtain ⟨M,hM⟩:∃ M,r.length = M:=⟨_,rfl⟩
      rw [hM] at EV2
      by_cases h0:M = 0
      ·have EE:=Lib.hid (EV2.out.trans (if_pos h0))
       have g0:((M:Int) == 0) = true:=by rw [beq_iff_eq]; omega
       obtain ⟨p8,cap8,hu8⟩:=slc_of HO4.out
       rw [hM] at hu8
       subst hu8
       clear h0
       go_wp2
       go_ret2
       exact ⟨by rw [EE.out]; rfl,HB4.out⟩
      ·have EV3:=Lib.hid (EV2.out.trans (if_neg h0))
       have g0:((M:Int) == 0) = false:=by rw [beq_eq_false_iff_ne]; omega
       by_cases h1:1 < M
       ·have EE:=Lib.hid (EV3.out.trans (if_pos h1))
        have g1:decide (1 < (M:Int)) = true:=by simp; omega
        have g1':decide (1 < M) = true:=by simpa using h1
        obtain ⟨p8,cap8,hu8⟩:=slc_of HO4.out
        rw [hM] at hu8
        subst hu8
        clear h0 h1
        go_wp2
        go_ret2
        exact ⟨by rw [EE.out]; rfl,HB4.out⟩
       ·have EE:=Lib.hid (EV3.out.trans (if_neg h1))
        have g1:decide (1 < (M:Int)) = false:=by simp; omega
        have g1':decide (1 < M) = false:=by simpa using h1
        have hp:0 < r.length:=by omega
        rcases oi_cases HO4.out with ⟨_,hz⟩ | ⟨g8,cap8,hu8,c1,c2,_,hia⟩
        ·rw [hz] at hp; exact absurd hp (by simp)
        ·have c0:=hia.c 0 hp
         rw [hM] at hu8 c1
         subst hu8
         obtain rfl:M = 1:=by omega
         clear h0 h1 hia
         generalize r.getD 0 0 = x8 at *
         go_wp2
         go_ret2
         exact ⟨by rw [EE.out]; rfl,HB4.out⟩
 ·have g:(chkL l != 0) = true:=by simpa using hc
  have HCH:=Lib.hid CH
  have E:=Lib.hid (show fltF l = (0,chkL l) by unfold fltF; rw [if_neg hc])
  clear CH hc
  generalize chkL l = c at *
  go_enter Tryz.func60,Tryz.ntmps60
  go_wp2_with fail
  refine (HCH.out _ H.out).mono ?_
  rintro e w1 ⟨rfl,hb1⟩
  have HB1:=Lib.hid hb1
  clear hb1
  go_wp2
  go_ret2
  exact ⟨by rw [E.out]; rfl,HB1.out⟩
end Go.Proofs.YtajmjkliblippaaGreatDoor.S44
