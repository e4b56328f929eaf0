/-
  The walk of navigator.Text.
-/
import Derived.Test.YtajmjkliblippaaGreatDoorQ14
import Derived.Test.YtajmjkliblippaaGreatDoorQ20
import Derived.Test.YtajmjkliblippaaGreatDoorQ30
set_option linter.unusedVariables false
namespace Go.Proofs.YtajmjkliblippaaGreatDoor
open Go.RowKit Tx
def txN (l:List Int):List UInt8:=match l with | []=>[] | n :: r=>joinN (Lib.itoa n) r
theorem txN_snoc {l:List Int} (h:l≠[]) (n:Int):txN (l ++ [n]) = txN l ++ [32] ++ Lib.itoa n:=by
 cases l with
 | nil=>exact absurd rfl h
 | cons a r=>exact joinN_snoc _ _ _
theorem txN_len (l:List Int) (h:∀ n ∈ l,-9223372036854775808≤n∧n≤9223372036854775807) (hl:l.length≤6):(txN l).length≤200:=by
 cases l with
 | nil=>simp [txN]
 | cons a r =>
  have h1:=Lib.itoa_length_le a (h a (by simp)).1 (h a (by simp)).2
  have h2:=joinN_len (Lib.itoa a) r (fun n hn=>h n (by simp [hn]))
  show (joinN (Lib.itoa a) r).length≤200
  simp only [List.length_cons] at hl
  omega
def TsR (w1:World) (nums:List Int) (s3 s28:Value) (w':World):Prop:=∃ j:Nat,j≤6∧s28 = .int .i64 j∧OB w1.heap.size w' s3 (txN (nums.take j))∧Below w1.heap.size w1 w'
def textS (b:Bx4) (t m:Int):List UInt8:=if chkS b t m = 0 then txN [b.cx,b.cy,b.x,b.y,t,m] else []
set_option maxHeartbeats 40000000
set_option maxRecDepth 100000
theorem textS_any (b:Bx4) (t m:Int) (w:World) (hE:Env w):Calls Tryz.prog 25 #[.agg #[.int .i64 b.cx,.int .i64 b.cy,.int .i64 b.x,.int .i64 b.y,.int .i64 t,.int .i64 m]] w fun e w'=>e = .returned (.string ⟨(textS b t m).toArray⟩)∧Below w.heap.size w w':=by
 have HE:=Lib.hid hE
 have C0:=fun w=>ncheck_any b t m w
 unfold textS
 by_cases h:chkS b t m = 0
 ·rw [if_pos h]
  obtain ⟨hv,⟨t0,t1⟩,m0,m1⟩:=chkS_ok h
  have v:=bxV_iff.1 hv
  have NB:=Lib.hid (show ∀ n ∈ [b.cx,b.cy,b.x,b.y,t,m],-9223372036854775808≤n∧n≤9223372036854775807 by intro n hn; simp only [List.mem_cons,List.not_mem_nil,or_false] at hn; omega)
  rw [h] at C0
  have CK:=Lib.hid C0
  clear C0 h hv v t0 t1 m0 m1 hE
  obtain ⟨cx,cy,x,y⟩:=b
  simp only at CK NB ⊢
  obtain ⟨KS,HB⟩:=ent1 w #[.int .i64 cx,.int .i64 cy,.int .i64 x,.int .i64 y,.int .i64 t,.int .i64 m] 27
  go_enter Tryz.func25,Tryz.ntmps25
  obtain ⟨yS0,yS1,yS2,yS3,yS4,yS5,ySz⟩:=blk6 KS
  go_wp2_with fail
  clear yS0 yS1 yS2 yS3 yS4 yS5 ySz
  generalize w.alloc _ = w0 at *
  refine (CK.out _).mono ?_
  rintro e1 w1 ⟨rfl,hb1⟩
  replace HB:=hT HB hb1
  replace KS:=hK KS hb1
  clear hb1
  obtain ⟨yS0,yS1,yS2,yS3,yS4,yS5,ySz⟩:=blk6 KS
  have HT:=Lib.hid (Lib.tabBelow_of_tabIs (HE.out.below HB.out).tab)
  go_wp2
  clear yS0 yS1 yS2 yS3 yS4 yS5 ySz
  go_loopw [3,28] (TsR w1 [cx,cy,x,y,t,m]) (fun _ i _=>6 - (intOf i).toNat)
  case atStart=>exact ⟨0,by omega,rfl,World.ownsRow_nil _ _ _ _,Below.refl _ _⟩
  case round =>
   obtain ⟨j,hj,rfl,hown,hbw⟩:=hrel
   have hz:w1.heap.size≤wr.heap.size:=hbw.size
   have hlen:=txN_len ([cx,cy,x,y,t,m].take j) (fun n hn=>NB.out n (List.mem_of_mem_take hn)) (by rw [List.length_take]; omega)
   have HO:=Lib.hid hown
   have HBW:=Lib.hid hbw
   have HTW:=Lib.hid (HT.out.on hbw)
   clear hown hbw
   by_cases hlt:j < 6
   ·obtain ⟨n,hn,hn0,hn1,hx⟩:∃ n:Int,(∀ w,(Instr.index 81 (.agg #[.int .i64 cx,.int .i64 cy,.int .i64 x,.int .i64 y,.int .i64 t,.int .i64 m]) (.int .i64 (j:Int))).run Tryz.prog w = .ok (.int .i64 n) w)∧-9223372036854775808≤n∧n≤9223372036854775807∧[cx,cy,x,y,t,m].take (j + 1) = [cx,cy,x,y,t,m].take j ++ [n]:=by
     have nb:=NB.out
     rcases (show j = 0∨j = 1∨j = 2∨j = 3∨j = 4∨j = 5 by omega) with rfl | rfl | rfl | rfl | rfl | rfl
     ·exact ⟨cx,fun _=>by kernel_rfl,(nb cx (by simp)).1,(nb cx (by simp)).2,rfl⟩
     ·exact ⟨cy,fun _=>by kernel_rfl,(nb cy (by simp)).1,(nb cy (by simp)).2,rfl⟩
     ·exact ⟨x,fun _=>by kernel_rfl,(nb x (by simp)).1,(nb x (by simp)).2,rfl⟩
     ·exact ⟨y,fun _=>by kernel_rfl,(nb y (by simp)).1,(nb y (by simp)).2,rfl⟩
     ·exact ⟨t,fun _=>by kernel_rfl,(nb t (by simp)).1,(nb t (by simp)).2,rfl⟩
     ·exact ⟨m,fun _=>by kernel_rfl,(nb m (by simp)).1,(nb m (by simp)).2,rfl⟩
    by_cases h0:j = 0
    ·have g0:decide (0 < j) = false:=by simp; omega
     have g0':decide ((0:Int) < (j:Int)) = false:=by simp; omega
     have HX:=Lib.hid (show txN ([cx,cy,x,y,t,m].take (j + 1)) = [] ++ Lib.itoa n by rw [hx]; subst h0; rfl)
     have HO0:=Lib.hid (show OB w1.heap.size wr u3 [] by have:=HO.out; subst h0; exact this)
     clear HO hx h0 hlen
     go_wp2_with fail
     refine (apint w1.heap.size n [] _ wr hn0 hn1 HO0.out hz (by simp) HTW.out).mono ?_
     rintro e w5 ⟨v5,rfl,ho5,hb5⟩
     have HO5:=Lib.hid ho5
     have HB5:=Lib.hid (HBW.out.trans hb5)
     clear ho5 hb5 hn
     go_wp2
     go_roundw
     case rel=>exact ⟨j + 1,by omega,by go_num,by rw [HX.out]; exact HO5.out,HB5.out⟩
     case measure=>simp [intOf]; omega
    ·have g0:decide (0 < j) = true:=by simp; omega
     have g0':decide ((0:Int) < (j:Int)) = true:=by simp; omega
     have HX:=Lib.hid (show txN ([cx,cy,x,y,t,m].take (j + 1)) = txN ([cx,cy,x,y,t,m].take j) ++ [32] ++ Lib.itoa n by rw [hx]; exact txN_snoc (by intro e; have:=congrArg List.length e; rw [List.length_take] at this; simp at this; omega) n)
     clear hx h0
     generalize txN ([cx,cy,x,y,t,m].take j) = acc at *
     go_wp2_with (at_builtin; refine Halt.mk ?_)
     unfold Halt
     refine wpList_ob rfl _ _ rfl w1.heap.size _ acc (by first | rfl | assumption) wr HO.out _ _ [32] 1 rfl rfl (by simp; omega) hz ?_
     intro v4 w4 ho4 hb4
     have hz4:w1.heap.size≤w4.heap.size:=by have:=hb4.size; omega
     have HO4:=Lib.hid ho4
     have HT4:=Lib.hid (HTW.out.on hb4)
     have HB4:=Lib.hid (HBW.out.trans hb4)
     clear ho4 hb4
     go_wp2_with fail
     refine (apint w1.heap.size n (acc ++ [32]) v4 w4 hn0 hn1 HO4.out hz4 (by simp; omega) HT4.out).mono ?_
     rintro e w5 ⟨v5,rfl,ho5,hb5⟩
     have HO5:=Lib.hid ho5
     have HB5:=Lib.hid (HB4.out.trans hb5)
     clear ho5 hb5 hn
     go_wp2
     go_roundw
     case rel=>exact ⟨j + 1,by omega,by go_num,by rw [HX.out]; exact HO5.out,HB5.out⟩
     case measure=>simp [intOf]; omega
   ·obtain rfl:j = 6:=by omega
    have e6:[cx,cy,x,y,t,m].take 6 = [cx,cy,x,y,t,m]:=rfl
    rw [e6] at HO hlen
    obtain ⟨g,cap,hg,hconv⟩:=HO.out.conv (by show 0 < (txN ([cx,cy,x,y,t] ++ [m])).length; rw [txN_snoc (by simp)]; simp only [List.length_append,List.length_cons,List.length_nil]; omega)
    subst hg
    clear hlt e6
    go_wp2
    go_ret
    exact ⟨rfl,HB.out.trans (HBW.out.mono HB.out.size)⟩
 ·rw [if_neg h]
  have ge:(chkS b t m != 0) = true:=by simpa using h
  have CK:=Lib.hid C0
  clear C0 h hE
  generalize chkS b t m = e at *
  obtain ⟨cx,cy,x,y⟩:=b
  simp only at CK
  obtain ⟨KS,HB⟩:=ent1 w #[.int .i64 cx,.int .i64 cy,.int .i64 x,.int .i64 y,.int .i64 t,.int .i64 m] 27
  go_enter Tryz.func25,Tryz.ntmps25
  obtain ⟨yS0,yS1,yS2,yS3,yS4,yS5,ySz⟩:=blk6 KS
  go_wp2_with fail
  clear yS0 yS1 yS2 yS3 yS4 yS5 ySz
  generalize w.alloc _ = w0 at *
  refine (CK.out _).mono ?_
  rintro e1 w1 ⟨rfl,hb1⟩
  replace HB:=hT HB hb1
  replace KS:=hK KS hb1
  clear hb1
  go_wp2
  go_ret
  exact ⟨rfl,HB.out⟩
end Go.Proofs.YtajmjkliblippaaGreatDoor
