/-
  Walks and laws of the layers below, gathered from several texts.
-/
import Derived.Test.YtajmjkliblippaaGreatDoorEnv41Q
import Derived.Laws.AppendOwn
import Derived.Laws.OwnMore
import Derived.Laws.IdiomStrings
import Derived.Lib.SmallJoins
import Derived.OwnWalk
import Derived.Lib.BufferWrite
import Derived.LoopTactic
set_option linter.unusedVariables false
namespace Go.Proofs.YtajmjkliblippaaGreatDoor.Tx
open Go.RowKit
def OB (B:Nat) (w:World) (v:Value) (l:List UInt8):Prop:=w.ownsRow B 5 1 v l.length (Lib.byteCells l)
theorem apint (B : Nat) (i : Int) (l : List UInt8) (v : Value) (w : World) (h0 : -9223372036854775808 ≤ i) (h1 : i ≤ 9223372036854775807) (h : OB B w v l) (hB : B ≤ w.heap.size) (hl : l.length ≤ 1000) (ht : Lib.TabBelow Tryz.prog B w "internal/strconv.uint64pow10" .u64 Lib.pow10Tab) :
 Calls Tryz.prog 52 #[v,.int .i64 i,.int .i64 10] w fun e w'=>∃ v',e = .returned v'∧OB B w' v' (l ++ Lib.itoa i)∧Below B w w':=by
 refine (Tryz.strconv_AppendInt_10 B l.length i h0 h1 v _ w h hB (by omega) ht).mono fun e w' ⟨v',he,ho,hb,_⟩=>⟨v',he,?_,hb⟩
 unfold OB
 rw [List.length_append,Lib.byteCells_append]
 exact ho
theorem infoU8:(Tryz.prog.info? 5).map (fun i=>(i.zero,i.size,i.bytes)) = some (some (.int .u8 0),1,1):=by kernel_rfl
theorem OB.conv {B:Nat} {w:World} {v:Value} {l:List UInt8} (h:OB B w v l) (hl:0 < l.length) :
 ∃ g cap,v = .slice (some ⟨g,0,none⟩) l.length cap∧(convert 80 9 (.slice (some ⟨g,0,none⟩) l.length cap)).run Tryz.prog w = .ok (.string ⟨l.toArray⟩) w:=by
 obtain ⟨g,cap,rfl⟩:=Go.Joins.ownsRow_form h hl
 refine ⟨g,cap,rfl,run_convert_bytes_back w _ _ 5 _ cap l Tryz.underlying80 Tryz.underlying5 Tryz.underlying9 fun j hj=>?_⟩
 refine h.cells rfl j _ ?_
 unfold Lib.byteCells
 rw [List.getElem?_map,List.getElem?_eq_getElem hj]
 rfl
def Halt (p:Prop):Prop:=p
theorem Halt.mk {p:Prop} (h:Halt p):p:=h
theorem wpList_ob {ops:Array Oper} {rest:List Oper} {o:Oper} {a:Act} {Q:Exit→Act→World→Prop} (hgd:o.guard = none) (s x:Operand)
 (ho:o.op = .call { callee:=.builtin .append,args:=#[s,x],argTypes:=#[80,80] })
 (B:Nat) (v:Value) (l:List UInt8) (hs:a.eval s = v) (w0:World) (h:OB B w0 v l) (T:TypeId) (cs:Array Value) (k:List UInt8) (c:Nat) (hcs:cs.toList = Lib.byteCells k)
 (hx:a.eval x = .slice (some ⟨w0.heap.size,0,none⟩) k.length c) (hl:l.length + k.length≤100000) (hB:B≤w0.heap.size)
 (H:∀ v' w',OB B w' v' (l ++ k)→Below B w0 w'→wpList Tryz.prog ops Q rest (a.put o.dst v') w'):wpList Tryz.prog ops Q (o :: rest) a (w0.alloc (.cells cs T)):=by
 obtain ⟨i0,hi,hz0,hz1,hz2⟩:=info_parts infoU8
 refine wpList_append_own _ hgd s x 80 ho B 5 i0 (.int .u8 0) 1 1 Tryz.underlying80 hi hz0 hz1 hz2 rfl (by decide) v l.length (Lib.byteCells l) hs (World.ownsRow.alloc h _) ⟨w0.heap.size,0,none⟩ k.length c (Lib.byteCells k) hx (by rw [Lib.byteCells_length]; omega) ?_ ?_ (by unfold maxLen; omega) (by omega) (by simp; omega) ?_
 ·intro j u hu
  have hadd:(⟨w0.heap.size,0,none⟩:Addr).add j = ⟨w0.heap.size,j,none⟩:=by unfold Addr.add; split <;> simp_all
  rw [hadd,World.cell?_alloc_at _ _ _ _ (by rfl)]
  rw [← hcs] at hu
  simpa using hu
 ·intro u hu
  exact Lib.byteCells_one k u hu
 ·intro v' w' ho' hg _
  refine H v' w' (by unfold OB; rw [List.length_append,Lib.byteCells_append]; exact ho') ?_
  refine (((Below.refl B w0).alloc hB (.cells cs T))).grown hg (by simp; omega) ?_
  intro q hq
  exact (World.ownsRow.lt h q hq).1
def joinN (acc:List UInt8) (l:List Int):List UInt8:=l.foldl (fun a n=>a ++ [32] ++ Lib.itoa n) acc
theorem joinN_snoc (acc:List UInt8) (l:List Int) (n:Int):joinN acc (l ++ [n]) = joinN acc l ++ [32] ++ Lib.itoa n:=by
 unfold joinN; rw [List.foldl_append]; rfl
theorem joinN_len (acc:List UInt8) (l:List Int) (h:∀ n ∈ l,-9223372036854775808≤n∧n≤9223372036854775807):(joinN acc l).length≤acc.length + 22 * l.length:=by
 induction l generalizing acc with
 | nil=>simp [joinN]
 | cons a r ih =>
  have h1:=Lib.itoa_length_le a (h a (by simp)).1 (h a (by simp)).2
  have h2:=ih (acc ++ [32] ++ Lib.itoa a) (fun n hn=>h n (by simp [hn]))
  show (joinN (acc ++ [32] ++ Lib.itoa a) r).length≤_
  simp only [List.length_append,List.length_cons,List.length_nil] at h2 ⊢
  omega
end Go.Proofs.YtajmjkliblippaaGreatDoor.Tx
