/-
  Walks and laws of the layers below, gathered from several texts.
-/
import Derived.Test.YtajmjkliblippaaGreatDoorQ1
import Derived.Test.YtajmjkliblippaaGreatDoorQ6
import Derived.Test.YtajmjkliblippaaGreatDoorQ7
import Derived.Test.YtajmjkliblippaaGreatDoorQ8
import Derived.Test.YtajmjkliblippaaGreatDoorQ9
import Derived.Test.YtajmjkliblippaaGreatDoorQ10
import Derived.Test.YtajmjkliblippaaGreatDoorQ12
set_option linter.unusedVariables false
namespace Go.Proofs.YtajmjkliblippaaGreatDoor
open Go.RowKit
def cvM (m:S41.Ms):Ms:=⟨m.s,m.a,m.b,m.z,m.d,m.w⟩
def rowsN (r:Rp) (cx cy bx b2:Int):List Ms × Int:=((S41.rowsF r.s r.k r.x r.y r.v r.b r.wt r.t cx cy bx b2).1.map cvM,(S41.rowsF r.s r.k r.x r.y r.v r.b r.wt r.t cx cy bx b2).2)
theorem msC_cv (l:List S41.Ms):l.flatMap S41.msV = msC (l.map cvM):=by
 unfold msC
 rw [List.flatMap_map]
 rfl
def RowN (w:World) (l:List Ms) (u:Value) (w':World):Prop:=
 (l = []∧u = .slice none 0 0)∨∃ k:Nat,l≠[]∧u = .slice (some ⟨k,0,none⟩) l.length l.length∧w.heap.size≤k∧w'.heap[k]? = some (.cells (msC l).toArray 71)
theorem rowsN_any (r:Rp) (cx cy bx b2:Int) (w:World) (k0:0≤r.k) (k1:r.k≤255) :
 Calls Tryz.prog 20 #[.agg #[.int .i64 r.s,.int .u8 r.k,.int .i64 r.x,.int .i64 r.y,.int .i64 r.v,.int .i64 r.b,.int .i64 r.wt,.int .i64 r.t],.agg #[.int .i64 cx,.int .i64 cy,.int .i64 bx,.int .i64 b2]] w fun e w'=>∃ u,e = .returned (.tuple #[u,.int .i64 (rowsN r cx cy bx b2).2])∧RowN w (rowsN r cx cy bx b2).1 u w'∧Below w.heap.size w w':=
 (S41.rows_any r.s r.k r.x r.y r.v r.b r.wt r.t cx cy bx b2 w k0 k1).mono fun e w' ⟨u,h1,h2,h3⟩=>by
  refine ⟨u,h1,?_,h3⟩
  unfold rowsN RowN
  rcases h2 with ⟨a,b⟩ | ⟨k,a,b,c,d⟩
  ·exact .inl ⟨by simp only [a,List.map_nil],b⟩
  ·exact .inr ⟨k,by simpa using a,by simpa using b,c,by rw [d,msC_cv]⟩
theorem rowsN_len (r:Rp) (cx cy bx b2:Int):(rowsN r cx cy bx b2).1.length≤2:=by
 unfold rowsN
 rw [List.length_map]
 rcases S41.rows_small (s:=r.s) (k:=r.k) (x:=r.x) (y:=r.y) (v:=r.v) (b:=r.b) (wt:=r.wt) (t:=r.t) (cx:=cx) (cy:=cy) (bx:=bx) (b2:=b2) with ⟨_,h⟩ | ⟨_,⟨m,h,_⟩ | ⟨_,m,n,h,_⟩⟩ <;> rw [h] <;> simp
theorem rowsN_bad {r:Rp} {cx cy bx b2:Int} (h0:(rowsN r cx cy bx b2).2≠0):(rowsN r cx cy bx b2).1 = []:=by
 unfold rowsN at *
 simp only at *
 rcases S41.rows_small (s:=r.s) (k:=r.k) (x:=r.x) (y:=r.y) (v:=r.v) (b:=r.b) (wt:=r.wt) (t:=r.t) (cx:=cx) (cy:=cy) (bx:=bx) (b2:=b2) with ⟨_,h⟩ | ⟨h,_⟩
 ·rw [h]; rfl
 ·exact absurd h h0
theorem rowsN_good {r:Rp} {cx cy bx b2:Int} (h0:(rowsN r cx cy bx b2).2 = 0):(rowsN r cx cy bx b2).1≠[]:=by
 unfold rowsN at *
 simp only at *
 rcases S41.rows_small (s:=r.s) (k:=r.k) (x:=r.x) (y:=r.y) (v:=r.v) (b:=r.b) (wt:=r.wt) (t:=r.t) (cx:=cx) (cy:=cy) (bx:=bx) (b2:=b2) with ⟨h,_⟩ | ⟨_,⟨m,h,_⟩ | ⟨_,m,n,h,_⟩⟩
 ·exact absurd h0 h
 ·rw [h]; simp
 ·rw [h]; simp
theorem msC_one:∀ (l:List Ms),∀ u ∈ msC l,u.oneCell' = true:=by
 intro l u hu
 unfold msC at hu
 obtain ⟨m,_,hm⟩:=List.mem_flatMap.1 hu
 simp only [List.mem_cons,List.not_mem_nil,or_false] at hm
 rcases hm with rfl | rfl | rfl | rfl | rfl | rfl <;> rfl
theorem wpList_oml {ops:Array Oper} {rest:List Oper} {o:Oper} {a:Act} {Q:Exit→Act→World→Prop} (hgd:o.guard = none) (s x:Operand)
 (ho:o.op = .call { callee:=.builtin .append,args:=#[s,x],argTypes:=#[50,50] })
 (B:Nat) (v:Value) (l:List Ms) (hs:a.eval s = v) (W:World) (h:OM B W v l) (k:Nat) (p:List Ms)
 (hx:a.eval x = .slice (some ⟨k,0,none⟩) p.length p.length) (hk:W.heap[k]? = some (.cells (msC p).toArray 71)) (hl:l.length + p.length≤100000) (hB:B≤W.heap.size)
 (H:∀ v' w',OM B w' v' (l ++ p)→W.grownBy w' v.ownBlock→(v'.ownBlock = v.ownBlock∨v'.ownBlock = some W.heap.size)→wpList Tryz.prog ops Q rest (a.put o.dst v') w') :
 wpList Tryz.prog ops Q (o :: rest) a W:=by
 obtain ⟨i0,hi,hz0,hz1,hz2⟩:=info_parts infoMeas
 refine wpList_append_own_at _ hgd s x 50 ho B 71 i0 (.agg #[.int .i64 0,.int .i64 0,.int .i64 0,.int .i64 0,.int .i64 0,.int .i64 0]) 6 48 Tryz.underlying50 hi hz0 hz1 hz2 rfl (by decide) v l.length (msC l) hs h ⟨k,0,none⟩ p.length p.length (msC p) hx (by rw [msC_len]) ?_ (msC_one p) (by unfold maxLen; omega) (by omega) hB ?_
 ·intro j u hu
  have hadd:(⟨k,0,none⟩:Addr).add j = ⟨k,j,none⟩:=by unfold Addr.add; split <;> simp_all
  rw [hadd]
  unfold World.cell?
  rw [hk]
  simpa using hu
 ·intro v' w' ho' hg _ hat
  exact H v' w' (by unfold OM; rw [List.length_append,msC_append]; exact ho') hg hat
end Go.Proofs.YtajmjkliblippaaGreatDoor
