/-
  Walks and laws of the layers below, gathered from several texts.
-/
import Derived.Lib.Hide
import Derived.Lib.SlicesCompact
import Derived.Lib.RowBridge
import Derived.Test.YtajmjkliblippaaGreatDoorShelfQ
import Derived.WalkKit
import Derived.WalkSpells
import Derived.IntWalk
import Derived.BigQuiet
import Derived.Deep.QuietTactic
import Derived.Deep.LoopGhost
import Derived.LoopTactic
import Derived.Deep.Cut
import Derived.Laws.OwnMore
import Derived.Maps.AppendAt
import Derived.OwnWalk
import Derived.OneCell
import Derived.Lib.SmallJoins
import Derived.Deep.Onto
import Derived.Test.YtajmjkliblippaaGreatDoorProg
import Derived.Lib.QuietBelow
import Derived.Deep.DeepCutAuto
import Derived.Deep.RegionWith
import Derived.BigRegion
import Derived.Test.YtajmjkliblippaaGreatDoorQ1
import Derived.Test.YtajmjkliblippaaGreatDoorQ2
import Derived.Test.YtajmjkliblippaaGreatDoorQ3
import Derived.Test.YtajmjkliblippaaGreatDoorQ4
import Derived.Test.YtajmjkliblippaaGreatDoorQ5
import Derived.Test.YtajmjkliblippaaGreatDoorQ6
import Derived.Test.YtajmjkliblippaaGreatDoorQ7
import Derived.Test.YtajmjkliblippaaGreatDoorQ8
import Derived.Test.YtajmjkliblippaaGreatDoorQ9
import Derived.Test.YtajmjkliblippaaGreatDoorQ10
import Derived.Test.YtajmjkliblippaaGreatDoorQ15
set_option linter.unusedVariables false
namespace Go.Proofs.YtajmjkliblippaaGreatDoor
open Go.RowKit
structure Ex where
 x:Int
 y:Int
 u:Int
 v:Int
 t:Int
def ex0:Ex:=⟨0,0,0,0,0⟩
def nthE (l:List Ex) (i:Nat):Ex:=l.getD i ex0
theorem nthE_eq {l:List Ex} {i:Nat} (h:i < l.length):nthE l i = l[i]:=by
 unfold nthE
 rw [List.getD_eq_getElem?_getD,List.getElem?_eq_getElem h]
 rfl
def exC (l:List Ex):List Value:=l.flatMap fun m=>[Value.int .i64 (hiW m.x),Value.int .u64 (loW m.x),Value.int .i64 (hiW m.y),Value.int .u64 (loW m.y),Value.int .i64 (hiW m.u),Value.int .u64 (loW m.u),Value.int .i64 (hiW m.v),Value.int .u64 (loW m.v),Value.int .i64 m.t]
theorem exC_append (l k:List Ex):exC (l ++ k) = exC l ++ exC k:=by unfold exC; rw [List.flatMap_append]
theorem exC_len (l:List Ex):(exC l).length = l.length * 9:=by
 induction l with
 | nil=>rfl
 | cons m r ih =>
  unfold exC at *
  rw [List.flatMap_cons,List.length_append,ih]
  simp
  omega
theorem exC_get:∀ (l:List Ex) (i:Nat) (h:i < l.length),(exC l)[i * 9]? = some (.int .i64 (hiW l[i].x))∧(exC l)[i * 9 + 1]? = some (.int .u64 (loW l[i].x))∧(exC l)[i * 9 + 2]? = some (.int .i64 (hiW l[i].y))∧(exC l)[i * 9 + 3]? = some (.int .u64 (loW l[i].y))∧(exC l)[i * 9 + 4]? = some (.int .i64 (hiW l[i].u))∧(exC l)[i * 9 + 5]? = some (.int .u64 (loW l[i].u))∧(exC l)[i * 9 + 6]? = some (.int .i64 (hiW l[i].v))∧(exC l)[i * 9 + 7]? = some (.int .u64 (loW l[i].v))∧(exC l)[i * 9 + 8]? = some (.int .i64 l[i].t)
 | [],i,h=>absurd h (by simp)
 | p :: l,0,h=>⟨rfl,rfl,rfl,rfl,rfl,rfl,rfl,rfl,rfl⟩
 | p :: l,i + 1,h=>by
  obtain ⟨a,b,c,d,e,f,g,h,k⟩:=exC_get l i (by simpa using h)
  unfold exC at *
  rw [List.flatMap_cons,show (i + 1) * 9 = i * 9 + 9 by omega]
  exact ⟨a,b,c,d,e,f,g,h,k⟩
def OE (B:Nat) (w:World) (v:Value) (l:List Ex):Prop:=w.ownsRow B 119 9 v l.length (exC l)
theorem infoEx:(Tryz.prog.info? 119).map (fun i=>(i.zero,i.size,i.bytes)) = some (some (.agg #[.int .i64 0,.int .u64 0,.int .i64 0,.int .u64 0,.int .i64 0,.int .u64 0,.int .i64 0,.int .u64 0,.int .i64 0]),9,72):=by kernel_rfl
theorem wpList_oe {ops:Array Oper} {rest:List Oper} {o:Oper} {a:Act} {Q:Exit→Act→World→Prop} (hgd:o.guard = none) (s x:Operand)
 (ho:o.op = .call { callee:=.builtin .append,args:=#[s,x],argTypes:=#[117,117] })
 (B:Nat) (v:Value) (l:List Ex) (hs:a.eval s = v) (w0:World) (h:OE B w0 v l) (T:TypeId) (p:Ex) (c:Nat)
 (hx:a.eval x = .slice (some ⟨w0.heap.size,0,none⟩) 1 c) (hl:l.length≤100000) (hB:B≤w0.heap.size)
 (H:∀ v' w',OE B w' v' (l ++ [p])→(w0.alloc (.cells #[.int .i64 (hiW p.x),.int .u64 (loW p.x),.int .i64 (hiW p.y),.int .u64 (loW p.y),.int .i64 (hiW p.u),.int .u64 (loW p.u),.int .i64 (hiW p.v),.int .u64 (loW p.v),.int .i64 p.t] T)).grownBy w' v.ownBlock→(v'.ownBlock = v.ownBlock∨v'.ownBlock = some (w0.heap.size + 1))→wpList Tryz.prog ops Q rest (a.put o.dst v') w') :
 wpList Tryz.prog ops Q (o :: rest) a (w0.alloc (.cells #[.int .i64 (hiW p.x),.int .u64 (loW p.x),.int .i64 (hiW p.y),.int .u64 (loW p.y),.int .i64 (hiW p.u),.int .u64 (loW p.u),.int .i64 (hiW p.v),.int .u64 (loW p.v),.int .i64 p.t] T)):=by
 obtain ⟨i0,hi,hz0,hz1,hz2⟩:=info_parts infoEx
 refine wpList_append_own_at _ hgd s x 117 ho B 119 i0 (.agg #[.int .i64 0,.int .u64 0,.int .i64 0,.int .u64 0,.int .i64 0,.int .u64 0,.int .i64 0,.int .u64 0,.int .i64 0]) 9 72 Tryz.underlying117 hi hz0 hz1 hz2 rfl (by decide) v l.length (exC l) hs (World.ownsRow.alloc h _) ⟨w0.heap.size,0,none⟩ 1 c (exC [p]) hx (by rw [exC_len]; rfl) ?_ ?_ (by unfold maxLen; omega) (by omega) (by simp; omega) ?_
 ·intro j u hu
  have hadd:(⟨w0.heap.size,0,none⟩:Addr).add j = ⟨w0.heap.size,j,none⟩:=by unfold Addr.add; split <;> simp_all
  rw [hadd,World.cell?_alloc_at _ _ _ _ (by rfl)]
  unfold exC at hu
  simpa using hu
 ·intro u hu
  unfold exC at hu
  simp only [List.flatMap_cons,List.flatMap_nil,List.append_nil,List.mem_cons,List.not_mem_nil,or_false] at hu
  rcases hu with rfl | rfl | rfl | rfl | rfl | rfl | rfl | rfl | rfl <;> rfl
 ·intro v' w' ho' hg _ hat
  refine H v' w' (by unfold OE; rw [List.length_append,exC_append]; exact ho') hg ?_
  simpa using hat
structure ExAt (l:List Ex) (g:Nat) (w:World):Prop where
 lt:g < w.heap.size
 c0:∀ i,i < l.length→w.cell? ⟨g,i * 9,none⟩ = some (.int .i64 (hiW (nthE l i).x))
 c1:∀ i,i < l.length→w.cell? ⟨g,i * 9 + 1,none⟩ = some (.int .u64 (loW (nthE l i).x))
 c2:∀ i,i < l.length→w.cell? ⟨g,i * 9 + 2,none⟩ = some (.int .i64 (hiW (nthE l i).y))
 c3:∀ i,i < l.length→w.cell? ⟨g,i * 9 + 3,none⟩ = some (.int .u64 (loW (nthE l i).y))
 c4:∀ i,i < l.length→w.cell? ⟨g,i * 9 + 4,none⟩ = some (.int .i64 (hiW (nthE l i).u))
 c5:∀ i,i < l.length→w.cell? ⟨g,i * 9 + 5,none⟩ = some (.int .u64 (loW (nthE l i).u))
 c6:∀ i,i < l.length→w.cell? ⟨g,i * 9 + 6,none⟩ = some (.int .i64 (hiW (nthE l i).v))
 c7:∀ i,i < l.length→w.cell? ⟨g,i * 9 + 7,none⟩ = some (.int .u64 (loW (nthE l i).v))
 c8:∀ i,i < l.length→w.cell? ⟨g,i * 9 + 8,none⟩ = some (.int .i64 (nthE l i).t)
theorem ExAt.below {l:List Ex} {g:Nat} {w w':World} (h:ExAt l g w) (hb:Below w.heap.size w w'):ExAt l g w':=
 ⟨Nat.lt_of_lt_of_le h.lt hb.size,fun i hi=>(hb.cell (p:=⟨g,i * 9,none⟩) h.lt).trans (h.c0 i hi),fun i hi=>(hb.cell (p:=⟨g,i * 9 + 1,none⟩) h.lt).trans (h.c1 i hi),fun i hi=>(hb.cell (p:=⟨g,i * 9 + 2,none⟩) h.lt).trans (h.c2 i hi),fun i hi=>(hb.cell (p:=⟨g,i * 9 + 3,none⟩) h.lt).trans (h.c3 i hi),fun i hi=>(hb.cell (p:=⟨g,i * 9 + 4,none⟩) h.lt).trans (h.c4 i hi),fun i hi=>(hb.cell (p:=⟨g,i * 9 + 5,none⟩) h.lt).trans (h.c5 i hi),fun i hi=>(hb.cell (p:=⟨g,i * 9 + 6,none⟩) h.lt).trans (h.c6 i hi),fun i hi=>(hb.cell (p:=⟨g,i * 9 + 7,none⟩) h.lt).trans (h.c7 i hi),fun i hi=>(hb.cell (p:=⟨g,i * 9 + 8,none⟩) h.lt).trans (h.c8 i hi)⟩
theorem oe_cases {B:Nat} {w:World} {v:Value} {l:List Ex} (h:OE B w v l):(v = .slice none 0 0∧l = [])∨∃ g cap,v = .slice (some ⟨g,0,none⟩) l.length cap∧l.length≤cap∧cap≤9223372036854775807∧ExAt l g w:=by
 obtain ⟨h1,h2⟩:=h
 rcases h2 with ⟨rfl,hn⟩ | ⟨g,cap,cur,rfl,hb,hg,hc,hm,hs,ht⟩
 ·exact .inl ⟨rfl,List.eq_nil_of_length_eq_zero hn⟩
 ·have hlt:g < w.heap.size:=(Array.getElem?_eq_some_iff.1 hg).1
  have hget:∀ j,j < l.length * 9→w.cell? ⟨g,j,none⟩ = (exC l)[j]?:=fun j hj=>by
   rw [← ht,List.getElem?_take,if_pos hj]
   unfold World.cell?
   rw [hg]
   simp
  unfold maxLen at hm
  refine .inr ⟨g,cap,rfl,hc,hm,⟨hlt,fun i hi=>?_,fun i hi=>?_,fun i hi=>?_,fun i hi=>?_,fun i hi=>?_,fun i hi=>?_,fun i hi=>?_,fun i hi=>?_,fun i hi=>?_⟩⟩
  ·rw [hget _ (by omega),nthE_eq hi]; exact (exC_get l i hi).1
  ·rw [hget _ (by omega),nthE_eq hi]; exact (exC_get l i hi).2.1
  ·rw [hget _ (by omega),nthE_eq hi]; exact (exC_get l i hi).2.2.1
  ·rw [hget _ (by omega),nthE_eq hi]; exact (exC_get l i hi).2.2.2.1
  ·rw [hget _ (by omega),nthE_eq hi]; exact (exC_get l i hi).2.2.2.2.1
  ·rw [hget _ (by omega),nthE_eq hi]; exact (exC_get l i hi).2.2.2.2.2.1
  ·rw [hget _ (by omega),nthE_eq hi]; exact (exC_get l i hi).2.2.2.2.2.2.1
  ·rw [hget _ (by omega),nthE_eq hi]; exact (exC_get l i hi).2.2.2.2.2.2.2.1
  ·rw [hget _ (by omega),nthE_eq hi]; exact (exC_get l i hi).2.2.2.2.2.2.2.2
theorem oe_form {B:Nat} {w:World} {v:Value} {l:List Ex} (h:OE B w v l):∃ p cap,v = .slice p l.length cap:=by
 rcases oe_cases h with ⟨rfl,rfl⟩ | ⟨g,cap,rfl,_⟩
 ·exact ⟨none,0,rfl⟩
 ·exact ⟨_,_,rfl⟩
theorem oe_at {B:Nat} {w:World} {p:Option Addr} {cap:Nat} {l:List Ex} (h:OE B w (.slice p l.length cap) l) {k:Nat} (q:k < l.length):∃ g,p = some ⟨g,0,none⟩∧l.length≤cap∧cap≤9223372036854775807∧ExAt l g w:=by
 rcases oe_cases h with ⟨_,rfl⟩ | ⟨g,cap',e,h2,h3,h4⟩
 ·exact absurd q (by simp)
 ·injection e with e1 e2 e3
  subst e3
  exact ⟨g,e1,h2,h3,h4⟩
theorem OE.below {B:Nat} {w w':World} {v:Value} {l:List Ex} (h:OE B w v l) (hb:Below w.heap.size w w'):OE B w' v l:=by
 refine World.ownsRow.kept h (grown_of_below hb) ?_
 cases v.ownBlock <;> simp
theorem max_snoc (f:Int→Int) (zs:List Int) (z:Int):maxF f (zs ++ [z]) = max (maxF f zs) (f z):=by
 induction zs with
 | nil=>simp only [List.nil_append,maxF]; omega
 | cons a r ih=>simp only [List.cons_append,maxF,ih]; omega
end Go.Proofs.YtajmjkliblippaaGreatDoor
namespace Go.Proofs.YtajmjkliblippaaGreatDoor
def insI:List Int→Int→List Int
 | [],x=>[x]
 | y :: r,x=>if y < x then y :: insI r x else if y = x then y :: r else x :: y :: r
theorem mem_ins {x z:Int}:∀ {out:List Int},z ∈ insI out x↔z ∈ out∨z = x
 | []=>by unfold insI; simp
 | y :: r=>by
  unfold insI
  split
  ·rw [List.mem_cons,List.mem_cons,mem_ins (out:=r)]
   constructor
   ·rintro (h | h | h)
    ·exact .inl (.inl h)
    ·exact .inl (.inr h)
    ·exact .inr h
   ·rintro ((h | h) | h)
    ·exact .inl h
    ·exact .inr (.inl h)
    ·exact .inr (.inr h)
  ·split
   ·rename_i h
    subst h
    constructor
    ·exact .inl
    ·rintro (h | rfl)
     ·exact h
     ·exact List.mem_cons_self
   ·rw [List.mem_cons]
    constructor
    ·rintro (h | h)
     ·exact .inr h
     ·exact .inl h
    ·rintro (h | h)
     ·exact .inr h
     ·exact .inl h
theorem ins_lt {x:Int}:∀ {out:List Int},out.Pairwise (· < ·)→(insI out x).Pairwise (· < ·)
 | [],_=>by unfold insI; simp
 | y :: r,h=>by
  rw [List.pairwise_cons] at h
  unfold insI
  split
  ·rename_i q
   rw [List.pairwise_cons]
   refine ⟨fun z hz=>?_,ins_lt h.2⟩
   rcases mem_ins.1 hz with g | rfl
   ·exact h.1 z g
   ·exact q
  ·split
   ·exact List.pairwise_cons.2 h
   ·rename_i q q'
    rw [List.pairwise_cons]
    refine ⟨fun z hz=>?_,List.pairwise_cons.2 h⟩
    rcases List.mem_cons.1 hz with rfl | g
    ·omega
    ·have:=h.1 z g
     omega
def refK (l:List Ms) (k:Nat):List Int:=((l.take k).map Ms.s).foldl insI []
theorem refK_succ {l:List Ms} {k:Nat} (h:k < l.length):refK l (k + 1) = insI (refK l k) (nth l k).s:=by
 unfold refK
 rw [take_nth h,List.map_append,List.foldl_append]
 rfl
theorem fold_lt (zs:List Int):∀ out:List Int,out.Pairwise (· < ·)→(zs.foldl insI out).Pairwise (· < ·):=by
 induction zs with
 | nil=>exact fun out h=>h
 | cons z r ih=>exact fun out h=>ih _ (ins_lt h)
theorem fold_mem (zs:List Int):∀ (out:List Int) (x:Int),x ∈ zs.foldl insI out↔x ∈ out∨x ∈ zs:=by
 induction zs with
 | nil=>intro out x; simp
 | cons z r ih =>
  intro out x
  rw [List.foldl_cons,ih,mem_ins,List.mem_cons]
  constructor
  ·rintro ((h | h) | h)
   ·exact .inl h
   ·exact .inr (.inl h)
   ·exact .inr (.inr h)
  ·rintro (h | h | h)
   ·exact .inl (.inl h)
   ·exact .inl (.inr h)
   ·exact .inr h
theorem refK_eq (l:List Ms):refK l l.length = srcL l:=by
 unfold refK
 rw [List.take_length]
 refine asc_uniq _ _ (fold_lt _ _ List.Pairwise.nil) (srcL_lt l) fun x=>?_
 rw [fold_mem,mem_srcL,List.mem_map]
 simp
theorem fold_len (zs:List Int):∀ out:List Int,(zs.foldl insI out).length≤out.length + zs.length:=by
 have one:∀ (out:List Int) (x:Int),(insI out x).length≤out.length + 1:=by
  intro out x
  induction out with
  | nil=>simp [insI]
  | cons y r ih =>
   unfold insI
   split
   ·simp only [List.length_cons]; omega
   ·split
    ·simp
    ·simp
 induction zs with
 | nil=>simp
 | cons z r ih =>
  intro out
  have:=ih (insI out z)
  have:=one out z
  simp only [List.foldl_cons,List.length_cons]
  omega
theorem refK_len {l:List Ms} {k:Nat}:(refK l k).length≤l.length:=by
 have:=fold_len ((l.take k).map Ms.s) []
 unfold refK
 rw [List.length_map,List.length_take] at this
 simp only [List.length_nil] at this
 omega
theorem ins_at (x:Int):∀ (out:List Int) (i:Nat),(∀ j,j < i→out.getD j 0 < x)→i≤out.length→(i = out.length∨¬ out.getD i 0 < x) →
 insI out x = if i = out.length∨out.getD i 0≠x then out.take i ++ x :: out.drop i else out
 | [],i,_,h,_=>by
  obtain rfl:i = 0:=by simpa using h
  simp [insI]
 | y :: r,0,_,_,h=>by
  have hy:¬ y < x:=by
   rcases h with h | h
   ·simp at h
   ·simpa using h
  unfold insI
  rw [if_neg hy]
  by_cases e:y = x
  ·rw [if_pos e,if_neg]
   rintro (q | q)
   ·simp at q
   ·exact q (by simpa using e)
  ·rw [if_neg e,if_pos (.inr (by simpa using e))]
   rfl
 | y :: r,i + 1,hj,hi,h=>by
  have hy:y < x:=by simpa using hj 0 (by omega)
  have ih:=ins_at x r i (fun j q=>by simpa using hj (j + 1) (by omega)) (by simpa using hi) (by
   rcases h with h | h
   ·exact .inl (by simpa using h)
   ·exact .inr (by simpa using h))
  unfold insI
  rw [if_pos hy,ih]
  by_cases c:i = r.length∨r.getD i 0≠x
  ·rw [if_pos c,if_pos (by rcases c with c | c; exact .inl (by simp [c]); exact .inr (by simpa using c))]
   rfl
  ·rw [if_neg c,if_neg]
   rintro (q | q)
   ·exact c (.inl (by simpa using q))
   ·exact c (.inr (by simpa using q))
def shS (out:List Int) (j:Nat):List Int:=(out ++ [0]).take (j + 1) ++ out.drop j
theorem shS_cons (y:Int) (r:List Int) (j:Nat):shS (y :: r) (j + 1) = y :: shS r j:=by
 unfold shS
 rfl
theorem shS_zero (out:List Int):∃ z,shS out 0 = z :: out:=by
 unfold shS
 cases out with
 | nil=>exact ⟨0,rfl⟩
 | cons y r=>exact ⟨y,rfl⟩
theorem shS_len:∀ (out:List Int) (j:Nat),j≤out.length→(shS out j).length = out.length + 1
 | out,0,_=>by obtain ⟨z,h⟩:=shS_zero out; rw [h]; rfl
 | [],j + 1,h=>by simp at h
 | y :: r,j + 1,h=>by
  rw [shS_cons,List.length_cons,shS_len r j (by simpa using h)]
  rfl
theorem shS_top (out:List Int):shS out out.length = out ++ [0]:=by
 unfold shS
 rw [List.drop_length,List.append_nil,List.take_of_length_le (by simp)]
theorem shS_get:∀ (out:List Int) (j:Nat),j < out.length→(shS out (j + 1)).getD j 0 = out.getD j 0
 | [],j,h=>by simp at h
 | y :: r,0,_=>by rw [shS_cons]; rfl
 | y :: r,j + 1,h=>by
  rw [shS_cons]
  have:=shS_get r j (by simpa using h)
  simpa using this
theorem shS_set:∀ (out:List Int) (j:Nat),j < out.length→(shS out (j + 1)).set (j + 1) (out.getD j 0) = shS out j
 | [],j,h=>by simp at h
 | y :: r,0,_=>by
  obtain ⟨z,e⟩:=shS_zero r
  rw [shS_cons,e]
  rfl
 | y :: r,j + 1,h=>by
  have ih:=shS_set r j (by simpa using h)
  rw [shS_cons,shS_cons,← ih]
  rfl
theorem shS_ins (x:Int):∀ (out:List Int) (i:Nat),i≤out.length→(shS out i).set i x = out.take i ++ x :: out.drop i
 | out,0,_=>by
  obtain ⟨z,e⟩:=shS_zero out
  rw [e]
  rfl
 | [],i + 1,h=>by simp at h
 | y :: r,i + 1,h=>by
  rw [shS_cons]
  have:=shS_ins x r i (by simpa using h)
  show y :: (shS r i).set i x = _
  rw [this]
  rfl
end Go.Proofs.YtajmjkliblippaaGreatDoor
namespace Go.Proofs.YtajmjkliblippaaGreatDoor
open Go.RowKit
def WoRr (l:List Ms) (s:Int) (w:World) (v u:Value) (wr:World):Prop:=∃ k:Nat,u = .int .i64 k∧k≤l.length∧Hid (Below w.heap.size w wr)∧Hid (OM w.heap.size wr v (woL (l.take k) s))
set_option maxHeartbeats 4000000
set_option maxRecDepth 100000
theorem woref_some (l:List Ms) (s:Int) (b o cap:Nat) (w:World) (h:MsAt l b o w) (hc:l.length≤cap) (hm:cap≤9223372036854775807) (hl:l.length≤18) :
 Calls Tryz.prog 74 #[.slice (some ⟨b,o,none⟩) l.length cap,.int .i64 s] w fun e w'=>(∃ u,e = .returned u∧OM w.heap.size w' u (woL l s))∧Below w.heap.size w w':=by
 have H:=Lib.hid h
 have hlt:=h.lt
 clear h
 go_enter Tryz.func74,Tryz.ntmps74
 go_wp2
 go_loopw [5,11] (WoRr l s w) (fun _ i _=>l.length - (intOf i).toNat)
 case atStart=>exact ⟨0,rfl,Nat.zero_le _,Lib.hid ((Below.refl _ _).alloc (Nat.le_refl _) _),Lib.hid (World.ownsRow_lit w #[] 0 (Nat.le_refl _) (by decide) rfl)⟩
 case round =>
  obtain ⟨k,rfl,hk,HB,HO⟩:=hrel
  by_cases q:k < l.length
  ·have q':decide (k < l.length) = true:=by simpa using q
   have M:=H.out.keep HB.out hlt
   have c0:=M.c0 k q
   have c1:=M.c1 k q
   have c2:=M.c2 k q
   have c3:=M.c3 k q
   have c4:=M.c4 k q
   have c5:=M.c5 k q
   have WS:=Lib.hid (woL_succ (s:=s) q)
   have SZ:=Lib.hid (show (woL (l.take k) s).length≤100000 by have:=woL_len (l.take k) s; rw [List.length_take] at this; omega)
   have HS:=Lib.hid HB.out.size
   clear M
   generalize hp:nth l k = p at *
   clear hp
   by_cases e:p.s = s
   ·have g:(p.s != s) = false:=by simpa using e
    have E:=Lib.hid e
    clear e
    go_wp2
    go_roundw
    case rel =>
     have hb:=(Below.refl wr.heap.size wr).alloc (Nat.le_refl _) (.cells #[.int .i64 p.s,.int .i64 p.a,.int .i64 p.b,.int .i64 p.z,.int .i64 p.d,.int .i64 p.w] 71)
     exact ⟨k + 1,by go_num,by omega,HB.out.trans (hb.mono HS.out),by rw [WS.out,if_pos E.out]; exact HO.out.below hb⟩
    case measure=>simp [intOf]; omega
   ·have g:(p.s != s) = true:=by simpa using e
    have HA:=Lib.hid ((Below.refl wr.heap.size wr).alloc (Nat.le_refl _) (.cells #[.int .i64 p.s,.int .i64 p.a,.int .i64 p.b,.int .i64 p.z,.int .i64 p.d,.int .i64 p.w] 71))
    go_wp2_with (at_builtin; refine Halt.mk ?_)
    unfold Halt
    refine wpList_om rfl (.tmp 19) (.tmp 21) rfl w.heap.size u5 (woL (l.take k) s) rfl (wr.alloc (.cells #[.int .i64 p.s,.int .i64 p.a,.int .i64 p.b,.int .i64 p.z,.int .i64 p.d,.int .i64 p.w] 71)) (HO.out.below HA.out) _ p 1 (by rw [World.size_alloc]; rfl) SZ.out (by have:=HS.out; simp; omega) ?_
    intro u2 w5 ho5 hg5 hat5
    have HO5:Hid (OM w.heap.size w5 u2 (woL (l.take (k + 1)) s)):=Lib.hid (by rw [WS.out,if_neg e]; exact ho5)
    have HB5:Hid (Below w.heap.size w w5):=Lib.hid (below_grown ((HB.out.trans (HA.out.mono HS.out)).alloc (by simp; have:=HS.out; omega) _) hg5 (by simp; have:=HS.out; omega) (fun k hk=>(World.ownsRow.lt HO.out k hk).1))
    clear hg5 hat5 c0 c1 c2 c3 c4 c5
    obtain ⟨g5,cap5,hu2⟩:=Go.Joins.ownsRow_form ho5 (show 0 < (woL (l.take k) s ++ [p]).length by rw [List.length_append,List.length_singleton]; omega)
    obtain ⟨N5,hN5⟩:∃ N,(woL (l.take k) s ++ [p]).length = N:=⟨_,rfl⟩
    rw [hN5] at hu2
    clear ho5 hN5
    subst hu2
    go_wp2
    go_roundw
    case rel=>exact ⟨k + 1,by go_num,by omega,HB5,HO5⟩
    case measure=>simp [intOf]; omega
  ·obtain rfl:k = l.length:=by omega
   rw [List.take_length] at HO
   rcases om_cases HO.out with ⟨rfl,hz⟩ | ⟨g,cap',rfl,_⟩
   ·go_wp2
    go_ret
    exact ⟨⟨_,rfl,HO.out⟩,HB.out⟩
   ·go_wp2
    go_ret
    exact ⟨⟨_,rfl,HO.out⟩,HB.out⟩
set_option maxHeartbeats 200000
set_option maxRecDepth 512
theorem woref_nil (s:Int) (w:World) :
 Calls Tryz.prog 74 #[.slice none 0 0,.int .i64 s] w fun e w'=>(∃ u,e = .returned u∧OM w.heap.size w' u (woL [] s))∧Below w.heap.size w w':=by
 go_enter Tryz.func74,Tryz.ntmps74
 go_wp2
 go_loop [5,11] (fun u v=>u = .slice (some ⟨w.heap.size,0,none⟩) 0 0∧v = .int .i64 0) (fun _ _=>0)
 case atStart=>exact ⟨rfl,rfl⟩
 case round =>
  obtain ⟨rfl,rfl⟩:=hrel
  go_wp2
  go_ret
  exact ⟨⟨_,rfl,World.ownsRow_lit w #[] 0 (Nat.le_refl _) (by decide) rfl⟩,(Below.refl _ _).alloc (Nat.le_refl _) _⟩
theorem woref_any (l:List Ms) (s:Int) (v:Value) (w:World) (h:LstAt l v w) (hl:l.length≤18) :
 Calls Tryz.prog 74 #[v,.int .i64 s] w fun e w'=>(∃ u,e = .returned u∧OM w.heap.size w' u (woL l s))∧Below w.heap.size w w':=by
 rcases h with ⟨rfl,rfl⟩ | ⟨b,o,cap,rfl,h2,h3,h4⟩
 ·exact woref_nil s w
 ·exact woref_some l s b o cap w h4 h2 h3 hl
end Go.Proofs.YtajmjkliblippaaGreatDoor
namespace Go.Proofs.YtajmjkliblippaaGreatDoor.S41
open Tr Sq
theorem fromB_not {x lo hi:Int}:fromB x lo hi = false↔¬(lo≤x∧x≤hi):=by rw [← fromB_iff]; simp
end Go.Proofs.YtajmjkliblippaaGreatDoor.S41
namespace Go.Proofs.YtajmjkliblippaaGreatDoor.S41
open Go.RowKit Tr Sq
theorem within_ref (x lo hi:Int) (w:World):Calls Tryz.prog 100 #[.int .i64 x,.int .i64 lo,.int .i64 hi] w fun e w'=>e = .returned (.bool (fromB x lo hi))∧w = w':=by
 cases g1:decide (lo≤x) with
 | false =>
  go_enter Tryz.func100,Tryz.ntmps100
  go_wp2
  go_ret
  exact ⟨ret_bool (by unfold fromB; rw [g1]; rfl),rfl⟩
 | true =>
  go_enter Tryz.func100,Tryz.ntmps100
  go_wp2
  go_ret
  exact ⟨ret_bool (by unfold fromB; rw [g1]; rfl),rfl⟩
theorem pvalid_ref (x y:Int) (w:World):Calls Tryz.prog 58 #[.agg #[.int .i64 x,.int .i64 y]] w fun e w'=>e = .returned (.bool (pvB x y))∧Below w.heap.size w w':=by
 cases g1:decide (-2000000≤x) with
 | false =>
  go_enter Tryz.func58,Tryz.ntmps58
  go_wp2
  go_ret
  exact ⟨ret_bool (by unfold pvB; rw [g1]; rfl),(Below.refl _ _).alloc (Nat.le_refl _) _⟩
 | true =>
  cases g2:decide (x≤2000000) with
  | false =>
   go_enter Tryz.func58,Tryz.ntmps58
   go_wp2
   go_ret
   exact ⟨ret_bool (by unfold pvB; rw [g1,g2]; rfl),(Below.refl _ _).alloc (Nat.le_refl _) _⟩
  | true =>
   cases g3:decide (-2000000≤y) with
   | false =>
    go_enter Tryz.func58,Tryz.ntmps58
    go_wp2
    go_ret
    exact ⟨ret_bool (by unfold pvB; rw [g1,g2,g3]; rfl),(Below.refl _ _).alloc (Nat.le_refl _) _⟩
   | true =>
    cases g4:decide (y≤2000000) with
    | false =>
     go_enter Tryz.func58,Tryz.ntmps58
     go_wp2
     go_ret
     exact ⟨ret_bool (by unfold pvB; rw [g1,g2,g3,g4]; rfl),(Below.refl _ _).alloc (Nat.le_refl _) _⟩
    | true =>
     go_enter Tryz.func58,Tryz.ntmps58
     go_wp2
     go_ret
     exact ⟨ret_bool (by unfold pvB; rw [g1,g2,g3,g4]; rfl),(Below.refl _ _).alloc (Nat.le_refl _) _⟩
set_option maxHeartbeats 4000000
set_option maxRecDepth 100000
theorem check_ref (s k x y v b wt t:Int) (w:World) (k0:0≤k) (k1:k≤255):Calls Tryz.prog 64 #[.agg #[.int .i64 s,.int .u8 k,.int .i64 x,.int .i64 y,.int .i64 v,.int .i64 b,.int .i64 wt,.int .i64 t]] w fun e w'=>e = .returned (.int .i64 (checkI s k x y v b wt t))∧Below w.heap.size w w':=by
 cases g0:decide (1≤s) with
 | false =>
  have ng0:decide (s < 1) = true:=by simp at g0 ⊢; omega
  have hs:fromB s 1 8 = false:=fromB_not.2 (by simp at g0; omega)
  have HS:=Lib.hid hs
  clear hs
  go_enter Tryz.func64,Tryz.ntmps64
  go_wp2_with (first
   | (go_at_call 100; refine (within_ref _ _ _ _).mono ?_; rintro e w' ⟨rfl,rfl⟩)
   | (go_at_call 58; refine (pvalid_ref _ _ _).mono ?_; rintro e w1 ⟨rfl,hb⟩; obtain ⟨hc,hf⟩:=bcell hb))
  go_ret
  exact ⟨ret_int (by unfold checkI okA; simp [HS.out]),(Below.refl _ _).alloc (Nat.le_refl _) _⟩
 | true =>
  cases g1:decide (s≤8) with
  | false =>
   have ng0:decide (s < 1) = false:=by simp at g0 ⊢; omega
   have ng1:decide (8 < s) = true:=by simp at g1 ⊢; omega
   have hs:fromB s 1 8 = false:=fromB_not.2 (by simp at g1; omega)
   have HS:=Lib.hid hs
   clear hs
   go_enter Tryz.func64,Tryz.ntmps64
   go_wp2_with (first
    | (go_at_call 100; refine (within_ref _ _ _ _).mono ?_; rintro e w' ⟨rfl,rfl⟩)
    | (go_at_call 58; refine (pvalid_ref _ _ _).mono ?_; rintro e w1 ⟨rfl,hb⟩; obtain ⟨hc,hf⟩:=bcell hb))
   go_ret
   exact ⟨ret_int (by unfold checkI okA; simp [HS.out]),(Below.refl _ _).alloc (Nat.le_refl _) _⟩
  | true =>
   cases g2:decide (1≤k) with
   | false =>
    have ng0:decide (s < 1) = false:=by simp at g0 ⊢; omega
    have ng1:decide (8 < s) = false:=by simp at g1 ⊢; omega
    have ng2:decide (k < 1) = true:=by simp at g2 ⊢; omega
    have hs:fromB s 1 8 = true:=fromB_iff.2 ⟨by simpa using g0,by simpa using g1⟩
    have HS:=Lib.hid hs
    clear hs
    go_enter Tryz.func64,Tryz.ntmps64
    go_wp2_with (first
     | (go_at_call 100; refine (within_ref _ _ _ _).mono ?_; rintro e w' ⟨rfl,rfl⟩)
     | (go_at_call 58; refine (pvalid_ref _ _ _).mono ?_; rintro e w1 ⟨rfl,hb⟩; obtain ⟨hc,hf⟩:=bcell hb))
    go_ret
    exact ⟨ret_int (by unfold checkI okA; simp [HS.out,g2]),(Below.refl _ _).alloc (Nat.le_refl _) _⟩
   | true =>
    cases g3:decide (k≤3) with
    | false =>
     have ng0:decide (s < 1) = false:=by simp at g0 ⊢; omega
     have ng1:decide (8 < s) = false:=by simp at g1 ⊢; omega
     have ng2:decide (k < 1) = false:=by simp at g2 ⊢; omega
     have ng3:decide (3 < k) = true:=by simp at g3 ⊢; omega
     have hs:fromB s 1 8 = true:=fromB_iff.2 ⟨by simpa using g0,by simpa using g1⟩
     have HS:=Lib.hid hs
     clear hs
     go_enter Tryz.func64,Tryz.ntmps64
     go_wp2_with (first
      | (go_at_call 100; refine (within_ref _ _ _ _).mono ?_; rintro e w' ⟨rfl,rfl⟩)
      | (go_at_call 58; refine (pvalid_ref _ _ _).mono ?_; rintro e w1 ⟨rfl,hb⟩; obtain ⟨hc,hf⟩:=bcell hb))
     go_ret
     exact ⟨ret_int (by unfold checkI okA; simp [HS.out,g2,g3]),(Below.refl _ _).alloc (Nat.le_refl _) _⟩
    | true =>
     cases g4:pvB x y with
     | false =>
      have ng0:decide (s < 1) = false:=by simp at g0 ⊢; omega
      have ng1:decide (8 < s) = false:=by simp at g1 ⊢; omega
      have ng2:decide (k < 1) = false:=by simp at g2 ⊢; omega
      have ng3:decide (3 < k) = false:=by simp at g3 ⊢; omega
      have hs:fromB s 1 8 = true:=fromB_iff.2 ⟨by simpa using g0,by simpa using g1⟩
      have HS:=Lib.hid hs
      clear hs
      go_enter Tryz.func64,Tryz.ntmps64
      go_wp2_with (first
       | (go_at_call 100; refine (within_ref _ _ _ _).mono ?_; rintro e w' ⟨rfl,rfl⟩)
       | (go_at_call 58; refine (pvalid_ref _ _ _).mono ?_; rintro e w1 ⟨rfl,hb⟩; obtain ⟨hc,hf⟩:=bcell hb))
      go_ret
      exact ⟨ret_int (by unfold checkI okA; simp [HS.out,g2,g3,g4]),below_box hb⟩
     | true =>
      cases g5:fromB wt 1 16 with
      | false =>
       have ng0:decide (s < 1) = false:=by simp at g0 ⊢; omega
       have ng1:decide (8 < s) = false:=by simp at g1 ⊢; omega
       have ng2:decide (k < 1) = false:=by simp at g2 ⊢; omega
       have ng3:decide (3 < k) = false:=by simp at g3 ⊢; omega
       have hs:fromB s 1 8 = true:=fromB_iff.2 ⟨by simpa using g0,by simpa using g1⟩
       have HS:=Lib.hid hs
       clear hs
       go_enter Tryz.func64,Tryz.ntmps64
       go_wp2_with (first
        | (go_at_call 100; refine (within_ref _ _ _ _).mono ?_; rintro e w' ⟨rfl,rfl⟩)
        | (go_at_call 58; refine (pvalid_ref _ _ _).mono ?_; rintro e w1 ⟨rfl,hb⟩; obtain ⟨hc,hf⟩:=bcell hb))
       go_ret
       exact ⟨ret_int (by unfold checkI okA; simp [HS.out,g2,g3,g4,g5]),below_box hb⟩
      | true =>
       have ng0:decide (s < 1) = false:=by simp at g0 ⊢; omega
       have ng1:decide (8 < s) = false:=by simp at g1 ⊢; omega
       have ng2:decide (k < 1) = false:=by simp at g2 ⊢; omega
       have ng3:decide (3 < k) = false:=by simp at g3 ⊢; omega
       have hk:k = 1∨k = 2∨k = 3:=by simp at g2 g3; omega
       have hA:okA s k x y wt = true:=by unfold okA; rw [show fromB s 1 8 = true from fromB_iff.2 ⟨by simpa using g0,by simpa using g1⟩,g2,g3,g4,g5]; rfl
       have HA:=Lib.hid hA
       clear hA
       rcases hk with rfl | rfl | rfl
       ·cases g6:fromB t 0 1099511627776 with
        | false =>
         go_enter Tryz.func64,Tryz.ntmps64
         go_wp2_with (first
          | (go_at_call 100; refine (within_ref _ _ _ _).mono ?_; rintro e w' ⟨rfl,rfl⟩)
          | (go_at_call 58; refine (pvalid_ref _ _ _).mono ?_; rintro e w1 ⟨rfl,hb⟩; obtain ⟨hc,hf⟩:=bcell hb))
         go_ret
         exact ⟨ret_int (by unfold checkI okR; rw [HA.out]; simp [maxBd,maxV,g6]),below_box hb⟩
        | true =>
         cases g7:fromB b 0 600000 with
         | false =>
          go_enter Tryz.func64,Tryz.ntmps64
          go_wp2_with (first
           | (go_at_call 100; refine (within_ref _ _ _ _).mono ?_; rintro e w' ⟨rfl,rfl⟩)
           | (go_at_call 58; refine (pvalid_ref _ _ _).mono ?_; rintro e w1 ⟨rfl,hb⟩; obtain ⟨hc,hf⟩:=bcell hb))
          go_ret
          exact ⟨ret_int (by unfold checkI okR; rw [HA.out]; simp [maxBd,maxV,g6,g7]),below_box hb⟩
         | true =>
          cases g8:fromB v 0 0 with
          | false =>
           go_enter Tryz.func64,Tryz.ntmps64
           go_wp2_with (first
            | (go_at_call 100; refine (within_ref _ _ _ _).mono ?_; rintro e w' ⟨rfl,rfl⟩)
            | (go_at_call 58; refine (pvalid_ref _ _ _).mono ?_; rintro e w1 ⟨rfl,hb⟩; obtain ⟨hc,hf⟩:=bcell hb))
           go_ret
           exact ⟨ret_int (by unfold checkI okR; rw [HA.out]; simp [maxBd,maxV,g6,g7,g8]),below_box hb⟩
          | true =>
           go_enter Tryz.func64,Tryz.ntmps64
           go_wp2_with (first
            | (go_at_call 100; refine (within_ref _ _ _ _).mono ?_; rintro e w' ⟨rfl,rfl⟩)
            | (go_at_call 58; refine (pvalid_ref _ _ _).mono ?_; rintro e w1 ⟨rfl,hb⟩; obtain ⟨hc,hf⟩:=bcell hb))
           go_ret
           exact ⟨ret_int (by unfold checkI okR; rw [HA.out]; simp [maxBd,maxV,g6,g7,g8]),below_box hb⟩
       ·cases g6:fromB t 0 1099511627776 with
        | false =>
         go_enter Tryz.func64,Tryz.ntmps64
         go_wp2_with (first
          | (go_at_call 100; refine (within_ref _ _ _ _).mono ?_; rintro e w' ⟨rfl,rfl⟩)
          | (go_at_call 58; refine (pvalid_ref _ _ _).mono ?_; rintro e w1 ⟨rfl,hb⟩; obtain ⟨hc,hf⟩:=bcell hb))
         go_ret
         exact ⟨ret_int (by unfold checkI okR; rw [HA.out]; simp [maxBd,maxV,g6]),below_box hb⟩
        | true =>
         cases g7:fromB b 0 600000 with
         | false =>
          go_enter Tryz.func64,Tryz.ntmps64
          go_wp2_with (first
           | (go_at_call 100; refine (within_ref _ _ _ _).mono ?_; rintro e w' ⟨rfl,rfl⟩)
           | (go_at_call 58; refine (pvalid_ref _ _ _).mono ?_; rintro e w1 ⟨rfl,hb⟩; obtain ⟨hc,hf⟩:=bcell hb))
          go_ret
          exact ⟨ret_int (by unfold checkI okR; rw [HA.out]; simp [maxBd,maxV,g6,g7]),below_box hb⟩
         | true =>
          cases g8:fromB v 0 8000000 with
          | false =>
           go_enter Tryz.func64,Tryz.ntmps64
           go_wp2_with (first
            | (go_at_call 100; refine (within_ref _ _ _ _).mono ?_; rintro e w' ⟨rfl,rfl⟩)
            | (go_at_call 58; refine (pvalid_ref _ _ _).mono ?_; rintro e w1 ⟨rfl,hb⟩; obtain ⟨hc,hf⟩:=bcell hb))
           go_ret
           exact ⟨ret_int (by unfold checkI okR; rw [HA.out]; simp [maxBd,maxV,g6,g7,g8]),below_box hb⟩
          | true =>
           go_enter Tryz.func64,Tryz.ntmps64
           go_wp2_with (first
            | (go_at_call 100; refine (within_ref _ _ _ _).mono ?_; rintro e w' ⟨rfl,rfl⟩)
            | (go_at_call 58; refine (pvalid_ref _ _ _).mono ?_; rintro e w1 ⟨rfl,hb⟩; obtain ⟨hc,hf⟩:=bcell hb))
           go_ret
           exact ⟨ret_int (by unfold checkI okR; rw [HA.out]; simp [maxBd,maxV,g6,g7,g8]),below_box hb⟩
       ·cases g6:fromB t 0 1099511627776 with
        | false =>
         go_enter Tryz.func64,Tryz.ntmps64
         go_wp2_with (first
          | (go_at_call 100; refine (within_ref _ _ _ _).mono ?_; rintro e w' ⟨rfl,rfl⟩)
          | (go_at_call 58; refine (pvalid_ref _ _ _).mono ?_; rintro e w1 ⟨rfl,hb⟩; obtain ⟨hc,hf⟩:=bcell hb))
         go_ret
         exact ⟨ret_int (by unfold checkI okR; rw [HA.out]; simp [maxBd,maxV,g6]),below_box hb⟩
        | true =>
         cases g7:fromB b 0 3600000 with
         | false =>
          go_enter Tryz.func64,Tryz.ntmps64
          go_wp2_with (first
           | (go_at_call 100; refine (within_ref _ _ _ _).mono ?_; rintro e w' ⟨rfl,rfl⟩)
           | (go_at_call 58; refine (pvalid_ref _ _ _).mono ?_; rintro e w1 ⟨rfl,hb⟩; obtain ⟨hc,hf⟩:=bcell hb))
          go_ret
          exact ⟨ret_int (by unfold checkI okR; rw [HA.out]; simp [maxBd,maxV,g6,g7]),below_box hb⟩
         | true =>
          cases g8:fromB v 0 129599999 with
          | false =>
           go_enter Tryz.func64,Tryz.ntmps64
           go_wp2_with (first
            | (go_at_call 100; refine (within_ref _ _ _ _).mono ?_; rintro e w' ⟨rfl,rfl⟩)
            | (go_at_call 58; refine (pvalid_ref _ _ _).mono ?_; rintro e w1 ⟨rfl,hb⟩; obtain ⟨hc,hf⟩:=bcell hb))
           go_ret
           exact ⟨ret_int (by unfold checkI okR; rw [HA.out]; simp [maxBd,maxV,g6,g7,g8]),below_box hb⟩
          | true =>
           go_enter Tryz.func64,Tryz.ntmps64
           go_wp2_with (first
            | (go_at_call 100; refine (within_ref _ _ _ _).mono ?_; rintro e w' ⟨rfl,rfl⟩)
            | (go_at_call 58; refine (pvalid_ref _ _ _).mono ?_; rintro e w1 ⟨rfl,hb⟩; obtain ⟨hc,hf⟩:=bcell hb))
           go_ret
           exact ⟨ret_int (by unfold checkI okR; rw [HA.out]; simp [maxBd,maxV,g6,g7,g8]),below_box hb⟩
end Go.Proofs.YtajmjkliblippaaGreatDoor.S41
namespace Go.Proofs.YtajmjkliblippaaGreatDoor.S41
open Go.RowKit Tr Sq
theorem sqrtup_ref (n:Int) (w:World) (h0:0≤n) (h1:n≤4611686018427387904) :
 Calls Tryz.prog 101 #[.int .i64 n] w fun e w'=>e = .returned (.int .i64 (sqU n))∧w = w':=by
 obtain ⟨a0,a1,a2,a3⟩:=isq_sq_bd h0 h1
 by_cases hn:0 < n
 ·have g1:decide (0 < n) = true:=by simpa using hn
  by_cases hs:isq n * isq n < n
  ·have g2:decide (isq n * isq n < n) = true:=by simpa using hs
   have E:=Lib.hid (show sqU n = isq n + 1 by unfold sqU; rw [if_pos ⟨hn,hs⟩])
   go_enter Tryz.func101,Tryz.ntmps101
   go_wp2_with (go_at_call 103; refine (sqrt_ref _ _ (by omega) (by omega)).mono ?_; rintro e w' ⟨rfl,rfl⟩)
   go_ret
   exact ⟨ret_int E.out.symm,rfl⟩
  ·have g2:decide (isq n * isq n < n) = false:=by simpa using hs
   have E:=Lib.hid (show sqU n = isq n by unfold sqU; rw [if_neg (fun h=>hs h.2)])
   go_enter Tryz.func101,Tryz.ntmps101
   go_wp2_with (go_at_call 103; refine (sqrt_ref _ _ (by omega) (by omega)).mono ?_; rintro e w' ⟨rfl,rfl⟩)
   go_ret
   exact ⟨ret_int E.out.symm,rfl⟩
 ·have g1:decide (0 < n) = false:=by simpa using hn
  have E:=Lib.hid (show sqU n = isq n by unfold sqU; rw [if_neg (fun h=>hn h.1)])
  go_enter Tryz.func101,Tryz.ntmps101
  go_wp2_with (go_at_call 103; refine (sqrt_ref _ _ (by omega) (by omega)).mono ?_; rintro e w' ⟨rfl,rfl⟩)
  go_ret
  exact ⟨ret_int E.out.symm,rfl⟩
theorem r11valid (a b c d e f:Int) (w:World) :
 Calls Tryz.prog 102 #[.agg #[.int .i64 a,.int .i64 b],.agg #[.int .i64 c,.int .i64 d],.agg #[.int .i64 e,.int .i64 f]] w fun en w'=>en = .returned (.bool (pvB a b && pvB c d && pvB e f))∧Below w.heap.size w w':=by
 cases g1:pvB a b with
 | false =>
  go_enter Tryz.func102,Tryz.ntmps102
  go_wp2_with (go_at_call 58; refine (pvalid_ref _ _ _).mono ?_; rintro en w1 ⟨rfl,hb⟩)
  go_ret
  exact ⟨rfl,((((Below.refl _ _).alloc (Nat.le_refl _) _).alloc (by simp) _).alloc (by simp; omega) _).trans (hb.mono (by simp; omega))⟩
 | true =>
  cases g2:pvB c d with
  | false =>
   go_enter Tryz.func102,Tryz.ntmps102
   go_wp2_with fail
   refine (pvalid_ref _ _ _).mono ?_
   rw [g1]
   rintro en w1 ⟨rfl,hb⟩
   have hA:Below w.heap.size w w1:=((((Below.refl _ _).alloc (Nat.le_refl _) _).alloc (by simp) _).alloc (by simp; omega) _).trans (hb.mono (by simp; omega))
   obtain ⟨hc,hf⟩:=bcell hb
   go_wp2_with fail
   refine (pvalid_ref _ _ _).mono ?_
   rw [g2]
   rintro en w2 ⟨rfl,hb2⟩
   go_wp2
   go_ret
   exact ⟨rfl,hA.trans (hb2.mono hA.size)⟩
  | true =>
   cases g3:pvB e f
   all_goals
    go_enter Tryz.func102,Tryz.ntmps102
    go_wp2_with fail
    refine (pvalid_ref _ _ _).mono ?_
    rw [g1]
    rintro en w1 ⟨rfl,hb⟩
    have hA:Below w.heap.size w w1:=((((Below.refl _ _).alloc (Nat.le_refl _) _).alloc (by simp) _).alloc (by simp; omega) _).trans (hb.mono (by simp; omega))
    obtain ⟨hc,hf⟩:=bcell hb
    have hz:w.heap.size + 1 + 1 < w1.heap.size:=by have:=hb.size; simp at this; omega
    go_wp2_with fail
    refine (pvalid_ref _ _ _).mono ?_
    rw [g2]
    rintro en w2 ⟨rfl,hb2⟩
    have hB:=hA.trans (hb2.mono hA.size)
    obtain ⟨hc2,hf2⟩:=bcell hb2
    go_wp2_with fail
    refine (pvalid_ref _ _ _).mono ?_
    rw [g3]
    rintro en w3 ⟨rfl,hb3⟩
    go_wp2
    go_ret
    exact ⟨rfl,hB.trans (hb3.mono hB.size)⟩
theorem dot_ref (x y p q:Int) (w:World) (h:(pvB x y && pvB p q) = true) :
 Calls Tryz.prog 104 #[.agg #[.int .i64 x,.int .i64 y],.agg #[.int .i64 p,.int .i64 q],.agg #[.int .i64 x,.int .i64 y],.agg #[.int .i64 p,.int .i64 q]] w fun e w'=>e = .returned (.int .i64 (d2 x y p q))∧Below w.heap.size w w':=by
 obtain ⟨⟨a1,a2,a3,a4⟩,b1,b2,b3,b4⟩:=pv2 h
 obtain ⟨e1,e2,e3,e4,e5,e6⟩:=d2_bd h
 clear h
 unfold d2 at *
 go_enter Tryz.func104,Tryz.ntmps104
 go_wp2
 go_ret
 exact ⟨rfl,((((Below.refl _ _).alloc (Nat.le_refl _) _).alloc (by simp) _).alloc (by simp; omega) _).alloc (by simp; omega) _⟩
theorem pvv {x y p q:Int} {b:Bool} (h:(pvB x y && pvB p q) = b):(pvB x y && pvB p q && pvB p q) = b:=by rw [← h,Bool.and_assoc,Bool.and_self]
set_option maxHeartbeats 1000000
theorem dist_ref (x y p q:Int) (w:World) :
 Calls Tryz.prog 67 #[.agg #[.int .i64 x,.int .i64 y],.agg #[.int .i64 p,.int .i64 q]] w fun e w'=>e = .returned (.int .i64 (distI x y p q))∧Below w.heap.size w w':=by
 cases g:(pvB x y && pvB p q) with
 | false =>
  have G:=Lib.hid (pvv g)
  have E:=Lib.hid (show distI x y p q = 0 by unfold distI; rw [if_neg (by rw [g]; decide)])
  clear g
  go_enter Tryz.func67,Tryz.ntmps67
  go_wp2_with fail
  refine (r11valid _ _ _ _ _ _ _).mono ?_
  rw [G.out]
  rintro e w1 ⟨rfl,hb⟩
  go_wp2
  go_ret
  exact ⟨ret_int E.out.symm,(((Below.refl _ _).alloc (Nat.le_refl _) _).alloc (by simp) _).trans (hb.mono (by simp; omega))⟩
 | true =>
  have G:=Lib.hid (pvv g)
  have D:=Lib.hid (fun w=>dot_ref x y p q w g)
  have E:=Lib.hid (show distI x y p q = isq (d2 x y p q) by unfold distI; rw [if_pos g])
  obtain ⟨e1,e2,e3,e4,e5,e6⟩:=d2_bd g
  clear g e3 e4 e5 e6
  go_enter Tryz.func67,Tryz.ntmps67
  go_wp2_with fail
  refine (r11valid _ _ _ _ _ _ _).mono ?_
  rw [G.out]
  rintro e w1 ⟨rfl,hb⟩
  obtain ⟨hc,hf⟩:=bcell hb
  have hA:Below w.heap.size w w1:=(((Below.refl _ _).alloc (Nat.le_refl _) _).alloc (by simp) _).trans (hb.mono (by simp; omega))
  go_wp2_with fail
  refine (D.out _).mono ?_
  rintro e w2 ⟨rfl,hb2⟩
  go_wp2_with (go_at_call 103; refine (sqrt_ref _ _ (by omega) (by omega)).mono ?_; rintro e w' ⟨rfl,rfl⟩)
  go_ret
  exact ⟨ret_int E.out.symm,hA.trans (hb2.mono hA.size)⟩
end Go.Proofs.YtajmjkliblippaaGreatDoor.S41
namespace Go.Proofs.YtajmjkliblippaaGreatDoor.S41
open Go.RowKit Tr Sq
theorem boxv_ref (cx cy bx b2:Int) (w:World):Calls Tryz.prog 65 #[.agg #[.int .i64 cx,.int .i64 cy,.int .i64 bx,.int .i64 b2]] w fun e w'=>e = .returned (.bool (boxV cx cy bx b2))∧Below w.heap.size w w':=by
 cases g1:pvB cx cy with
 | false =>
  go_enter Tryz.func65,Tryz.ntmps65
  go_wp2_with (first
   | (go_at_call 100; refine (within_ref _ _ _ _).mono ?_; rintro e w' ⟨rfl,rfl⟩)
   | (go_at_call 58; refine (pvalid_ref _ _ _).mono ?_; rintro e w1 ⟨rfl,hb⟩; obtain ⟨hc,hf⟩:=bcell hb))
  go_ret
  exact ⟨ret_bool (by unfold boxV; rw [g1]; rfl),below_box hb⟩
 | true =>
  cases g2:fromB bx 0 2000000 with
  | false =>
   go_enter Tryz.func65,Tryz.ntmps65
   go_wp2_with (first
    | (go_at_call 100; refine (within_ref _ _ _ _).mono ?_; rintro e w' ⟨rfl,rfl⟩)
    | (go_at_call 58; refine (pvalid_ref _ _ _).mono ?_; rintro e w1 ⟨rfl,hb⟩; obtain ⟨hc,hf⟩:=bcell hb))
   go_ret
   exact ⟨ret_bool (by unfold boxV; rw [g1,g2]; rfl),below_box hb⟩
  | true =>
   cases g3:fromB b2 0 2000000 with
   | false =>
    go_enter Tryz.func65,Tryz.ntmps65
    go_wp2_with (first
     | (go_at_call 100; refine (within_ref _ _ _ _).mono ?_; rintro e w' ⟨rfl,rfl⟩)
     | (go_at_call 58; refine (pvalid_ref _ _ _).mono ?_; rintro e w1 ⟨rfl,hb⟩; obtain ⟨hc,hf⟩:=bcell hb))
    go_ret
    exact ⟨ret_bool (by unfold boxV; rw [g1,g2,g3]; rfl),below_box hb⟩
   | true =>
    go_enter Tryz.func65,Tryz.ntmps65
    go_wp2_with (first
     | (go_at_call 100; refine (within_ref _ _ _ _).mono ?_; rintro e w' ⟨rfl,rfl⟩)
     | (go_at_call 58; refine (pvalid_ref _ _ _).mono ?_; rintro e w1 ⟨rfl,hb⟩; obtain ⟨hc,hf⟩:=bcell hb))
    go_ret
    exact ⟨ret_bool (by unfold boxV; rw [g1,g2,g3]; rfl),below_box hb⟩
set_option maxHeartbeats 1000000
theorem radius_ref (cx cy bx b2:Int) (w:World):Calls Tryz.prog 66 #[.agg #[.int .i64 cx,.int .i64 cy,.int .i64 bx,.int .i64 b2]] w fun e w'=>e = .returned (.int .i64 (radI cx cy bx b2))∧Below w.heap.size w w':=by
 cases g:boxV cx cy bx b2 with
 | false =>
  have E:=Lib.hid (show radI cx cy bx b2 = 0 by unfold radI; rw [if_neg (by rw [g]; decide)])
  go_enter Tryz.func66,Tryz.ntmps66
  go_wp2_with fail
  refine (boxv_ref _ _ _ _ _).mono ?_
  rw [g]
  rintro e w1 ⟨rfl,hb⟩
  go_wp2
  go_ret
  exact ⟨ret_int E.out.symm,below_box hb⟩
 | true =>
  have E:=Lib.hid (show radI cx cy bx b2 = sqU (bx * bx + b2 * b2) by unfold radI; rw [if_pos g])
  obtain ⟨_,⟨b0,b1⟩,b3,b4⟩:=boxV_iff.1 g
  obtain ⟨s0,s1⟩:=sq_bd (x:=bx) (k:=2000000) (by omega) b1
  obtain ⟨s2,s3⟩:=sq_bd (x:=b2) (k:=2000000) (by omega) b4
  go_enter Tryz.func66,Tryz.ntmps66
  go_wp2_with fail
  refine (boxv_ref _ _ _ _ _).mono ?_
  rw [g]
  rintro e w1 ⟨rfl,hb⟩
  obtain ⟨hc,hf⟩:=bcell hb
  go_wp2_with (go_at_call 101; refine (sqrtup_ref _ _ (by omega) (by omega)).mono ?_; rintro e w' ⟨rfl,rfl⟩)
  go_ret
  exact ⟨ret_int E.out.symm,below_box hb⟩
end Go.Proofs.YtajmjkliblippaaGreatDoor.S41
namespace Go.Proofs.YtajmjkliblippaaGreatDoor.S41
open Go.RowKit Tr Sq
set_option maxHeartbeats 4000000
set_option maxRecDepth 100000
theorem rows_rng_ref_no (s x y v b wt t cx cy bx b2 K D:Int) (w:World) (hk:checkI s 2 x y v b wt t = 0) (hv:boxV cx cy bx b2 = true) (eK:radI cx cy bx b2 = K) (eD:distI x y cx cy = D)
 (hx:-2000000≤x∧x≤2000000) (hy:-2000000≤y∧y≤2000000) (hcx0:-2000000≤cx∧cx≤2000000) (hcy0:-2000000≤cy∧cy≤2000000) (hvv:0≤v∧v≤8000000) (hbb:0≤b∧b≤600000)
 (K0:0≤K) (K1:K≤2828428) (D0:0≤D) (D1:D≤5656854) (hg:D < 6000∨D < 4 * K) :
 Calls Tryz.prog 36 #[.agg #[.int .i64 s,.int .u8 2,.int .i64 x,.int .i64 y,.int .i64 v,.int .i64 b,.int .i64 wt,.int .i64 t],.agg #[.int .i64 cx,.int .i64 cy,.int .i64 bx,.int .i64 b2]] w fun e w'=>∃ u,e = .returned (.tuple #[u,.int .i64 10])∧RowsIs w [] u w'∧Below w.heap.size w w':=by
 obtain ⟨x0,x1⟩:=hx
 obtain ⟨y0,y1⟩:=hy
 obtain ⟨cx0,cx1⟩:=hcx0
 obtain ⟨cy0,cy1⟩:=hcy0
 obtain ⟨v0,v1⟩:=hvv
 obtain ⟨b0,b1⟩:=hbb
 have C1:=fun w=>check_ref s 2 x y v b wt t w (by decide) (by decide)
 have V1:=fun w=>boxv_ref cx cy bx b2 w
 have R1:=fun w=>radius_ref cx cy bx b2 w
 have D1':=fun w=>dist_ref x y cx cy w
 rw [hk] at C1
 rw [hv] at V1
 rw [eK] at R1
 rw [eD] at D1'
 have C1:=Lib.hid C1
 have V1:=Lib.hid V1
 have R1:=Lib.hid R1
 have DD:=Lib.hid D1'
 clear hk hv eK eD
 go_enter Tryz.func36,Tryz.ntmps36
 go_wp2_with fail
 refine (C1.out _).mono ?_
 rintro e w1 ⟨rfl,hb⟩
 obtain ⟨hc,hf⟩:=bcell hb
 have hz0:w.heap.size < w1.heap.size:=by have:=hb.size; simp at this; omega
 have hz1:w.heap.size + 1 < w1.heap.size:=by have:=hb.size; simp at this; omega
 have hA:Below w.heap.size w w1:=(((Below.refl _ _).alloc (Nat.le_refl _) _).alloc (by simp) _).trans (hb.mono (by simp; omega))
 go_wp2_with fail
 refine (V1.out _).mono ?_
 rintro e w2 ⟨rfl,hb2⟩
 obtain ⟨hc2,hf2⟩:=bcell hb2
 have hz2:w.heap.size < w2.heap.size:=Nat.lt_of_lt_of_le hz0 hb2.size
 have hz3:w.heap.size + 1 < w2.heap.size:=Nat.lt_of_lt_of_le hz1 hb2.size
 have hB:=Lib.hid (hA.trans (hb2.mono hA.size))
 go_upto_region 14 with fail
 have R0:RepIs w2 w.heap.size s 2 x y v b wt t:=by unfold RepIs; refine ⟨?_,?_,?_,?_,?_,?_,?_,?_⟩ <;> go_simp
 have X0:BoxIs w2 (w.heap.size + 1) cx cy bx b2:=by unfold BoxIs; refine ⟨?_,?_,?_,?_⟩ <;> go_simp
 have hW:=((Below.refl w2.heap.size w2).alloc (Nat.le_refl _) (.cells #[.int .i64 s,.int .i64 0,.int .i64 0,.int .i64 0,.int .i64 0,.int .i64 wt] 71)).alloc (by simp) (.cells #[.int .i64 cx,.int .i64 cy] 23)
 have R2:=R0.keep hW hz2
 have X2:=X0.keep hW hz3
 have S2:Six ((w2.alloc (.cells #[.int .i64 s,.int .i64 0,.int .i64 0,.int .i64 0,.int .i64 0,.int .i64 wt] 71)).alloc (.cells #[.int .i64 cx,.int .i64 cy] 23)) w2.heap.size ⟨s,0,0,0,0,wt⟩:=by unfold Six; refine ⟨⟨?_,?_,?_,?_,?_,?_⟩,?_,?_,?_,?_,?_,?_⟩ <;> go_simp
 have P2:Pair2 ((w2.alloc (.cells #[.int .i64 s,.int .i64 0,.int .i64 0,.int .i64 0,.int .i64 0,.int .i64 wt] 71)).alloc (.cells #[.int .i64 cx,.int .i64 cy] 23)) (w2.heap.size + 1) cx cy:=by unfold Pair2; refine ⟨?_,?_,?_,?_⟩ <;> go_simp
 have hB3:=Lib.hid (hB.out.trans (hW.mono hB.out.size))
 have hw2:=hB.out.size
 have hz4:w2.heap.size < ((w2.alloc (.cells #[.int .i64 s,.int .i64 0,.int .i64 0,.int .i64 0,.int .i64 0,.int .i64 wt] 71)).alloc (.cells #[.int .i64 cx,.int .i64 cy] 23)).heap.size:=by simp; omega
 have hz5:w2.heap.size + 1 < ((w2.alloc (.cells #[.int .i64 s,.int .i64 0,.int .i64 0,.int .i64 0,.int .i64 0,.int .i64 wt] 71)).alloc (.cells #[.int .i64 cx,.int .i64 cy] 23)).heap.size:=by simp
 have hz6:w.heap.size < ((w2.alloc (.cells #[.int .i64 s,.int .i64 0,.int .i64 0,.int .i64 0,.int .i64 0,.int .i64 wt] 71)).alloc (.cells #[.int .i64 cx,.int .i64 cy] 23)).heap.size:=by omega
 clear R0 X0 hW hb hc hf hz0 hz1 hA hb2 hc2 hf2 hB
 generalize hW3:((w2.alloc (.cells #[.int .i64 s,.int .i64 0,.int .i64 0,.int .i64 0,.int .i64 0,.int .i64 wt] 71)).alloc (.cells #[.int .i64 cx,.int .i64 cy] 23)) = w3 at *
 clear hW3
 obtain ⟨c,hcq⟩:∃ c,c = w2.heap.size + 1:=⟨_,rfl⟩
 rw [← hcq] at P2 hz5 ⊢
 generalize hg:w2.heap.size = g at *
 have n1:g≠c:=by omega
 have n2:w.heap.size≠g:=by omega
 have n3:w.heap.size≠c:=by omega
 have n4:c≠g:=by omega
 clear hg hcq w2
 have HR:=Lib.hid R2
 have HS:=Lib.hid S2
 have HP:=Lib.hid P2
 obtain ⟨r0,r1,r2,r3,r4,r5,r6,r7⟩:=R2
 obtain ⟨x0_,x1_,x2_,x3_⟩:=X2
 obtain ⟨q0_,q1_,-,-⟩:=P2
 clear S2
 have u0:=fun d os=>cell_regrown r2 d os
 have u1:=fun d os=>cell_regrown r3 d os
 have u2:=fun d os=>cell_regrown x0_ d os
 have u3:=fun d os=>cell_regrown x1_ d os
 have u4:=fun d os=>cell_regrown x2_ d os
 have u5:=fun d os=>cell_regrown x3_ d os
 have u6:=fun d os=>cell_regrown q0_ d os
 have u7:=fun d os=>cell_regrown q1_ d os
 have k1:=Lib.hid (fun d os=>Calls.regrown_of (R1.out (Go.Sort.grow (redrawn w3 d) os)))
 have k2:=Lib.hid (fun d os=>Calls.regrown_of (DD.out (Go.Sort.grow (redrawn w3 d) os)))
 refine wp_region_quiet_below (by kernel_rfl) (by kernel_rfl) ?_
 repeat (quiet_step (first | with_reducible exact k1.out _ _ | with_reducible exact k2.out _ _))
 refine wpQuiet_nil ?_
 intro w5 hw'
 have hb5:Below w3.heap.size w3 w5:=by
  obtain ⟨⟨dq,osq⟩,hw''⟩:=hw'
  rw [hw'']; exact below_regrown w3 dq osq
 have R2:=HR.out.keep hb5 hz6
 have S2:=HS.out.keep hb5 hz4
 have P2:=HP.out.keep hb5 hz5
 have hB5:=Lib.hid (hB3.out.trans (hb5.mono hB3.out.size))
 clear k1 k2 u0 u1 u2 u3 u4 u5 u6 u7 hw' hb5 HR HS HP hB3 r0 r1 r2 r3 r4 r5 r6 r7 x0_ x1_ x2_ x3_ q0_ q1_ hz2 hz3 hz4 hz5 hz6 V1 R1 C1 DD
 have HR:=Lib.hid R2
 have HS:=Lib.hid S2
 obtain ⟨r0,r1,r2,r3,r4,r5,r6,r7⟩:=R2
 obtain ⟨⟨m0,m1,m2,m3,m4,m5⟩,f0,f1,f2,f3,f4,f5⟩:=S2
 obtain ⟨q0,q1,-,-⟩:=P2
 rcases Classical.em (D < 6000) with hg1 | hg1
 ·have g1:decide (D < 6000) = true:=by simpa using hg1
  clear hg
  go_wp2
  go_ret2
  exact ⟨_,rfl,.inl ⟨rfl,rfl⟩,hB5.out⟩
 ·have g1:decide (D < 6000) = false:=by simpa using hg1
  have g2:decide (D < 4 * K) = true:=by simp; omega
  clear hg
  go_wp2
  go_ret2
  exact ⟨_,rfl,.inl ⟨rfl,rfl⟩,hB5.out⟩
theorem rows_rng_ref_ok (s x y v b wt t cx cy bx b2 K D A B F:Int) (w:World) (hk:checkI s 2 x y v b wt t = 0) (hv:boxV cx cy bx b2 = true) (eK:radI cx cy bx b2 = K) (eD:distI x y cx cy = D)
 (hx:-2000000≤x∧x≤2000000) (hy:-2000000≤y∧y≤2000000) (hcx0:-2000000≤cx∧cx≤2000000) (hcy0:-2000000≤cy∧cy≤2000000) (hvv:0≤v∧v≤8000000) (hbb:0≤b∧b≤600000)
 (K0:0≤K) (K1:K≤2828428) (D0:0≤D) (D1:D≤5656854) (hg1:6000≤D) (hg2:4 * K≤D) (eA:rngA x cx D = A) (eB:rngA y cy D = B) (eF:rngF D K = F) (hA:-256≤A∧A≤256) (hB:-256≤B∧B≤256) (hF:0≤F∧F≤4000000) (pA:-512000000≤A * cx∧A * cx≤512000000) (pB:-512000000≤B * cy∧B * cy≤512000000) (pK:0≤K * K∧K * K≤9000000000000) :
 Calls Tryz.prog 36 #[.agg #[.int .i64 s,.int .u8 2,.int .i64 x,.int .i64 y,.int .i64 v,.int .i64 b,.int .i64 wt,.int .i64 t],.agg #[.int .i64 cx,.int .i64 cy,.int .i64 bx,.int .i64 b2]] w fun e w'=>∃ u,e = .returned (.tuple #[u,.int .i64 0])∧RowsIs w [⟨s,A,B,A * cx + B * cy + 256 * (v - D),K + 256 * (b + 1 + F),wt⟩] u w'∧Below w.heap.size w w':=by
 obtain ⟨x0,x1⟩:=hx
 obtain ⟨y0,y1⟩:=hy
 obtain ⟨cx0,cx1⟩:=hcx0
 obtain ⟨cy0,cy1⟩:=hcy0
 obtain ⟨v0,v1⟩:=hvv
 obtain ⟨b0,b1⟩:=hbb
 have C1:=fun w=>check_ref s 2 x y v b wt t w (by decide) (by decide)
 have V1:=fun w=>boxv_ref cx cy bx b2 w
 have R1:=fun w=>radius_ref cx cy bx b2 w
 have D1':=fun w=>dist_ref x y cx cy w
 rw [hk] at C1
 rw [hv] at V1
 rw [eK] at R1
 rw [eD] at D1'
 have C1:=Lib.hid C1
 have V1:=Lib.hid V1
 have R1:=Lib.hid R1
 have DD:=Lib.hid D1'
 clear hk hv eK eD
 obtain ⟨A0,A1⟩:=hA
 obtain ⟨B0,B1⟩:=hB
 obtain ⟨F0,F1⟩:=hF
 obtain ⟨pA0,pA1⟩:=pA
 obtain ⟨pB0,pB1⟩:=pB
 obtain ⟨pK0,pK1⟩:=pK
 have g1:decide (D < 6000) = false:=by simp; omega
 have g2:decide (D < 4 * K) = false:=by simp; omega
 unfold rngA at eA eB
 unfold rngF at eF
 have CA:=fun w=>rround_any (256 * (cx - x)) D w (by omega) (by omega) (by omega) (by omega)
 have CB:=fun w=>rround_any (256 * (cy - y)) D w (by omega) (by omega) (by omega) (by omega)
 have CF:=fun w=>rceil_any (K * K) (2 * (D - K)) w (by omega) (by omega) (by omega) (by omega)
 rw [eA] at CA
 rw [eB] at CB
 rw [eF] at CF
 have CA:=Lib.hid CA
 have CB:=Lib.hid CB
 have CF:=Lib.hid CF
 clear eA eB eF
 go_enter Tryz.func36,Tryz.ntmps36
 go_wp2_with fail
 refine (C1.out _).mono ?_
 rintro e w1 ⟨rfl,hb⟩
 obtain ⟨hc,hf⟩:=bcell hb
 have hz0:w.heap.size < w1.heap.size:=by have:=hb.size; simp at this; omega
 have hz1:w.heap.size + 1 < w1.heap.size:=by have:=hb.size; simp at this; omega
 have hA:Below w.heap.size w w1:=(((Below.refl _ _).alloc (Nat.le_refl _) _).alloc (by simp) _).trans (hb.mono (by simp; omega))
 go_wp2_with fail
 refine (V1.out _).mono ?_
 rintro e w2 ⟨rfl,hb2⟩
 obtain ⟨hc2,hf2⟩:=bcell hb2
 have hz2:w.heap.size < w2.heap.size:=Nat.lt_of_lt_of_le hz0 hb2.size
 have hz3:w.heap.size + 1 < w2.heap.size:=Nat.lt_of_lt_of_le hz1 hb2.size
 have hB:=Lib.hid (hA.trans (hb2.mono hA.size))
 go_upto_region 14 with fail
 have R0:RepIs w2 w.heap.size s 2 x y v b wt t:=by unfold RepIs; refine ⟨?_,?_,?_,?_,?_,?_,?_,?_⟩ <;> go_simp
 have X0:BoxIs w2 (w.heap.size + 1) cx cy bx b2:=by unfold BoxIs; refine ⟨?_,?_,?_,?_⟩ <;> go_simp
 have hW:=((Below.refl w2.heap.size w2).alloc (Nat.le_refl _) (.cells #[.int .i64 s,.int .i64 0,.int .i64 0,.int .i64 0,.int .i64 0,.int .i64 wt] 71)).alloc (by simp) (.cells #[.int .i64 cx,.int .i64 cy] 23)
 have R2:=R0.keep hW hz2
 have X2:=X0.keep hW hz3
 have S2:Six ((w2.alloc (.cells #[.int .i64 s,.int .i64 0,.int .i64 0,.int .i64 0,.int .i64 0,.int .i64 wt] 71)).alloc (.cells #[.int .i64 cx,.int .i64 cy] 23)) w2.heap.size ⟨s,0,0,0,0,wt⟩:=by unfold Six; refine ⟨⟨?_,?_,?_,?_,?_,?_⟩,?_,?_,?_,?_,?_,?_⟩ <;> go_simp
 have P2:Pair2 ((w2.alloc (.cells #[.int .i64 s,.int .i64 0,.int .i64 0,.int .i64 0,.int .i64 0,.int .i64 wt] 71)).alloc (.cells #[.int .i64 cx,.int .i64 cy] 23)) (w2.heap.size + 1) cx cy:=by unfold Pair2; refine ⟨?_,?_,?_,?_⟩ <;> go_simp
 have hB3:=Lib.hid (hB.out.trans (hW.mono hB.out.size))
 have hw2:=hB.out.size
 have hz4:w2.heap.size < ((w2.alloc (.cells #[.int .i64 s,.int .i64 0,.int .i64 0,.int .i64 0,.int .i64 0,.int .i64 wt] 71)).alloc (.cells #[.int .i64 cx,.int .i64 cy] 23)).heap.size:=by simp; omega
 have hz5:w2.heap.size + 1 < ((w2.alloc (.cells #[.int .i64 s,.int .i64 0,.int .i64 0,.int .i64 0,.int .i64 0,.int .i64 wt] 71)).alloc (.cells #[.int .i64 cx,.int .i64 cy] 23)).heap.size:=by simp
 have hz6:w.heap.size < ((w2.alloc (.cells #[.int .i64 s,.int .i64 0,.int .i64 0,.int .i64 0,.int .i64 0,.int .i64 wt] 71)).alloc (.cells #[.int .i64 cx,.int .i64 cy] 23)).heap.size:=by omega
 clear R0 X0 hW hb hc hf hz0 hz1 hA hb2 hc2 hf2 hB
 generalize hW3:((w2.alloc (.cells #[.int .i64 s,.int .i64 0,.int .i64 0,.int .i64 0,.int .i64 0,.int .i64 wt] 71)).alloc (.cells #[.int .i64 cx,.int .i64 cy] 23)) = w3 at *
 clear hW3
 obtain ⟨c,hcq⟩:∃ c,c = w2.heap.size + 1:=⟨_,rfl⟩
 rw [← hcq] at P2 hz5 ⊢
 generalize hg:w2.heap.size = g at *
 have n1:g≠c:=by omega
 have n2:w.heap.size≠g:=by omega
 have n3:w.heap.size≠c:=by omega
 have n4:c≠g:=by omega
 clear hg hcq w2
 have HR:=Lib.hid R2
 have HS:=Lib.hid S2
 have HP:=Lib.hid P2
 obtain ⟨r0,r1,r2,r3,r4,r5,r6,r7⟩:=R2
 obtain ⟨x0_,x1_,x2_,x3_⟩:=X2
 obtain ⟨q0_,q1_,-,-⟩:=P2
 clear S2
 have u0:=fun d os=>cell_regrown r2 d os
 have u1:=fun d os=>cell_regrown r3 d os
 have u2:=fun d os=>cell_regrown x0_ d os
 have u3:=fun d os=>cell_regrown x1_ d os
 have u4:=fun d os=>cell_regrown x2_ d os
 have u5:=fun d os=>cell_regrown x3_ d os
 have u6:=fun d os=>cell_regrown q0_ d os
 have u7:=fun d os=>cell_regrown q1_ d os
 have k1:=Lib.hid (fun d os=>Calls.regrown_of (R1.out (Go.Sort.grow (redrawn w3 d) os)))
 have k2:=Lib.hid (fun d os=>Calls.regrown_of (DD.out (Go.Sort.grow (redrawn w3 d) os)))
 refine wp_region_quiet_below (by kernel_rfl) (by kernel_rfl) ?_
 repeat (quiet_step (first | with_reducible exact k1.out _ _ | with_reducible exact k2.out _ _))
 refine wpQuiet_nil ?_
 intro w5 hw'
 have hb5:Below w3.heap.size w3 w5:=by
  obtain ⟨⟨dq,osq⟩,hw''⟩:=hw'
  rw [hw'']; exact below_regrown w3 dq osq
 have R2:=HR.out.keep hb5 hz6
 have S2:=HS.out.keep hb5 hz4
 have P2:=HP.out.keep hb5 hz5
 have hB5:=Lib.hid (hB3.out.trans (hb5.mono hB3.out.size))
 clear k1 k2 u0 u1 u2 u3 u4 u5 u6 u7 hw' hb5 HR HS HP hB3 r0 r1 r2 r3 r4 r5 r6 r7 x0_ x1_ x2_ x3_ q0_ q1_ hz2 hz3 hz4 hz5 hz6 V1 R1 C1 DD
 have HR:=Lib.hid R2
 have HS:=Lib.hid S2
 obtain ⟨r0,r1,r2,r3,r4,r5,r6,r7⟩:=R2
 obtain ⟨⟨m0,m1,m2,m3,m4,m5⟩,f0,f1,f2,f3,f4,f5⟩:=S2
 obtain ⟨q0,q1,-,-⟩:=P2
 go_wp2_with fail
 refine (CA.out _).mono ?_
 rintro e w6 ⟨rfl,rfl⟩
 go_wp2_with fail
 refine (CB.out _).mono ?_
 rintro e w6 ⟨rfl,rfl⟩
 go_wp2_with fail
 refine (CF.out _).mono ?_
 rintro e w6 ⟨rfl,rfl⟩
 go_upto_region 23 with fail
 have S9:Six ((((((w5.setCell ⟨g,1,none⟩ (.int .i64 A))).setCell ⟨g,2,none⟩ (.int .i64 B)).setCell ⟨g,3,none⟩ (.int .i64 (A * cx + B * cy + 256 * (v - D))))).setCell ⟨g,4,none⟩ (.int .i64 (K + 256 * (b + 1 + F)))) g ⟨s,A,B,A * cx + B * cy + 256 * (v - D),K + 256 * (b + 1 + F),wt⟩:=by unfold Six; refine ⟨⟨?_,?_,?_,?_,?_,?_⟩,?_,?_,?_,?_,?_,?_⟩ <;> go_simp
 have hB9:=Lib.hid ((((hB5.out.setCell (p:=⟨g,1,none⟩) hw2 (.int .i64 A)).setCell (p:=⟨g,2,none⟩) hw2 (.int .i64 B)).setCell (p:=⟨g,3,none⟩) hw2 (.int .i64 (A * cx + B * cy + 256 * (v - D)))).setCell (p:=⟨g,4,none⟩) hw2 (.int .i64 (K + 256 * (b + 1 + F))))
 clear r0 r1 r2 r3 r4 r5 r6 r7 m0 m1 m2 m3 m4 m5 f0 f1 f2 f3 f4 f5 HR HS hB5
 generalize (((w5.setCell _ _).setCell _ _).setCell _ _).setCell _ _ = w9 at *
 obtain ⟨⟨m0,m1,m2,m3,m4,m5⟩,-⟩:=S9
 go_wp2
 go_ret2
 refine ⟨_,rfl,.inr ⟨w9.heap.size,by simp,rfl,hB9.out.size,?_⟩,hB9.out.alloc hB9.out.size _⟩
 show (w9.heap.push _)[w9.heap.size]? = _
 rw [Array.getElem?_push_size]
 rfl
end Go.Proofs.YtajmjkliblippaaGreatDoor.S41
namespace Go.Proofs.YtajmjkliblippaaGreatDoor.S41
open Go.RowKit Tr Sq
set_option maxHeartbeats 4000000
set_option maxRecDepth 100000
theorem rows_brg_ref (s x y v b wt t cx cy bx b2 K D A B F:Int) (w:World) (hk:checkI s 3 x y v b wt t = 0) (hv:boxV cx cy bx b2 = true) (eK:radI cx cy bx b2 = K) (eD:distI x y cx cy = D)
 (hx:-2000000≤x∧x≤2000000) (hy:-2000000≤y∧y≤2000000) (hvv:0≤v∧v≤129599999) (hbb:0≤b∧b≤3600000)
 (K0:0≤K) (K1:K≤2828428) (D0:0≤D) (D1:D≤5656854) (eA:brgA v = A) (eB:brgB v = B) (eF:brgF b (D + 1 + K) = F) (hA:-256≤A∧A≤256) (hB:-256≤B∧B≤256) (hF:0≤F∧F≤4294967296) (pA:-512000000≤A * x∧A * x≤512000000) (pB:-512000000≤B * y∧B * y≤512000000)
 (hcv:-1073741824≤cosI v∧cosI v≤1073741824) (hsv:-1073741824≤sinI v∧sinI v≤1073741824) (hsb:0≤sinI b∧sinI b≤1073741824) (hG:0≤256 * (D + 1 + K) * (sinI b + 2)∧256 * (D + 1 + K) * (sinI b + 2) < 9223372036854775808) :
 Calls Tryz.prog 36 #[.agg #[.int .i64 s,.int .u8 3,.int .i64 x,.int .i64 y,.int .i64 v,.int .i64 b,.int .i64 wt,.int .i64 t],.agg #[.int .i64 cx,.int .i64 cy,.int .i64 bx,.int .i64 b2]] w fun e w'=>∃ u,e = .returned (.tuple #[u,.int .i64 0])∧RowsIs w [⟨s,A,B,A * x + B * y,D + 1 + K + F,wt⟩] u w'∧Below w.heap.size w w':=by
 obtain ⟨x0,x1⟩:=hx
 obtain ⟨y0,y1⟩:=hy
 obtain ⟨v0,v1⟩:=hvv
 obtain ⟨b0,b1⟩:=hbb
 obtain ⟨A0,A1⟩:=hA
 obtain ⟨B0,B1⟩:=hB
 obtain ⟨F0,F1⟩:=hF
 obtain ⟨pA0,pA1⟩:=pA
 obtain ⟨pB0,pB1⟩:=pB
 obtain ⟨cv0,cv1⟩:=hcv
 obtain ⟨sv0,sv1⟩:=hsv
 obtain ⟨sb0,sb1⟩:=hsb
 obtain ⟨G0,G1⟩:=hG
 have C1:=fun w=>check_ref s 3 x y v b wt t w (by decide) (by decide)
 have V1:=fun w=>boxv_ref cx cy bx b2 w
 have R1:=fun w=>radius_ref cx cy bx b2 w
 have D1':=fun w=>dist_ref x y cx cy w
 rw [hk] at C1
 rw [hv] at V1
 rw [eK] at R1
 rw [eD] at D1'
 have C1:=Lib.hid C1
 have V1:=Lib.hid V1
 have R1:=Lib.hid R1
 have DD:=Lib.hid D1'
 clear hk hv eK eD
 unfold brgA at eA
 unfold brgB at eB
 unfold brgF at eF
 have NV:=fun w=>cos_ref v w (by omega) (by omega)
 have SV:=fun w=>sin_ref v w (by omega) (by omega)
 have SB:=fun w=>sin_ref b w (by omega) (by omega)
 generalize cosI v = cv at *
 generalize sinI v = sv at *
 generalize sinI b = sb at *
 have CA:=fun w=>rround_any (256 * cv) 1073741824 w (by omega) (by omega) (by omega) (by omega)
 have CB:=fun w=>rround_any (-256 * sv) 1073741824 w (by omega) (by omega) (by omega) (by omega)
 have CF:=fun w=>rmuldivup_any (256 * (D + 1 + K)) (sb + 2) 1073741824 w (by omega) (by omega) (by omega) (by omega) (by omega) (by omega) (by omega) (by omega)
 rw [eA] at CA
 rw [eB] at CB
 rw [eF] at CF
 have CA:=Lib.hid CA
 have CB:=Lib.hid CB
 have CF:=Lib.hid CF
 have NV:=Lib.hid NV
 have SV:=Lib.hid SV
 have SB:=Lib.hid SB
 clear eA eB eF G0 G1
 go_enter Tryz.func36,Tryz.ntmps36
 go_wp2_with fail
 refine (C1.out _).mono ?_
 rintro e w1 ⟨rfl,hb⟩
 obtain ⟨hc,hf⟩:=bcell hb
 have hz0:w.heap.size < w1.heap.size:=by have:=hb.size; simp at this; omega
 have hz1:w.heap.size + 1 < w1.heap.size:=by have:=hb.size; simp at this; omega
 have hA:Below w.heap.size w w1:=(((Below.refl _ _).alloc (Nat.le_refl _) _).alloc (by simp) _).trans (hb.mono (by simp; omega))
 go_wp2_with fail
 refine (V1.out _).mono ?_
 rintro e w2 ⟨rfl,hb2⟩
 obtain ⟨hc2,hf2⟩:=bcell hb2
 have hz2:w.heap.size < w2.heap.size:=Nat.lt_of_lt_of_le hz0 hb2.size
 have hz3:w.heap.size + 1 < w2.heap.size:=Nat.lt_of_lt_of_le hz1 hb2.size
 have hB:=Lib.hid (hA.trans (hb2.mono hA.size))
 go_upto_region 14 with fail
 have R0:RepIs w2 w.heap.size s 3 x y v b wt t:=by unfold RepIs; refine ⟨?_,?_,?_,?_,?_,?_,?_,?_⟩ <;> go_simp
 have X0:BoxIs w2 (w.heap.size + 1) cx cy bx b2:=by unfold BoxIs; refine ⟨?_,?_,?_,?_⟩ <;> go_simp
 have hW:=((Below.refl w2.heap.size w2).alloc (Nat.le_refl _) (.cells #[.int .i64 s,.int .i64 0,.int .i64 0,.int .i64 0,.int .i64 0,.int .i64 wt] 71)).alloc (by simp) (.cells #[.int .i64 cx,.int .i64 cy] 23)
 have R2:=R0.keep hW hz2
 have X2:=X0.keep hW hz3
 have S2:Six ((w2.alloc (.cells #[.int .i64 s,.int .i64 0,.int .i64 0,.int .i64 0,.int .i64 0,.int .i64 wt] 71)).alloc (.cells #[.int .i64 cx,.int .i64 cy] 23)) w2.heap.size ⟨s,0,0,0,0,wt⟩:=by unfold Six; refine ⟨⟨?_,?_,?_,?_,?_,?_⟩,?_,?_,?_,?_,?_,?_⟩ <;> go_simp
 have P2:Pair2 ((w2.alloc (.cells #[.int .i64 s,.int .i64 0,.int .i64 0,.int .i64 0,.int .i64 0,.int .i64 wt] 71)).alloc (.cells #[.int .i64 cx,.int .i64 cy] 23)) (w2.heap.size + 1) cx cy:=by unfold Pair2; refine ⟨?_,?_,?_,?_⟩ <;> go_simp
 have hB3:=Lib.hid (hB.out.trans (hW.mono hB.out.size))
 have hw2:=hB.out.size
 have hz4:w2.heap.size < ((w2.alloc (.cells #[.int .i64 s,.int .i64 0,.int .i64 0,.int .i64 0,.int .i64 0,.int .i64 wt] 71)).alloc (.cells #[.int .i64 cx,.int .i64 cy] 23)).heap.size:=by simp; omega
 have hz5:w2.heap.size + 1 < ((w2.alloc (.cells #[.int .i64 s,.int .i64 0,.int .i64 0,.int .i64 0,.int .i64 0,.int .i64 wt] 71)).alloc (.cells #[.int .i64 cx,.int .i64 cy] 23)).heap.size:=by simp
 have hz6:w.heap.size < ((w2.alloc (.cells #[.int .i64 s,.int .i64 0,.int .i64 0,.int .i64 0,.int .i64 0,.int .i64 wt] 71)).alloc (.cells #[.int .i64 cx,.int .i64 cy] 23)).heap.size:=by omega
 clear R0 X0 hW hb hc hf hz0 hz1 hA hb2 hc2 hf2 hB
 generalize hW3:((w2.alloc (.cells #[.int .i64 s,.int .i64 0,.int .i64 0,.int .i64 0,.int .i64 0,.int .i64 wt] 71)).alloc (.cells #[.int .i64 cx,.int .i64 cy] 23)) = w3 at *
 clear hW3
 obtain ⟨c,hcq⟩:∃ c,c = w2.heap.size + 1:=⟨_,rfl⟩
 rw [← hcq] at P2 hz5 ⊢
 generalize hg:w2.heap.size = g at *
 have n1:g≠c:=by omega
 have n2:w.heap.size≠g:=by omega
 have n3:w.heap.size≠c:=by omega
 have n4:c≠g:=by omega
 clear hg hcq w2
 have HR:=Lib.hid R2
 have HS:=Lib.hid S2
 have HP:=Lib.hid P2
 obtain ⟨r0,r1,r2,r3,r4,r5,r6,r7⟩:=R2
 obtain ⟨x0_,x1_,x2_,x3_⟩:=X2
 obtain ⟨q0_,q1_,-,-⟩:=P2
 clear S2
 have u0:=fun d os=>cell_regrown r2 d os
 have u1:=fun d os=>cell_regrown r3 d os
 have u2:=fun d os=>cell_regrown x0_ d os
 have u3:=fun d os=>cell_regrown x1_ d os
 have u4:=fun d os=>cell_regrown x2_ d os
 have u5:=fun d os=>cell_regrown x3_ d os
 have u6:=fun d os=>cell_regrown q0_ d os
 have u7:=fun d os=>cell_regrown q1_ d os
 have k1:=Lib.hid (fun d os=>Calls.regrown_of (R1.out (Go.Sort.grow (redrawn w3 d) os)))
 have k2:=Lib.hid (fun d os=>Calls.regrown_of (DD.out (Go.Sort.grow (redrawn w3 d) os)))
 refine wp_region_quiet_below (by kernel_rfl) (by kernel_rfl) ?_
 repeat (quiet_step (first | with_reducible exact k1.out _ _ | with_reducible exact k2.out _ _))
 refine wpQuiet_nil ?_
 intro w5 hw'
 have hb5:Below w3.heap.size w3 w5:=by
  obtain ⟨⟨dq,osq⟩,hw''⟩:=hw'
  rw [hw'']; exact below_regrown w3 dq osq
 have R2:=HR.out.keep hb5 hz6
 have S2:=HS.out.keep hb5 hz4
 have P2:=HP.out.keep hb5 hz5
 have hB5:=Lib.hid (hB3.out.trans (hb5.mono hB3.out.size))
 clear k1 k2 u0 u1 u2 u3 u4 u5 u6 u7 hw' hb5 HR HS HP hB3 r0 r1 r2 r3 r4 r5 r6 r7 x0_ x1_ x2_ x3_ q0_ q1_ hz2 hz3 hz4 hz5 hz6 V1 R1 C1 DD
 have HR:=Lib.hid R2
 have HS:=Lib.hid S2
 obtain ⟨r0,r1,r2,r3,r4,r5,r6,r7⟩:=R2
 obtain ⟨⟨m0,m1,m2,m3,m4,m5⟩,f0,f1,f2,f3,f4,f5⟩:=S2
 obtain ⟨q0,q1,-,-⟩:=P2
 go_wp2_with fail
 refine (NV.out _).mono ?_
 rintro e w6 ⟨rfl,rfl⟩
 go_wp2_with fail
 refine (CA.out _).mono ?_
 rintro e w6 ⟨rfl,rfl⟩
 go_wp2_with fail
 refine (SV.out _).mono ?_
 rintro e w6 ⟨rfl,rfl⟩
 go_wp2_with fail
 refine (CB.out _).mono ?_
 rintro e w6 ⟨rfl,rfl⟩
 go_wp2_with fail
 refine (SB.out _).mono ?_
 rintro e w6 ⟨rfl,rfl⟩
 go_wp2_with fail
 refine (CF.out _).mono ?_
 rintro e w6 ⟨rfl,rfl⟩
 go_upto_region 30 with fail
 have S9:Six ((((((w5.setCell ⟨g,1,none⟩ (.int .i64 A))).setCell ⟨g,2,none⟩ (.int .i64 B)).setCell ⟨g,3,none⟩ (.int .i64 (A * x + B * y)))).setCell ⟨g,4,none⟩ (.int .i64 (D + 1 + K + F))) g ⟨s,A,B,A * x + B * y,D + 1 + K + F,wt⟩:=by unfold Six; refine ⟨⟨?_,?_,?_,?_,?_,?_⟩,?_,?_,?_,?_,?_,?_⟩ <;> go_simp
 have hB9:=Lib.hid ((((hB5.out.setCell (p:=⟨g,1,none⟩) hw2 (.int .i64 A)).setCell (p:=⟨g,2,none⟩) hw2 (.int .i64 B)).setCell (p:=⟨g,3,none⟩) hw2 (.int .i64 (A * x + B * y))).setCell (p:=⟨g,4,none⟩) hw2 (.int .i64 (D + 1 + K + F)))
 clear r0 r1 r2 r3 r4 r5 r6 r7 m0 m1 m2 m3 m4 m5 f0 f1 f2 f3 f4 f5 HR HS hB5
 generalize (((w5.setCell _ _).setCell _ _).setCell _ _).setCell _ _ = w9 at *
 obtain ⟨⟨m0,m1,m2,m3,m4,m5⟩,-⟩:=S9
 go_wp2
 go_ret2
 refine ⟨_,rfl,.inr ⟨w9.heap.size,by simp,rfl,hB9.out.size,?_⟩,hB9.out.alloc hB9.out.size _⟩
 show (w9.heap.push _)[w9.heap.size]? = _
 rw [Array.getElem?_push_size]
 rfl
end Go.Proofs.YtajmjkliblippaaGreatDoor.S41
