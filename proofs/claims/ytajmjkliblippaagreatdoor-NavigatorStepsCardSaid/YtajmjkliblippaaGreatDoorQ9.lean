/-
  Walks and laws of the layers below, gathered from several texts.
-/
import Derived.Lib.Hide
import Derived.Test.YtajmjkliblippaaGreatDoorShelfQ
import Derived.WalkKit
import Derived.WalkSpells
import Derived.IntWalk
import Derived.BigQuiet
import Derived.Deep.QuietTactic
import Derived.Deep.LoopGhost
import Derived.LoopTactic
import Derived.Deep.Cut
import Derived.Laws.OwnMore
import Derived.Maps.AppendAt
import Derived.OwnWalk
import Derived.OneCell
import Derived.Lib.SmallJoins
import Derived.Deep.Onto
import Derived.Lib.SlicesCompact
import Derived.Lib.RowBridge
import Derived.Sort.OwnSortedInts
set_option linter.unusedVariables false
namespace Go.Proofs.YtajmjkliblippaaGreatDoor
structure Ms where
 s:Int
 a:Int
 b:Int
 z:Int
 d:Int
 w:Int
def gI (m:Ms) (X Y D:Int):Int:=m.a * X + m.b * Y - m.z * D
def detM (m n:Ms):Int:=m.a * n.b - n.a * m.b
structure Cr where
 x:Int
 y:Int
 d:Int
def crossC (m n:Ms) (c e:Int):Cr:=
 if detM m n < 0 then ⟨-(c * n.b - e * m.b),-(m.a * e - n.a * c),-detM m n⟩ else ⟨c * n.b - e * m.b,m.a * e - n.a * c,detM m n⟩
def edgeC (m:Ms) (up:Bool):Int:=if up = true then m.z + m.d else m.z - m.d
end Go.Proofs.YtajmjkliblippaaGreatDoor
namespace Go.Proofs.YtajmjkliblippaaGreatDoor
open Go.RowKit
theorem ret_int {k:IntKind} {a b:Int} (h:a = b):Ending.returned (.int k a) = .returned (.int k b):=by rw [h]
theorem ret_b {a b:Bool} (h:a = b):Ending.returned (.bool a) = .returned (.bool b):=by rw [h]
theorem below_drewN {B:Nat} {a w:World} (h:Below B a w) (n:Nat):Below B a (w.drewN n):=⟨h.os,h.tape,h.output,h.size,h.block⟩
theorem quiet_left {P:Program} {f:FuncId} {args:Array Value} {w:World} {n:Nat} {v:Value}
 (h:Calls P f args (w.drewN n) fun e w'=>e = .returned v∧w.drewN n = w'):Calls P f args (w.drewN n) fun e w''=>e = .returned v∧∃ m,w'' = w.drewN m:=
 h.mono fun _ _ ⟨he,hm⟩=>⟨he,n,hm.symm⟩
theorem quiet_add_left {P:Program} {f:FuncId} {args:Array Value} {w:World} {a n:Nat} {v:Value}
 (h:Calls P f args (w.drewN (a + n)) fun e w'=>e = .returned v∧w.drewN (a + n) = w') :
 Calls P f args (w.drewN (a + n)) fun e w''=>e = .returned v∧∃ m,w'' = w.drewN (a + m):=
 h.mono fun _ _ ⟨he,hm⟩=>⟨he,n,hm.symm⟩
def ms0:Ms:=⟨0,0,0,0,0,0⟩
def nth (l:List Ms) (i:Nat):Ms:=l.getD i ms0
theorem nth_mem {l:List Ms} {i:Nat} (h:i < l.length):nth l i ∈ l:=by
 unfold nth
 rw [List.getD_eq_getElem?_getD,List.getElem?_eq_getElem h]
 exact List.getElem_mem h
theorem nth_eq {l:List Ms} {i:Nat} (h:i < l.length):nth l i = l[i]:=by
 unfold nth
 rw [List.getD_eq_getElem?_getD,List.getElem?_eq_getElem h]
 rfl
theorem take_nth {l:List Ms} {i:Nat} (h:i < l.length):l.take (i + 1) = l.take i ++ [nth l i]:=by
 rw [List.take_succ_eq_append_getElem h,nth_eq h]
structure MsAt (l:List Ms) (b o:Nat) (w:World):Prop where
 lt:b < w.heap.size
 c0:∀ i,i < l.length→w.cell? ⟨b,o + i * 6,none⟩ = some (.int .i64 (nth l i).s)
 c1:∀ i,i < l.length→w.cell? ⟨b,o + i * 6 + 1,none⟩ = some (.int .i64 (nth l i).a)
 c2:∀ i,i < l.length→w.cell? ⟨b,o + i * 6 + 2,none⟩ = some (.int .i64 (nth l i).b)
 c3:∀ i,i < l.length→w.cell? ⟨b,o + i * 6 + 3,none⟩ = some (.int .i64 (nth l i).z)
 c4:∀ i,i < l.length→w.cell? ⟨b,o + i * 6 + 4,none⟩ = some (.int .i64 (nth l i).d)
 c5:∀ i,i < l.length→w.cell? ⟨b,o + i * 6 + 5,none⟩ = some (.int .i64 (nth l i).w)
theorem MsAt.keep {l:List Ms} {b o B:Nat} {w w':World} (h:MsAt l b o w) (hb:Below B w w') (hB:b < B):MsAt l b o w':=
 ⟨Nat.lt_of_lt_of_le h.lt hb.size,fun i hi=>(hb.cell (p:=⟨b,o + i * 6,none⟩) hB).trans (h.c0 i hi),fun i hi=>(hb.cell (p:=⟨b,o + i * 6 + 1,none⟩) hB).trans (h.c1 i hi),fun i hi=>(hb.cell (p:=⟨b,o + i * 6 + 2,none⟩) hB).trans (h.c2 i hi),fun i hi=>(hb.cell (p:=⟨b,o + i * 6 + 3,none⟩) hB).trans (h.c3 i hi),fun i hi=>(hb.cell (p:=⟨b,o + i * 6 + 4,none⟩) hB).trans (h.c4 i hi),fun i hi=>(hb.cell (p:=⟨b,o + i * 6 + 5,none⟩) hB).trans (h.c5 i hi)⟩
theorem MsAt.below {l:List Ms} {b o:Nat} {w w':World} (h:MsAt l b o w) (hb:Below w.heap.size w w'):MsAt l b o w':=h.keep hb h.lt
theorem MsAt.take {l:List Ms} {b o:Nat} {w:World} (h:MsAt l b o w) (k:Nat):MsAt (l.take k) b o w:=by
 have e:∀ i,i < (l.take k).length→i < l.length∧nth (l.take k) i = nth l i:=fun i hi=>by
  rw [List.length_take] at hi
  refine ⟨by omega,?_⟩
  unfold nth
  rw [List.getD_eq_getElem?_getD,List.getD_eq_getElem?_getD,List.getElem?_take,if_pos (by omega)]
 exact ⟨h.lt,fun i hi=>by rw [(e i hi).2]; exact h.c0 i (e i hi).1,fun i hi=>by rw [(e i hi).2]; exact h.c1 i (e i hi).1,fun i hi=>by rw [(e i hi).2]; exact h.c2 i (e i hi).1,fun i hi=>by rw [(e i hi).2]; exact h.c3 i (e i hi).1,fun i hi=>by rw [(e i hi).2]; exact h.c4 i (e i hi).1,fun i hi=>by rw [(e i hi).2]; exact h.c5 i (e i hi).1⟩
def LstAt (l:List Ms) (v:Value) (w:World):Prop:=(v = .slice none 0 0∧l = [])∨∃ b o cap,v = .slice (some ⟨b,o,none⟩) l.length cap∧l.length≤cap∧cap≤9223372036854775807∧MsAt l b o w
theorem LstAt.below {l:List Ms} {v:Value} {w w':World} (h:LstAt l v w) (hb:Below w.heap.size w w'):LstAt l v w':=by
 rcases h with h | ⟨b,o,cap,h1,h2,h3,h4⟩
 ·exact .inl h
 ·exact .inr ⟨b,o,cap,h1,h2,h3,h4.below hb⟩
def okF (s a b z d t:Int):Bool:=decide (1≤s∧s≤8∧-256≤a∧a≤256∧-256≤b∧b≤256∧(a≠0∨b≠0)∧-4294967296≤z∧z≤4294967296∧0≤d∧d≤4294967296∧1≤t∧t≤16)
def okM (m:Ms):Bool:=okF m.s m.a m.b m.z m.d m.w
structure OkM (m:Ms):Prop where
 s0:1≤m.s
 s1:m.s≤8
 a0:-256≤m.a
 a1:m.a≤256
 b0:-256≤m.b
 b1:m.b≤256
 nz:m.a≠0∨m.b≠0
 z0:-4294967296≤m.z
 z1:m.z≤4294967296
 d0:0≤m.d
 d1:m.d≤4294967296
 w0:1≤m.w
 w1:m.w≤16
theorem okM_iff {m:Ms}:okM m = true↔OkM m:=by
 unfold okM okF
 rw [decide_eq_true_iff]
 constructor
 ·rintro ⟨h0,h1,h2,h3,h4,h5,h6,h7,h8,h9,h10,h11,h12⟩
  exact ⟨h0,h1,h2,h3,h4,h5,h6,h7,h8,h9,h10,h11,h12⟩
 ·rintro ⟨h0,h1,h2,h3,h4,h5,h6,h7,h8,h9,h10,h11,h12⟩
  exact ⟨h0,h1,h2,h3,h4,h5,h6,h7,h8,h9,h10,h11,h12⟩
def chkL (l:List Ms):Int:=if 16 < l.length then 3 else if l.all okM = true then 0 else 1
theorem chkL_ok {l:List Ms} (h:chkL l = 0):l.length≤16∧∀ m ∈ l,OkM m:=by
 unfold chkL at h
 split at h
 ·cases h
 ·split at h
  ·rename_i h1 h2
   exact ⟨by omega,fun m hm=>okM_iff.1 (List.all_eq_true.1 h2 m hm)⟩
  ·cases h
theorem chkL_of {l:List Ms} (h:l.length≤16) (g:∀ m ∈ l,OkM m):chkL l = 0:=by
 unfold chkL
 rw [if_neg (by omega),if_pos (List.all_eq_true.2 fun m hm=>okM_iff.2 (g m hm))]
set_option maxHeartbeats 20000000
theorem valid_any (s a b z d t:Int) (w:World):Calls Tryz.prog 131 #[.agg #[.int .i64 s,.int .i64 a,.int .i64 b,.int .i64 z,.int .i64 d,.int .i64 t]] w fun e w'=>e = .returned (.bool (okF s a b z d t))∧Below w.heap.size w w':=by
 by_cases q0:1≤s
 ·have g0:decide (1≤s) = true:=by simpa using q0
  by_cases q1:s≤8
  ·have g1:decide (s≤8) = true:=by simpa using q1
   by_cases q2:-256≤a
   ·have g2:decide (-256≤a) = true:=by simpa using q2
    by_cases q3:a≤256
    ·have g3:decide (a≤256) = true:=by simpa using q3
     by_cases q4:-256≤b
     ·have g4:decide (-256≤b) = true:=by simpa using q4
      by_cases q5:b≤256
      ·have g5:decide (b≤256) = true:=by simpa using q5
       by_cases ha:a = 0
       ·have ga:(a != 0) = false:=by simpa using ha
        by_cases hb:b = 0
        ·have gb:(b != 0) = false:=by simpa using hb
         have E:=Lib.hid (show okF s a b z d t = false from decide_eq_false (fun h=>by omega))
         clear q0 q1 q2 q3 q4 q5 ha hb
         go_enter Tryz.func131,Tryz.ntmps131
         go_upto_region 1 with (fail)
         simp only [List.append_eq,List.cons_append,List.nil_append]
         go_wp2
         go_ret
         exact ⟨ret_b E.out.symm,(Below.refl _ _).alloc (Nat.le_refl _) _⟩
        ·have gb:(b != 0) = true:=by simpa using hb
         by_cases qp0:-4294967296≤z
         ·have gp0:decide (-4294967296≤z) = true:=by simpa using qp0
          by_cases qp1:z≤4294967296
          ·have gp1:decide (z≤4294967296) = true:=by simpa using qp1
           by_cases qp2:0≤d
           ·have gp2:decide (0≤d) = true:=by simpa using qp2
            by_cases qp3:d≤4294967296
            ·have gp3:decide (d≤4294967296) = true:=by simpa using qp3
             by_cases qp4:1≤t
             ·have gp4:decide (1≤t) = true:=by simpa using qp4
              by_cases qp5:t≤16
              ·have gp5:decide (t≤16) = true:=by simpa using qp5
               have E:=Lib.hid (show okF s a b z d t = true from decide_eq_true (by omega))
               clear q0 q1 q2 q3 q4 q5 qp0 qp1 qp2 qp3 qp4 qp5 ha hb
               go_enter Tryz.func131,Tryz.ntmps131
               go_upto_region 1 with (fail)
               simp only [List.append_eq,List.cons_append,List.nil_append]
               go_wp2
               go_ret
               exact ⟨ret_b E.out.symm,(Below.refl _ _).alloc (Nat.le_refl _) _⟩
              ·have gp5:decide (t≤16) = false:=by simpa using qp5
               have E:=Lib.hid (show okF s a b z d t = false from decide_eq_false (fun h=>by omega))
               clear q0 q1 q2 q3 q4 q5 qp0 qp1 qp2 qp3 qp4 qp5 ha hb
               go_enter Tryz.func131,Tryz.ntmps131
               go_upto_region 1 with (fail)
               simp only [List.append_eq,List.cons_append,List.nil_append]
               go_wp2
               go_ret
               exact ⟨ret_b E.out.symm,(Below.refl _ _).alloc (Nat.le_refl _) _⟩
             ·have gp4:decide (1≤t) = false:=by simpa using qp4
              have E:=Lib.hid (show okF s a b z d t = false from decide_eq_false (fun h=>by omega))
              clear q0 q1 q2 q3 q4 q5 qp0 qp1 qp2 qp3 qp4 ha hb
              go_enter Tryz.func131,Tryz.ntmps131
              go_upto_region 1 with (fail)
              simp only [List.append_eq,List.cons_append,List.nil_append]
              go_wp2
              go_ret
              exact ⟨ret_b E.out.symm,(Below.refl _ _).alloc (Nat.le_refl _) _⟩
            ·have gp3:decide (d≤4294967296) = false:=by simpa using qp3
             have E:=Lib.hid (show okF s a b z d t = false from decide_eq_false (fun h=>by omega))
             clear q0 q1 q2 q3 q4 q5 qp0 qp1 qp2 qp3 ha hb
             go_enter Tryz.func131,Tryz.ntmps131
             go_upto_region 1 with (fail)
             simp only [List.append_eq,List.cons_append,List.nil_append]
             go_wp2
             go_ret
             exact ⟨ret_b E.out.symm,(Below.refl _ _).alloc (Nat.le_refl _) _⟩
           ·have gp2:decide (0≤d) = false:=by simpa using qp2
            have E:=Lib.hid (show okF s a b z d t = false from decide_eq_false (fun h=>by omega))
            clear q0 q1 q2 q3 q4 q5 qp0 qp1 qp2 ha hb
            go_enter Tryz.func131,Tryz.ntmps131
            go_upto_region 1 with (fail)
            simp only [List.append_eq,List.cons_append,List.nil_append]
            go_wp2
            go_ret
            exact ⟨ret_b E.out.symm,(Below.refl _ _).alloc (Nat.le_refl _) _⟩
          ·have gp1:decide (z≤4294967296) = false:=by simpa using qp1
           have E:=Lib.hid (show okF s a b z d t = false from decide_eq_false (fun h=>by omega))
           clear q0 q1 q2 q3 q4 q5 qp0 qp1 ha hb
           go_enter Tryz.func131,Tryz.ntmps131
           go_upto_region 1 with (fail)
           simp only [List.append_eq,List.cons_append,List.nil_append]
           go_wp2
           go_ret
           exact ⟨ret_b E.out.symm,(Below.refl _ _).alloc (Nat.le_refl _) _⟩
         ·have gp0:decide (-4294967296≤z) = false:=by simpa using qp0
          have E:=Lib.hid (show okF s a b z d t = false from decide_eq_false (fun h=>by omega))
          clear q0 q1 q2 q3 q4 q5 qp0 ha hb
          go_enter Tryz.func131,Tryz.ntmps131
          go_upto_region 1 with (fail)
          simp only [List.append_eq,List.cons_append,List.nil_append]
          go_wp2
          go_ret
          exact ⟨ret_b E.out.symm,(Below.refl _ _).alloc (Nat.le_refl _) _⟩
       ·have ga:(a != 0) = true:=by simpa using ha
        by_cases qp0:-4294967296≤z
        ·have gp0:decide (-4294967296≤z) = true:=by simpa using qp0
         by_cases qp1:z≤4294967296
         ·have gp1:decide (z≤4294967296) = true:=by simpa using qp1
          by_cases qp2:0≤d
          ·have gp2:decide (0≤d) = true:=by simpa using qp2
           by_cases qp3:d≤4294967296
           ·have gp3:decide (d≤4294967296) = true:=by simpa using qp3
            by_cases qp4:1≤t
            ·have gp4:decide (1≤t) = true:=by simpa using qp4
             by_cases qp5:t≤16
             ·have gp5:decide (t≤16) = true:=by simpa using qp5
              have E:=Lib.hid (show okF s a b z d t = true from decide_eq_true (by omega))
              clear q0 q1 q2 q3 q4 q5 qp0 qp1 qp2 qp3 qp4 qp5 ha
              go_enter Tryz.func131,Tryz.ntmps131
              go_upto_region 1 with (fail)
              simp only [List.append_eq,List.cons_append,List.nil_append]
              go_wp2
              go_ret
              exact ⟨ret_b E.out.symm,(Below.refl _ _).alloc (Nat.le_refl _) _⟩
             ·have gp5:decide (t≤16) = false:=by simpa using qp5
              have E:=Lib.hid (show okF s a b z d t = false from decide_eq_false (fun h=>by omega))
              clear q0 q1 q2 q3 q4 q5 qp0 qp1 qp2 qp3 qp4 qp5 ha
              go_enter Tryz.func131,Tryz.ntmps131
              go_upto_region 1 with (fail)
              simp only [List.append_eq,List.cons_append,List.nil_append]
              go_wp2
              go_ret
              exact ⟨ret_b E.out.symm,(Below.refl _ _).alloc (Nat.le_refl _) _⟩
            ·have gp4:decide (1≤t) = false:=by simpa using qp4
             have E:=Lib.hid (show okF s a b z d t = false from decide_eq_false (fun h=>by omega))
             clear q0 q1 q2 q3 q4 q5 qp0 qp1 qp2 qp3 qp4 ha
             go_enter Tryz.func131,Tryz.ntmps131
             go_upto_region 1 with (fail)
             simp only [List.append_eq,List.cons_append,List.nil_append]
             go_wp2
             go_ret
             exact ⟨ret_b E.out.symm,(Below.refl _ _).alloc (Nat.le_refl _) _⟩
           ·have gp3:decide (d≤4294967296) = false:=by simpa using qp3
            have E:=Lib.hid (show okF s a b z d t = false from decide_eq_false (fun h=>by omega))
            clear q0 q1 q2 q3 q4 q5 qp0 qp1 qp2 qp3 ha
            go_enter Tryz.func131,Tryz.ntmps131
            go_upto_region 1 with (fail)
            simp only [List.append_eq,List.cons_append,List.nil_append]
            go_wp2
            go_ret
            exact ⟨ret_b E.out.symm,(Below.refl _ _).alloc (Nat.le_refl _) _⟩
          ·have gp2:decide (0≤d) = false:=by simpa using qp2
           have E:=Lib.hid (show okF s a b z d t = false from decide_eq_false (fun h=>by omega))
           clear q0 q1 q2 q3 q4 q5 qp0 qp1 qp2 ha
           go_enter Tryz.func131,Tryz.ntmps131
           go_upto_region 1 with (fail)
           simp only [List.append_eq,List.cons_append,List.nil_append]
           go_wp2
           go_ret
           exact ⟨ret_b E.out.symm,(Below.refl _ _).alloc (Nat.le_refl _) _⟩
         ·have gp1:decide (z≤4294967296) = false:=by simpa using qp1
          have E:=Lib.hid (show okF s a b z d t = false from decide_eq_false (fun h=>by omega))
          clear q0 q1 q2 q3 q4 q5 qp0 qp1 ha
          go_enter Tryz.func131,Tryz.ntmps131
          go_upto_region 1 with (fail)
          simp only [List.append_eq,List.cons_append,List.nil_append]
          go_wp2
          go_ret
          exact ⟨ret_b E.out.symm,(Below.refl _ _).alloc (Nat.le_refl _) _⟩
        ·have gp0:decide (-4294967296≤z) = false:=by simpa using qp0
         have E:=Lib.hid (show okF s a b z d t = false from decide_eq_false (fun h=>by omega))
         clear q0 q1 q2 q3 q4 q5 qp0 ha
         go_enter Tryz.func131,Tryz.ntmps131
         go_upto_region 1 with (fail)
         simp only [List.append_eq,List.cons_append,List.nil_append]
         go_wp2
         go_ret
         exact ⟨ret_b E.out.symm,(Below.refl _ _).alloc (Nat.le_refl _) _⟩
      ·have g5:decide (b≤256) = false:=by simpa using q5
       have E:=Lib.hid (show okF s a b z d t = false from decide_eq_false (fun h=>by omega))
       clear q0 q1 q2 q3 q4 q5
       go_enter Tryz.func131,Tryz.ntmps131
       go_upto_region 1 with (fail)
       simp only [List.append_eq,List.cons_append,List.nil_append]
       go_wp2
       go_ret
       exact ⟨ret_b E.out.symm,(Below.refl _ _).alloc (Nat.le_refl _) _⟩
     ·have g4:decide (-256≤b) = false:=by simpa using q4
      have E:=Lib.hid (show okF s a b z d t = false from decide_eq_false (fun h=>by omega))
      clear q0 q1 q2 q3 q4
      go_enter Tryz.func131,Tryz.ntmps131
      go_upto_region 1 with (fail)
      simp only [List.append_eq,List.cons_append,List.nil_append]
      go_wp2
      go_ret
      exact ⟨ret_b E.out.symm,(Below.refl _ _).alloc (Nat.le_refl _) _⟩
    ·have g3:decide (a≤256) = false:=by simpa using q3
     have E:=Lib.hid (show okF s a b z d t = false from decide_eq_false (fun h=>by omega))
     clear q0 q1 q2 q3
     go_enter Tryz.func131,Tryz.ntmps131
     go_upto_region 1 with (fail)
     simp only [List.append_eq,List.cons_append,List.nil_append]
     go_wp2
     go_ret
     exact ⟨ret_b E.out.symm,(Below.refl _ _).alloc (Nat.le_refl _) _⟩
   ·have g2:decide (-256≤a) = false:=by simpa using q2
    have E:=Lib.hid (show okF s a b z d t = false from decide_eq_false (fun h=>by omega))
    clear q0 q1 q2
    go_enter Tryz.func131,Tryz.ntmps131
    go_upto_region 1 with (fail)
    simp only [List.append_eq,List.cons_append,List.nil_append]
    go_wp2
    go_ret
    exact ⟨ret_b E.out.symm,(Below.refl _ _).alloc (Nat.le_refl _) _⟩
  ·have g1:decide (s≤8) = false:=by simpa using q1
   have E:=Lib.hid (show okF s a b z d t = false from decide_eq_false (fun h=>by omega))
   clear q0 q1
   go_enter Tryz.func131,Tryz.ntmps131
   go_upto_region 1 with (fail)
   simp only [List.append_eq,List.cons_append,List.nil_append]
   go_wp2
   go_ret
   exact ⟨ret_b E.out.symm,(Below.refl _ _).alloc (Nat.le_refl _) _⟩
 ·have g0:decide (1≤s) = false:=by simpa using q0
  have E:=Lib.hid (show okF s a b z d t = false from decide_eq_false (fun h=>by omega))
  clear q0
  go_enter Tryz.func131,Tryz.ntmps131
  go_upto_region 1 with (fail)
  simp only [List.append_eq,List.cons_append,List.nil_append]
  go_wp2
  go_ret
  exact ⟨ret_b E.out.symm,(Below.refl _ _).alloc (Nat.le_refl _) _⟩
set_option maxHeartbeats 200000
def ChkRcheck (l:List Ms) (w:World) (v:Value) (wr:World):Prop:=∃ k:Nat,v = .int .i64 k∧k≤l.length∧Hid (∀ i,i < k→okM (nth l i) = true)∧Below w.heap.size w wr
set_option maxHeartbeats 1000000
theorem check_some (l:List Ms) (b o cap:Nat) (w:World) (h:MsAt l b o w) (hc:l.length≤cap) (hm:cap≤9223372036854775807) :
 Calls Tryz.prog 92 #[.slice (some ⟨b,o,none⟩) l.length cap] w fun e w'=>e = .returned (.int .i64 (chkL l))∧Below w.heap.size w w':=by
 have H:=Lib.hid h
 have hlt:=h.lt
 clear h
 by_cases h16:16 < l.length
 ·have g:decide (16 < l.length) = true:=by simpa using h16
  have g':decide (16 < (l.length:Int)) = true:=by simp; omega
  have E:=Lib.hid (show chkL l = 3 by unfold chkL; rw [if_pos h16])
  clear h16
  go_enter Tryz.func92,Tryz.ntmps92
  go_wp2
  go_ret
  exact ⟨ret_int E.out.symm,Below.refl _ _⟩
 ·have g:decide (16 < l.length) = false:=by simpa using h16
  have g':decide (16 < (l.length:Int)) = false:=by simp; omega
  have E0:=Lib.hid (show chkL l = if l.all okM = true then 0 else 1 by unfold chkL; rw [if_neg h16])
  go_enter Tryz.func92,Tryz.ntmps92
  go_wp2
  go_loopw [10] (ChkRcheck l w) (fun i _=>l.length - (intOf i).toNat)
  case atStart=>exact ⟨0,rfl,Nat.zero_le _,Lib.hid fun i hi=>absurd hi (by omega),Below.refl _ _⟩
  case round =>
   obtain ⟨k,rfl,hk,hok,hbr⟩:=hrel
   have HB:=Lib.hid hbr
   by_cases q:k < l.length
   ·have q':decide (k < l.length) = true:=by simpa using q
    have M:=H.out.keep hbr hlt
    have c0:=M.c0 k q
    have c1:=M.c1 k q
    have c2:=M.c2 k q
    have c3:=M.c3 k q
    have c4:=M.c4 k q
    have c5:=M.c5 k q
    have V:=Lib.hid fun w=>valid_any (nth l k).s (nth l k).a (nth l k).b (nth l k).z (nth l k).d (nth l k).w w
    have EV:=Lib.hid (show okM (nth l k) = okF (nth l k).s (nth l k).a (nth l k).b (nth l k).z (nth l k).d (nth l k).w from rfl)
    have MEM:=Lib.hid (nth_mem q)
    clear M hbr
    generalize okF (nth l k).s (nth l k).a (nth l k).b (nth l k).z (nth l k).d (nth l k).w = v at *
    cases v with
    | true =>
     go_wp2_with (go_at_call 131; refine (V.out _).mono ?_; rintro e w2 ⟨rfl,hb2⟩)
     go_roundw
     case rel =>
      refine ⟨k + 1,by go_num,by omega,Lib.hid fun i hi=>?_,HB.out.trans (((Below.refl _ _).alloc (Nat.le_refl _) _).trans (hb2.mono (by simp)) |>.mono HB.out.size)⟩
      by_cases e:i = k
      ·rw [e]; exact EV.out
      ·exact hok.out i (by omega)
     case measure=>simp [intOf]; omega
    | false =>
     have EE:=Lib.hid (show chkL l = 1 by rw [E0.out,if_neg]; intro h; have:=List.all_eq_true.1 h _ MEM.out; rw [EV.out] at this; cases this)
     go_wp2_with (go_at_call 131; refine (V.out _).mono ?_; rintro e w2 ⟨rfl,hb2⟩)
     go_ret
     exact ⟨ret_int EE.out.symm,HB.out.trans (((Below.refl _ _).alloc (Nat.le_refl _) _).trans (hb2.mono (by simp)) |>.mono HB.out.size)⟩
   ·have EE:=Lib.hid (show chkL l = 0 by
     rw [E0.out,if_pos]
     refine List.all_eq_true.2 fun m hm=>?_
     obtain ⟨i,hi,rfl⟩:=List.getElem_of_mem hm
     rw [← nth_eq hi]
     exact hok.out i (by omega))
    go_wp2
    go_ret
    exact ⟨ret_int EE.out.symm,HB.out⟩
set_option maxHeartbeats 200000
theorem check_nil (w:World) :
 Calls Tryz.prog 92 #[.slice none 0 0] w fun e w'=>e = .returned (.int .i64 0)∧Below w.heap.size w w':=by
 go_enter Tryz.func92,Tryz.ntmps92
 go_wp2
 go_loop [10] (fun v=>v = .int .i64 0) (fun _=>0)
 case atStart=>rfl
 case round =>
  subst hrel
  go_wp2
  go_ret
  exact ⟨rfl,Below.refl _ _⟩
theorem check_any (l:List Ms) (v:Value) (w:World) (h:LstAt l v w) :
 Calls Tryz.prog 92 #[v] w fun e w'=>e = .returned (.int .i64 (chkL l))∧Below w.heap.size w w':=by
 rcases h with ⟨rfl,rfl⟩ | ⟨b,o,cap,rfl,h2,h3,h4⟩
 ·exact check_nil w
 ·exact check_some l b o cap w h4 h2 h3
end Go.Proofs.YtajmjkliblippaaGreatDoor
namespace Go.Proofs.YtajmjkliblippaaGreatDoor
def sumL (f:Ms→Int):List Ms→Int
 | []=>0
 | m :: r=>f m + sumL f r
theorem sum_app (f:Ms→Int) (l k:List Ms):sumL f (l ++ k) = sumL f l + sumL f k:=by
 induction l with
 | nil=>simp [sumL]
 | cons m r ih=>simp only [List.cons_append,sumL,ih]; omega
theorem sum_take (f:Ms→Int) {l:List Ms} {k:Nat} (h:k < l.length):sumL f (l.take (k + 1)) = sumL f (l.take k) + f (nth l k):=by
 rw [take_nth h,sum_app]
 simp [sumL]
theorem sum_bd (f:Ms→Int) (B:Int) (l:List Ms) (h:∀ m ∈ l,-B≤f m∧f m≤B):-(l.length * B)≤sumL f l∧sumL f l≤l.length * B:=by
 induction l with
 | nil=>simp [sumL]
 | cons m r ih =>
  have h1:=h m List.mem_cons_self
  have h2:=ih fun x hx=>h x (List.mem_cons_of_mem _ hx)
  simp only [sumL,List.length_cons]
  have e:((r.length + 1:Nat):Int) * B = r.length * B + B:=by rw [Int.natCast_add,Int.add_mul]; simp
  omega
theorem sum_nonneg (f:Ms→Int) (l:List Ms) (h:∀ m ∈ l,0≤f m):0≤sumL f l:=by
 induction l with
 | nil=>exact Int.le_refl _
 | cons m r ih =>
  have h1:=h m List.mem_cons_self
  have h2:=ih fun x hx=>h x (List.mem_cons_of_mem _ hx)
  simp only [sumL]
  omega
def nXX (l:List Ms):Int:=sumL (fun m=>m.w * m.a * m.a) l
def nXY (l:List Ms):Int:=sumL (fun m=>m.w * m.a * m.b) l
def nYY (l:List Ms):Int:=sumL (fun m=>m.w * m.b * m.b) l
def nXZ (l:List Ms):Int:=sumL (fun m=>m.w * m.a * m.z) l
def nYZ (l:List Ms):Int:=sumL (fun m=>m.w * m.b * m.z) l
def detN (l:List Ms):Int:=nXX l * nYY l - nXY l * nXY l
def solX (l:List Ms):Int:=nYY l * nXZ l - nXY l * nYZ l
def solY (l:List Ms):Int:=nXX l * nYZ l - nXY l * nXZ l
def absZ (x:Int):Int:=if x < 0 then -x else x
def noiX (l:List Ms):Int:=sumL (fun m=>m.w * absZ (nYY l * m.a - nXY l * m.b) * m.d) l
def noiY (l:List Ms):Int:=sumL (fun m=>m.w * absZ (nXX l * m.b - nXY l * m.a) * m.d) l
theorem quad (l:List Ms) (a b:Int) (h:∀ m ∈ l,0≤m.w):0≤a * a * nYY l - 2 * (a * b) * nXY l + b * b * nXX l:=by
 have e:a * a * nYY l - 2 * (a * b) * nXY l + b * b * nXX l = sumL (fun m=>m.w * ((a * m.b - b * m.a) * (a * m.b - b * m.a))) l:=by
  unfold nXX nXY nYY
  induction l with
  | nil=>simp [sumL]
  | cons m r ih =>
   have ih:=ih fun x hx=>h x (List.mem_cons_of_mem _ hx)
   simp only [sumL]
   rw [← ih]
   grind
 rw [e]
 refine sum_nonneg _ _ fun m hm=>Int.mul_nonneg (h m hm) ?_
 rcases Int.le_total 0 (a * m.b - b * m.a) with g | g
 ·exact Int.mul_nonneg g g
 ·have:=Int.mul_nonneg (show 0≤-(a * m.b - b * m.a) by omega) (show 0≤-(a * m.b - b * m.a) by omega)
  have e:-(a * m.b - b * m.a) * -(a * m.b - b * m.a) = (a * m.b - b * m.a) * (a * m.b - b * m.a):=by grind
  omega
theorem det_nonneg:∀ (l:List Ms),(∀ m ∈ l,0≤m.w)→0≤detN l
 | [],_=>by simp [detN,nXX,nXY,nYY,sumL]
 | m :: r,h=>by
  have ih:=det_nonneg r fun x hx=>h x (List.mem_cons_of_mem _ hx)
  have q:=quad r m.a m.b fun x hx=>h x (List.mem_cons_of_mem _ hx)
  have w:=h m List.mem_cons_self
  have p:=Int.mul_nonneg w q
  have e:detN (m :: r) = m.w * (m.a * m.a * nYY r - 2 * (m.a * m.b) * nXY r + m.b * m.b * nXX r) + detN r:=by
   unfold detN nXX nXY nYY
   simp only [sumL]
   grind
  omega
end Go.Proofs.YtajmjkliblippaaGreatDoor
namespace Go.Proofs.YtajmjkliblippaaGreatDoor
open Go.RowKit
theorem grown_of_below {W w':World} (hb:Below W.heap.size W w'):W.grownBy w' none:=⟨hb.os,hb.tape,hb.output,hb.size,fun k hk _=>hb.block k hk⟩
def Halt (p:Prop):Prop:=p
theorem Halt.mk {p:Prop} (h:Halt p):p:=h
end Go.Proofs.YtajmjkliblippaaGreatDoor
namespace Go.Proofs.YtajmjkliblippaaGreatDoor
open Go.RowKit
def msC (l:List Ms):List Value:=l.flatMap fun m=>[Value.int .i64 m.s,Value.int .i64 m.a,Value.int .i64 m.b,Value.int .i64 m.z,Value.int .i64 m.d,Value.int .i64 m.w]
theorem msC_append (l k:List Ms):msC (l ++ k) = msC l ++ msC k:=by unfold msC; rw [List.flatMap_append]
theorem msC_len (l:List Ms):(msC l).length = l.length * 6:=by
 unfold msC
 induction l with
 | nil=>rfl
 | cons p r ih=>simp only [List.flatMap_cons,List.length_append,List.length_cons,List.length_nil,ih]; omega
theorem msC_get:∀ (l:List Ms) (i:Nat) (h:i < l.length),(msC l)[i * 6]? = some (.int .i64 l[i].s)∧(msC l)[i * 6 + 1]? = some (.int .i64 l[i].a)∧(msC l)[i * 6 + 2]? = some (.int .i64 l[i].b)∧(msC l)[i * 6 + 3]? = some (.int .i64 l[i].z)∧(msC l)[i * 6 + 4]? = some (.int .i64 l[i].d)∧(msC l)[i * 6 + 5]? = some (.int .i64 l[i].w)
 | [],i,h=>absurd h (by simp)
 | p :: l,0,h=>⟨rfl,rfl,rfl,rfl,rfl,rfl⟩
 | p :: l,i + 1,h=>by
  obtain ⟨a,b,c,d,e,f⟩:=msC_get l i (by simpa using h)
  unfold msC at *
  rw [List.flatMap_cons,show (i + 1) * 6 = i * 6 + 6 by omega]
  exact ⟨a,b,c,d,e,f⟩
def OM (B:Nat) (w:World) (v:Value) (l:List Ms):Prop:=w.ownsRow B 71 6 v l.length (msC l)
theorem infoMeas:(Tryz.prog.info? 71).map (fun i=>(i.zero,i.size,i.bytes)) = some (some (.agg #[.int .i64 0,.int .i64 0,.int .i64 0,.int .i64 0,.int .i64 0,.int .i64 0]),6,48):=by kernel_rfl
theorem wpList_om {ops:Array Oper} {rest:List Oper} {o:Oper} {a:Act} {Q:Exit→Act→World→Prop} (hgd:o.guard = none) (s x:Operand)
 (ho:o.op = .call { callee:=.builtin .append,args:=#[s,x],argTypes:=#[50,50] })
 (B:Nat) (v:Value) (l:List Ms) (hs:a.eval s = v) (w0:World) (h:OM B w0 v l) (T:TypeId) (p:Ms) (c:Nat)
 (hx:a.eval x = .slice (some ⟨w0.heap.size,0,none⟩) 1 c) (hl:l.length≤100000) (hB:B≤w0.heap.size)
 (H:∀ v' w',OM B w' v' (l ++ [p])→(w0.alloc (.cells #[.int .i64 p.s,.int .i64 p.a,.int .i64 p.b,.int .i64 p.z,.int .i64 p.d,.int .i64 p.w] T)).grownBy w' v.ownBlock→(v'.ownBlock = v.ownBlock∨v'.ownBlock = some (w0.heap.size + 1))→wpList Tryz.prog ops Q rest (a.put o.dst v') w') :
 wpList Tryz.prog ops Q (o :: rest) a (w0.alloc (.cells #[.int .i64 p.s,.int .i64 p.a,.int .i64 p.b,.int .i64 p.z,.int .i64 p.d,.int .i64 p.w] T)):=by
 obtain ⟨i0,hi,hz0,hz1,hz2⟩:=info_parts infoMeas
 refine wpList_append_own_at _ hgd s x 50 ho B 71 i0 (.agg #[.int .i64 0,.int .i64 0,.int .i64 0,.int .i64 0,.int .i64 0,.int .i64 0]) 6 48 Tryz.underlying50 hi hz0 hz1 hz2 rfl (by decide) v l.length (msC l) hs (World.ownsRow.alloc h _) ⟨w0.heap.size,0,none⟩ 1 c (msC [p]) hx (by rw [msC_len]; rfl) ?_ ?_ (by unfold maxLen; omega) (by omega) (by simp; omega) ?_
 ·intro j u hu
  have hadd:(⟨w0.heap.size,0,none⟩:Addr).add j = ⟨w0.heap.size,j,none⟩:=by unfold Addr.add; split <;> simp_all
  rw [hadd,World.cell?_alloc_at _ _ _ _ (by rfl)]
  unfold msC at hu
  simpa using hu
 ·intro u hu
  unfold msC at hu
  simp only [List.flatMap_cons,List.flatMap_nil,List.append_nil,List.mem_cons,List.not_mem_nil,or_false] at hu
  rcases hu with rfl | rfl | rfl | rfl | rfl | rfl <;> rfl
 ·intro v' w' ho' hg _ hat
  refine H v' w' (by unfold OM; rw [List.length_append,msC_append]; exact ho') hg ?_
  simpa using hat
theorem om_cases {B:Nat} {w:World} {v:Value} {l:List Ms} (h:OM B w v l):(v = .slice none 0 0∧l = [])∨∃ g cap,v = .slice (some ⟨g,0,none⟩) l.length cap∧l.length≤cap∧cap≤9223372036854775807∧B≤g∧MsAt l g 0 w∧∀ j,w.frozen? ⟨g,j,none⟩ = false:=by
 obtain ⟨h1,h2⟩:=h
 rcases h2 with ⟨rfl,hn⟩ | ⟨g,cap,cur,rfl,hb,hg,hc,hm,hs,ht⟩
 ·exact .inl ⟨rfl,List.eq_nil_of_length_eq_zero hn⟩
 ·have hlt:g < w.heap.size:=(Array.getElem?_eq_some_iff.1 hg).1
  have hget:∀ j,j < l.length * 6→w.cell? ⟨g,j,none⟩ = (msC l)[j]?:=fun j hj=>by
   rw [← ht,List.getElem?_take,if_pos hj]
   unfold World.cell?
   rw [hg]
   simp
  unfold maxLen at hm
  refine .inr ⟨g,cap,rfl,hc,hm,hb,⟨hlt,fun i hi=>?_,fun i hi=>?_,fun i hi=>?_,fun i hi=>?_,fun i hi=>?_,fun i hi=>?_⟩,fun j=>by simp [World.frozen?,hg]⟩
  ·rw [Nat.zero_add,hget _ (by omega),nth_eq hi]; exact (msC_get l i hi).1
  ·rw [Nat.zero_add,hget _ (by omega),nth_eq hi]; exact (msC_get l i hi).2.1
  ·rw [Nat.zero_add,hget _ (by omega),nth_eq hi]; exact (msC_get l i hi).2.2.1
  ·rw [Nat.zero_add,hget _ (by omega),nth_eq hi]; exact (msC_get l i hi).2.2.2.1
  ·rw [Nat.zero_add,hget _ (by omega),nth_eq hi]; exact (msC_get l i hi).2.2.2.2.1
  ·rw [Nat.zero_add,hget _ (by omega),nth_eq hi]; exact (msC_get l i hi).2.2.2.2.2
theorem OM.lst {B:Nat} {w:World} {v:Value} {l:List Ms} (h:OM B w v l):LstAt l v w:=by
 rcases om_cases h with ⟨rfl,rfl⟩ | ⟨g,cap,rfl,h2,h3,_,h4,_⟩
 ·exact .inl ⟨rfl,rfl⟩
 ·exact .inr ⟨g,0,cap,rfl,h2,h3,h4⟩
theorem OM.below {B:Nat} {w w':World} {v:Value} {l:List Ms} (h:OM B w v l) (hb:Below w.heap.size w w'):OM B w' v l:=by
 refine World.ownsRow.kept h (grown_of_below hb) ?_
 cases v.ownBlock <;> simp
theorem below_grown {B:Nat} {a b c:World} {r:Option Nat} (h:Below B a b) (g:b.grownBy c r) (hB:B≤b.heap.size) (hr:∀ k,r = some k→B≤k):Below B a c:=
 h.trans ⟨g.os,g.tape,g.output,g.size,fun k hk=>g.block k (by omega) (fun e=>by have:=hr k e.symm; omega)⟩
def notS (s:Int) (m:Ms):Bool:=decide (m.s≠s)
def woL (l:List Ms) (s:Int):List Ms:=l.filter (notS s)
theorem woL_succ {l:List Ms} {s:Int} {k:Nat} (h:k < l.length):woL (l.take (k + 1)) s = if (nth l k).s = s then woL (l.take k) s else woL (l.take k) s ++ [nth l k]:=by
 unfold woL
 rw [take_nth h,List.filter_append]
 unfold notS
 by_cases q:(nth l k).s = s
 ·rw [if_pos q]
  simp [q]
 ·rw [if_neg q]
  simp [q]
theorem woL_len (l:List Ms) (s:Int):(woL l s).length≤l.length:=List.length_filter_le _ _
def WoR (l:List Ms) (s:Int) (w:World) (v u:Value) (wr:World):Prop:=∃ k:Nat,u = .int .i64 k∧k≤l.length∧Hid (Below w.heap.size w wr)∧Hid (OM w.heap.size wr v (woL (l.take k) s))
set_option maxHeartbeats 4000000
set_option maxRecDepth 100000
theorem wo_some (l:List Ms) (s:Int) (b o cap:Nat) (w:World) (h:MsAt l b o w) (hc:l.length≤cap) (hm:cap≤9223372036854775807) (hl:l.length≤18) :
 Calls Tryz.prog 62 #[.slice (some ⟨b,o,none⟩) l.length cap,.int .i64 s] w fun e w'=>(∃ u,e = .returned u∧OM w.heap.size w' u (woL l s))∧Below w.heap.size w w':=by
 have H:=Lib.hid h
 have hlt:=h.lt
 clear h
 go_enter Tryz.func62,Tryz.ntmps62
 go_wp2
 go_loopw [5,10] (WoR l s w) (fun _ i _=>l.length - (intOf i).toNat)
 case atStart=>exact ⟨0,rfl,Nat.zero_le _,Lib.hid (Below.refl _ _),Lib.hid (World.ownsRow_nil _ _ _ _)⟩
 case round =>
  obtain ⟨k,rfl,hk,HB,HO⟩:=hrel
  by_cases q:k < l.length
  ·have q':decide (k < l.length) = true:=by simpa using q
   have M:=H.out.keep HB.out hlt
   have c0:=M.c0 k q
   have c1:=M.c1 k q
   have c2:=M.c2 k q
   have c3:=M.c3 k q
   have c4:=M.c4 k q
   have c5:=M.c5 k q
   have WS:=Lib.hid (woL_succ (s:=s) q)
   have SZ:=Lib.hid (show (woL (l.take k) s).length≤100000 by have:=woL_len (l.take k) s; rw [List.length_take] at this; omega)
   have HS:=Lib.hid HB.out.size
   clear M
   generalize hp:nth l k = p at *
   clear hp
   by_cases e:p.s = s
   ·have g:(p.s != s) = false:=by simpa using e
    have E:=Lib.hid e
    clear e
    go_wp2
    go_roundw
    case rel =>
     have hb:=(Below.refl wr.heap.size wr).alloc (Nat.le_refl _) (.cells #[.int .i64 p.s,.int .i64 p.a,.int .i64 p.b,.int .i64 p.z,.int .i64 p.d,.int .i64 p.w] 71)
     exact ⟨k + 1,by go_num,by omega,HB.out.trans (hb.mono HS.out),by rw [WS.out,if_pos E.out]; exact HO.out.below hb⟩
    case measure=>simp [intOf]; omega
   ·have g:(p.s != s) = true:=by simpa using e
    have HA:=Lib.hid ((Below.refl wr.heap.size wr).alloc (Nat.le_refl _) (.cells #[.int .i64 p.s,.int .i64 p.a,.int .i64 p.b,.int .i64 p.z,.int .i64 p.d,.int .i64 p.w] 71))
    go_wp2_with (at_builtin; refine Halt.mk ?_)
    unfold Halt
    refine wpList_om rfl (.tmp 18) (.tmp 20) rfl w.heap.size u5 (woL (l.take k) s) rfl (wr.alloc (.cells #[.int .i64 p.s,.int .i64 p.a,.int .i64 p.b,.int .i64 p.z,.int .i64 p.d,.int .i64 p.w] 71)) (HO.out.below HA.out) _ p 1 (by rw [World.size_alloc]; rfl) SZ.out (by have:=HS.out; simp; omega) ?_
    intro u2 w5 ho5 hg5 hat5
    have HO5:Hid (OM w.heap.size w5 u2 (woL (l.take (k + 1)) s)):=Lib.hid (by rw [WS.out,if_neg e]; exact ho5)
    have HB5:Hid (Below w.heap.size w w5):=Lib.hid (below_grown ((HB.out.trans (HA.out.mono HS.out)).alloc (by simp; have:=HS.out; omega) _) hg5 (by simp; have:=HS.out; omega) (fun k hk=>(World.ownsRow.lt HO.out k hk).1))
    clear hg5 hat5 c0 c1 c2 c3 c4 c5
    obtain ⟨g5,cap5,hu2⟩:=Go.Joins.ownsRow_form ho5 (show 0 < (woL (l.take k) s ++ [p]).length by rw [List.length_append,List.length_singleton]; omega)
    obtain ⟨N5,hN5⟩:∃ N,(woL (l.take k) s ++ [p]).length = N:=⟨_,rfl⟩
    rw [hN5] at hu2
    clear ho5 hN5
    subst hu2
    go_wp2
    go_roundw
    case rel=>exact ⟨k + 1,by go_num,by omega,HB5,HO5⟩
    case measure=>simp [intOf]; omega
  ·obtain rfl:k = l.length:=by omega
   rw [List.take_length] at HO
   rcases om_cases HO.out with ⟨rfl,hz⟩ | ⟨g,cap',rfl,_⟩
   ·go_wp2
    go_ret
    exact ⟨⟨_,rfl,HO.out⟩,HB.out⟩
   ·go_wp2
    go_ret
    exact ⟨⟨_,rfl,HO.out⟩,HB.out⟩
set_option maxHeartbeats 200000
set_option maxRecDepth 512
theorem wo_nil (s:Int) (w:World) :
 Calls Tryz.prog 62 #[.slice none 0 0,.int .i64 s] w fun e w'=>(∃ u,e = .returned u∧OM w.heap.size w' u (woL [] s))∧Below w.heap.size w w':=by
 go_enter Tryz.func62,Tryz.ntmps62
 go_wp2
 go_loop [5,10] (fun u v=>u = .slice none 0 0∧v = .int .i64 0) (fun _ _=>0)
 case atStart=>exact ⟨rfl,rfl⟩
 case round =>
  obtain ⟨rfl,rfl⟩:=hrel
  go_wp2
  go_ret
  exact ⟨⟨_,rfl,World.ownsRow_nil _ _ _ _⟩,Below.refl _ _⟩
theorem wo_any (l:List Ms) (s:Int) (v:Value) (w:World) (h:LstAt l v w) (hl:l.length≤18) :
 Calls Tryz.prog 62 #[v,.int .i64 s] w fun e w'=>(∃ u,e = .returned u∧OM w.heap.size w' u (woL l s))∧Below w.heap.size w w':=by
 rcases h with ⟨rfl,rfl⟩ | ⟨b,o,cap,rfl,h2,h3,h4⟩
 ·exact wo_nil s w
 ·exact wo_some l s b o cap w h4 h2 h3 hl
end Go.Proofs.YtajmjkliblippaaGreatDoor
namespace Go.Proofs.YtajmjkliblippaaGreatDoor
def srtL (l:List Ms):List Int:=(l.map Ms.s).mergeSort fun x y=>decide (x≤y)
def srcL (l:List Ms):List Int:=Lib.compact (srtL l)
theorem toArr (zs:List Int) {i:Nat} (h:i < zs.length):zs.toArray[i]! = zs[i]:=by
 rw [getElem!_pos zs.toArray i (by simpa using h)]
 rfl
theorem mem_compact {zs:List Int} {x:Int}:x ∈ Lib.compact zs↔x ∈ zs:=by
 unfold Lib.compact Lib.compactUpTo
 rw [List.mem_map]
 constructor
 ·rintro ⟨j,hj,rfl⟩
  have h:=List.mem_range.1 (List.mem_filter.1 hj).1
  rw [toArr zs h]
  exact List.getElem_mem h
 ·intro hx
  obtain ⟨i,hi,rfl⟩:=List.getElem_of_mem hx
  have key:∀ n:Nat,n < zs.length→∃ j,j < zs.length∧Lib.keeps zs.toArray j = true∧zs.toArray[j]! = zs.toArray[n]!:=by
   intro n
   induction n with
   | zero=>exact fun h=>⟨0,h,Lib.keeps_lt_one _ 0 (by omega),rfl⟩
   | succ n ih =>
    intro h
    by_cases e:zs.toArray[n + 1]! = zs.toArray[n]!
    ·obtain ⟨j,h1,h2,h3⟩:=ih (by omega)
     exact ⟨j,h1,h2,h3.trans e.symm⟩
    ·exact ⟨n + 1,h,Lib.keeps_pos (by simpa using e),rfl⟩
  obtain ⟨j,h1,h2,h3⟩:=key i hi
  exact ⟨j,List.mem_filter.2 ⟨List.mem_range.2 h1,h2⟩,by rw [h3,toArr zs hi]⟩
theorem compact_lt {zs:List Int} (h:zs.Pairwise (·≤·)):(Lib.compact zs).Pairwise (· < ·):=by
 unfold Lib.compact Lib.compactUpTo
 rw [List.pairwise_map,List.pairwise_filter]
 refine List.pairwise_lt_range.imp_of_mem ?_
 intro i j hi hj hij ki kj
 have hi':=List.mem_range.1 hi
 have hj':=List.mem_range.1 hj
 have hk:zs.toArray[j]!≠zs.toArray[j - 1]!:=by
  unfold Lib.keeps at kj
  rcases of_decide_eq_true kj with h | h
  ·omega
  ·exact h
 rw [toArr zs hj',toArr zs (show j - 1 < zs.length by omega)] at hk
 rw [toArr zs hi',toArr zs hj']
 rw [List.pairwise_iff_getElem] at h
 have h1:zs[j - 1]≤zs[j]:=h (j - 1) j (by omega) hj' (by omega)
 have h2:zs[i]≤zs[j - 1]:=by
  by_cases e:i = j - 1
  ·subst e; exact Int.le_refl _
  ·exact h i (j - 1) hi' (by omega) (by omega)
 omega
theorem srt_le (l:List Ms):(srtL l).Pairwise (·≤·):=by
 have:=List.pairwise_mergeSort (le:=fun x y:Int=>decide (x≤y)) (fun a b c h1 h2=>by simp at *; omega) (fun a b=>by simp; omega) (l.map Ms.s)
 exact this.imp fun h=>by simpa using h
theorem srt_len (l:List Ms):(srtL l).length = l.length:=by
 unfold srtL
 rw [List.length_mergeSort,List.length_map]
theorem src_len (l:List Ms):(srcL l).length≤l.length:=by
 have:=Lib.compact_length_le (srtL l)
 rw [srt_len] at this
 exact this
theorem mem_srcL {l:List Ms} {x:Int}:x ∈ srcL l↔∃ m ∈ l,m.s = x:=by
 unfold srcL
 rw [mem_compact]
 unfold srtL
 rw [List.mem_mergeSort,List.mem_map]
theorem srcL_lt (l:List Ms):(srcL l).Pairwise (· < ·):=compact_lt (srt_le l)
theorem asc_uniq:∀ (a b:List Int),a.Pairwise (· < ·)→b.Pairwise (· < ·)→(∀ x,x ∈ a↔x ∈ b)→a = b
 | [],[],_,_,_=>rfl
 | [],y :: b,_,_,h=>absurd ((h y).2 List.mem_cons_self) (by simp)
 | x :: a,[],_,_,h=>absurd ((h x).1 List.mem_cons_self) (by simp)
 | x :: a,y :: b,ha,hb,h=>by
  rw [List.pairwise_cons] at ha hb
  have e:x = y:=by
   have h1:=(h x).1 List.mem_cons_self
   have h2:=(h y).2 List.mem_cons_self
   rw [List.mem_cons] at h1 h2
   rcases h1 with h1 | h1
   ·exact h1
   ·rcases h2 with h2 | h2
    ·exact h2.symm
    ·have:=hb.1 x h1
     have:=ha.1 y h2
     omega
  subst e
  congr 1
  refine asc_uniq a b ha.2 hb.2 fun z=>⟨fun hz=>?_,fun hz=>?_⟩
  ·have:=(h z).1 (List.mem_cons_of_mem _ hz)
   rw [List.mem_cons] at this
   rcases this with rfl | g
   ·exact absurd (ha.1 z hz) (by omega)
   ·exact g
  ·have:=(h z).2 (List.mem_cons_of_mem _ hz)
   rw [List.mem_cons] at this
   rcases this with rfl | g
   ·exact absurd (hb.1 z hz) (by omega)
   ·exact g
end Go.Proofs.YtajmjkliblippaaGreatDoor
namespace Go.Proofs.YtajmjkliblippaaGreatDoor
open Go.RowKit
def inC (l:List Int):List Value:=l.map (Value.int .i64)
def OI (B:Nat) (w:World) (v:Value) (l:List Int):Prop:=w.ownsRow B 3 1 v l.length (inC l)
theorem infoInt:(Tryz.prog.info? 3).map (fun i=>(i.zero,i.size,i.bytes)) = some (some (.int .i64 0),1,8):=by kernel_rfl
theorem wpList_oi {ops:Array Oper} {rest:List Oper} {o:Oper} {a:Act} {Q:Exit→Act→World→Prop} (hgd:o.guard = none) (s x:Operand)
 (ho:o.op = .call { callee:=.builtin .append,args:=#[s,x],argTypes:=#[106,106] })
 (B:Nat) (v:Value) (l:List Int) (hs:a.eval s = v) (w0:World) (h:OI B w0 v l) (T:TypeId) (p:Int) (c:Nat)
 (hx:a.eval x = .slice (some ⟨w0.heap.size,0,none⟩) 1 c) (hl:l.length≤100000) (hB:B≤w0.heap.size)
 (H:∀ v' w',OI B w' v' (l ++ [p])→(w0.alloc (.cells #[.int .i64 p] T)).grownBy w' v.ownBlock→(v'.ownBlock = v.ownBlock∨v'.ownBlock = some (w0.heap.size + 1))→wpList Tryz.prog ops Q rest (a.put o.dst v') w') :
 wpList Tryz.prog ops Q (o :: rest) a (w0.alloc (.cells #[.int .i64 p] T)):=by
 obtain ⟨i0,hi,hz0,hz1,hz2⟩:=info_parts infoInt
 refine wpList_append_own_at _ hgd s x 106 ho B 3 i0 (.int .i64 0) 1 8 Tryz.underlying106 hi hz0 hz1 hz2 rfl (by decide) v l.length (inC l) hs (World.ownsRow.alloc h _) ⟨w0.heap.size,0,none⟩ 1 c (inC [p]) hx (by unfold inC; rfl) ?_ ?_ (by unfold maxLen; omega) (by omega) (by simp; omega) ?_
 ·intro j u hu
  have hadd:(⟨w0.heap.size,0,none⟩:Addr).add j = ⟨w0.heap.size,j,none⟩:=by unfold Addr.add; split <;> simp_all
  rw [hadd,World.cell?_alloc_at _ _ _ _ (by rfl)]
  unfold inC at hu
  simpa using hu
 ·intro u hu
  unfold inC at hu
  simp only [List.map_cons,List.map_nil,List.mem_cons,List.not_mem_nil,or_false] at hu
  subst hu
  rfl
 ·intro v' w' ho' hg _ hat
  refine H v' w' (by unfold OI inC; rw [List.length_append,List.map_append]; exact ho') hg ?_
  simpa using hat
structure IntsAt (l:List Int) (g:Nat) (w:World):Prop where
 lt:g < w.heap.size
 c:∀ i,i < l.length→w.cell? ⟨g,i,none⟩ = some (.int .i64 (l.getD i 0))
theorem IntsAt.below {l:List Int} {g:Nat} {w w':World} (h:IntsAt l g w) (hb:Below w.heap.size w w'):IntsAt l g w':=
 ⟨Nat.lt_of_lt_of_le h.lt hb.size,fun i hi=>(hb.cell (p:=⟨g,i,none⟩) h.lt).trans (h.c i hi)⟩
theorem oi_cases {B:Nat} {w:World} {v:Value} {l:List Int} (h:OI B w v l):(v = .slice none 0 0∧l = [])∨∃ g cap,v = .slice (some ⟨g,0,none⟩) l.length cap∧l.length≤cap∧cap≤9223372036854775807∧B≤g∧IntsAt l g w:=by
 obtain ⟨h1,h2⟩:=h
 rcases h2 with ⟨rfl,hn⟩ | ⟨g,cap,cur,rfl,hb,hg,hc,hm,hs,ht⟩
 ·exact .inl ⟨rfl,List.eq_nil_of_length_eq_zero hn⟩
 ·have hlt:g < w.heap.size:=(Array.getElem?_eq_some_iff.1 hg).1
  unfold maxLen at hm
  refine .inr ⟨g,cap,rfl,hc,hm,hb,hlt,fun i hi=>?_⟩
  have e:(inC l)[i]? = some (.int .i64 (l.getD i 0)):=by
   unfold inC
   rw [List.getElem?_map,List.getElem?_eq_getElem hi,List.getD_eq_getElem?_getD,List.getElem?_eq_getElem hi]
   rfl
  rw [← e,← ht,List.getElem?_take,if_pos (by omega)]
  unfold World.cell?
  rw [hg]
  simp
theorem OI.below {B:Nat} {w w':World} {v:Value} {l:List Int} (h:OI B w v l) (hb:Below w.heap.size w w'):OI B w' v l:=by
 refine World.ownsRow.kept h (grown_of_below hb) ?_
 cases v.ownBlock <;> simp
theorem OI.head {B:Nat} {w:World} {g cap:Nat} {l k:List Int} (h:OI B w (.slice (some ⟨g,0,none⟩) (l ++ k).length cap) (l ++ k)):OI B w (.slice (some ⟨g,0,none⟩) l.length cap) l:=by
 obtain ⟨h1,h2⟩:=h
 refine ⟨by unfold inC; simp,?_⟩
 rcases h2 with ⟨e,_⟩ | ⟨g',cap',cur,e,hb,hg,hc,hm,hs,ht⟩
 ·cases e
 ·cases e
  refine .inr ⟨_,_,cur,rfl,hb,hg,by simp at hc; omega,hm,hs,?_⟩
  have e2:List.take (l.length * 1) (List.take ((l ++ k).length * 1) cur.toList) = List.take (l.length * 1) cur.toList:=by
   rw [List.take_take]
   congr 1
   simp
  rw [← e2,ht]
  unfold inC
  rw [List.map_append,List.take_append_of_le_length (by simp),List.take_of_length_le (by simp)]
theorem sort_own {B:Nat} {w:World} {v:Value} {l:List Int} (h:OI B w v l) (hl:l.length≤100000) (hB:B≤w.heap.size) :
 Calls Tryz.prog 134 #[v] w fun e w'=>e = .returned (.tuple #[])∧OI B w' v (l.mergeSort fun x y=>decide (x≤y))∧Below B w w':=by
 obtain ⟨h1,h2⟩:=h
 rcases h2 with ⟨rfl,hn⟩ | ⟨g,cap,cur,rfl,hb,hg,hc,hm,hs,ht⟩
 ·obtain rfl:=List.eq_nil_of_length_eq_zero hn
  refine (Tryz.slices_Sort_int_none none 0 w).mono ?_
  rintro e w' ⟨rfl,rfl⟩
  exact ⟨rfl,by rw [List.mergeSort_nil]; exact World.ownsRow_nil _ _ _ _,Below.refl _ _⟩
 ·have hlt:g < w.heap.size:=(Array.getElem?_eq_some_iff.1 hg).1
  refine (Tryz.slices_Sort_int g 0 cap l w (holds_of_blockI hg (by unfold inC at ht; rw [Nat.mul_one] at ht; exact ht)) hlt (by omega)).mono ?_
  rintro e w' ⟨rfl,n,os,rfl⟩
  refine ⟨rfl,?_,below_grown (Below.refl _ _) (grownBy_sortedI _) hB (fun k hk=>by cases hk; exact hb)⟩
  have:=ownsRow_sortedI (n:=n) (os:=os) (ss:=l) (ts:=l.mergeSort fun x y=>decide (x≤y)) (by rw [List.length_mergeSort]) hb hg hc hm hs
  unfold OI
  rw [List.length_mergeSort]
  exact this
theorem compact_own {B:Nat} {w:World} {v:Value} {l:List Int} (h:OI B w v l) (hl:l.length≤100000) (hB:B≤w.heap.size) :
 Calls Tryz.prog 135 #[v] w fun e w'=>(∃ u,e = .returned u∧OI B w' u (Lib.compact l))∧Below B w w':=by
 obtain ⟨h1,h2⟩:=h
 rcases h2 with ⟨rfl,hn⟩ | ⟨g,cap,cur,rfl,hb,hg,hc,hm,hs,ht⟩
 ·obtain rfl:=List.eq_nil_of_length_eq_zero hn
  refine (Tryz.slices_Compact_int_empty none 0 w).mono ?_
  rintro e w' ⟨rfl,rfl⟩
  exact ⟨⟨_,rfl,World.ownsRow_nil _ _ _ _⟩,Below.refl _ _⟩
 ·refine (Tryz.slices_Compact_int g 0 cap l w (holds_of_blockI hg (by unfold inC at ht; rw [Nat.mul_one] at ht; exact ht)) (by omega) hc).mono ?_
  rintro e w' ⟨rfl,q,rfl⟩
  have hcl:=Lib.compact_length_le l
  have G:=grownBy_sortedI (w:=w) (g:=g) (n:=q) (os:=#[]) (Lib.compact l ++ List.replicate (l.length - (Lib.compact l).length) 0).toArray
  have hlen:(Lib.compact l ++ List.replicate (l.length - (Lib.compact l).length) 0).length = l.length:=by simp; omega
  have O:=ownsRow_sortedI (n:=q) (os:=#[]) (ss:=l) (ts:=Lib.compact l ++ List.replicate (l.length - (Lib.compact l).length) 0) hlen hb hg hc hm hs
  rw [Sort.grow_empty] at G O
  refine ⟨⟨_,rfl,?_⟩,below_grown (Below.refl _ _) G hB (fun k hk=>by cases hk; exact hb)⟩
  refine OI.head (k:=List.replicate (l.length - (Lib.compact l).length) 0) ?_
  unfold OI
  rw [hlen]
  exact O
theorem srcs_succ {l:List Ms} {k:Nat} (h:k < l.length):(l.take (k + 1)).map Ms.s = (l.take k).map Ms.s ++ [(nth l k).s]:=by
 rw [take_nth h,List.map_append]
 rfl
def SrR (l:List Ms) (w:World) (v u:Value) (wr:World):Prop:=∃ k:Nat,u = .int .i64 k∧k≤l.length∧Hid (Below w.heap.size w wr)∧Hid (OI w.heap.size wr v ((l.take k).map Ms.s))
set_option maxHeartbeats 4000000
set_option maxRecDepth 100000
theorem src_some (l:List Ms) (b o cap:Nat) (w:World) (h:MsAt l b o w) (hc:l.length≤cap) (hm:cap≤9223372036854775807) (hl:l.length≤18) :
 Calls Tryz.prog 94 #[.slice (some ⟨b,o,none⟩) l.length cap] w fun e w'=>(∃ u,e = .returned u∧OI w.heap.size w' u (srcL l))∧Below w.heap.size w w':=by
 have H:=Lib.hid h
 have hlt:=h.lt
 clear h
 go_enter Tryz.func94,Tryz.ntmps94
 go_wp2
 go_loopw [3,8] (SrR l w) (fun _ i _=>l.length - (intOf i).toNat)
 case atStart=>exact ⟨0,rfl,Nat.zero_le _,Lib.hid (Below.refl _ _),Lib.hid (World.ownsRow_nil _ _ _ _)⟩
 case round =>
  obtain ⟨k,rfl,hk,HB,HO⟩:=hrel
  by_cases q:k < l.length
  ·have q':decide (k < l.length) = true:=by simpa using q
   have M:=H.out.keep HB.out hlt
   have c0:=M.c0 k q
   have c1:=M.c1 k q
   have c2:=M.c2 k q
   have c3:=M.c3 k q
   have c4:=M.c4 k q
   have c5:=M.c5 k q
   have WS:=Lib.hid (srcs_succ q)
   have SZ:=Lib.hid (show ((l.take k).map Ms.s).length≤100000 by rw [List.length_map,List.length_take]; omega)
   have HS:=Lib.hid HB.out.size
   clear M
   generalize hp:nth l k = p at *
   clear hp
   have HA:=Lib.hid ((Below.refl wr.heap.size wr).alloc (Nat.le_refl _) (.cells #[.int .i64 p.s,.int .i64 p.a,.int .i64 p.b,.int .i64 p.z,.int .i64 p.d,.int .i64 p.w] 71))
   go_wp2_with (at_builtin; refine Halt.mk ?_)
   unfold Halt
   refine wpList_oi rfl (.tmp 12) (.tmp 15) rfl w.heap.size u3 ((l.take k).map Ms.s) rfl (wr.alloc (.cells #[.int .i64 p.s,.int .i64 p.a,.int .i64 p.b,.int .i64 p.z,.int .i64 p.d,.int .i64 p.w] 71)) (HO.out.below HA.out) _ p.s 1 (by rw [World.size_alloc]; rfl) SZ.out (by have:=HS.out; simp; omega) ?_
   intro u2 w5 ho5 hg5 hat5
   have HO5:Hid (OI w.heap.size w5 u2 ((l.take (k + 1)).map Ms.s)):=Lib.hid (by rw [WS.out]; exact ho5)
   have HB5:Hid (Below w.heap.size w w5):=Lib.hid (below_grown ((HB.out.trans (HA.out.mono HS.out)).alloc (by simp; have:=HS.out; omega) _) hg5 (by simp; have:=HS.out; omega) (fun k hk=>(World.ownsRow.lt HO.out k hk).1))
   clear hg5 hat5 c0 c1 c2 c3 c4 c5
   obtain ⟨g5,cap5,hu2⟩:=Go.Joins.ownsRow_form ho5 (show 0 < ((l.take k).map Ms.s ++ [p.s]).length by rw [List.length_append,List.length_singleton]; omega)
   obtain ⟨N5,hN5⟩:∃ N,((l.take k).map Ms.s ++ [p.s]).length = N:=⟨_,rfl⟩
   rw [hN5] at hu2
   clear ho5 hN5
   subst hu2
   go_wp2
   go_roundw
   case rel=>exact ⟨k + 1,by go_num,by omega,HB5,HO5⟩
   case measure=>simp [intOf]; omega
  ·obtain rfl:k = l.length:=by omega
   rw [List.take_length] at HO
   have HS:=HB.out.size
   have L1:(l.map Ms.s).length≤100000:=by rw [List.length_map]; omega
   have L2:(srtL l).length≤100000:=by rw [srt_len]; omega
   have SO:=Lib.hid (sort_own HO.out L1 HS)
   have CO:=Lib.hid fun w1 (h:OI w.heap.size w1 u3 (srtL l)) (hs:w.heap.size≤w1.heap.size)=>compact_own h L2 hs
   have FM:(∃ x y z,u3 = .slice x y z):=by
    rcases oi_cases HO.out with ⟨h,_⟩ | ⟨g,cap',h,_⟩
    ·exact ⟨_,_,_,h⟩
    ·exact ⟨_,_,_,h⟩
   obtain ⟨x3,y3,z3,rfl⟩:=FM
   clear HO
   go_wp2_with fail
   refine SO.out.mono ?_
   rintro e w1 ⟨rfl,ho1,hb1⟩
   have C1:=Lib.hid (CO.out w1 ho1 (Nat.le_trans HS hb1.size))
   have HB1:=Lib.hid (HB.out.trans hb1)
   clear ho1 hb1
   go_wp2_with fail
   refine C1.out.mono ?_
   rintro e w2 ⟨⟨u,rfl,ho2⟩,hb2⟩
   have HB2:=Lib.hid (HB1.out.trans hb2)
   have HO2:Hid (OI w.heap.size w2 u (srcL l)):=Lib.hid ho2
   clear hb2
   have FM:(∃ x y z,u = .slice x y z):=by
    rcases oi_cases ho2 with ⟨h,_⟩ | ⟨g,cap',h,_⟩
    ·exact ⟨_,_,_,h⟩
    ·exact ⟨_,_,_,h⟩
   obtain ⟨x4,y4,z4,rfl⟩:=FM
   clear ho2
   go_wp2
   go_ret
   exact ⟨⟨_,rfl,HO2.out⟩,HB2.out⟩
set_option maxHeartbeats 200000
set_option maxRecDepth 512
theorem src_nil (w:World) :
 Calls Tryz.prog 94 #[.slice none 0 0] w fun e w'=>(∃ u,e = .returned u∧OI w.heap.size w' u (srcL []))∧Below w.heap.size w w':=by
 have SO:=Lib.hid (Tryz.slices_Sort_int_none none 0 w)
 have CO:=Lib.hid (Tryz.slices_Compact_int_empty none 0 w)
 go_enter Tryz.func94,Tryz.ntmps94
 go_wp2
 go_loop [3,8] (fun u v=>u = .slice none 0 0∧v = .int .i64 0) (fun _ _=>0)
 case atStart=>exact ⟨rfl,rfl⟩
 case round =>
  obtain ⟨rfl,rfl⟩:=hrel
  go_wp2_with fail
  refine SO.out.mono ?_
  rintro e w1 ⟨rfl,rfl⟩
  go_wp2_with fail
  refine CO.out.mono ?_
  rintro e w2 ⟨rfl,rfl⟩
  go_wp2
  go_ret
  have e:srcL [] = []:=by unfold srcL srtL; rw [List.map_nil,List.mergeSort_nil]; rfl
  exact ⟨⟨_,rfl,by rw [e]; exact World.ownsRow_nil _ _ _ _⟩,Below.refl _ _⟩
theorem src_any (l:List Ms) (v:Value) (w:World) (h:LstAt l v w) (hl:l.length≤18) :
 Calls Tryz.prog 94 #[v] w fun e w'=>(∃ u,e = .returned u∧OI w.heap.size w' u (srcL l))∧Below w.heap.size w w':=by
 rcases h with ⟨rfl,rfl⟩ | ⟨b,o,cap,rfl,h2,h3,h4⟩
 ·exact src_nil w
 ·exact src_some l b o cap w h4 h2 h3 hl
end Go.Proofs.YtajmjkliblippaaGreatDoor
namespace Go.Proofs.YtajmjkliblippaaGreatDoor
open Go.RowKit
def rngB (n lo hi:Int):Bool:=decide (lo≤n∧n≤hi)
theorem within_ref (n lo hi:Int) (w:World):Calls Tryz.prog 245 #[.int .i64 n,.int .i64 lo,.int .i64 hi] w fun e w'=>e = .returned (.bool (rngB n lo hi))∧w = w':=by
 by_cases h:lo≤n
 ·have g:decide (lo≤n) = true:=by simpa using h
  by_cases h':n≤hi
  ·have g':decide (n≤hi) = true:=by simpa using h'
   have E:=Lib.hid (show rngB n lo hi = true from decide_eq_true ⟨h,h'⟩)
   clear h h'
   go_enter Tryz.func245,Tryz.ntmps245
   go_wp2
   go_ret
   exact ⟨ret_b E.out.symm,rfl⟩
  ·have g':decide (n≤hi) = false:=by simpa using h'
   have E:=Lib.hid (show rngB n lo hi = false from decide_eq_false fun q=>h' q.2)
   clear h h'
   go_enter Tryz.func245,Tryz.ntmps245
   go_wp2
   go_ret
   exact ⟨ret_b E.out.symm,rfl⟩
 ·have g:decide (lo≤n) = false:=by simpa using h
  have E:=Lib.hid (show rngB n lo hi = false from decide_eq_false fun q=>h q.1)
  clear h
  go_enter Tryz.func245,Tryz.ntmps245
  go_wp2
  go_ret
  exact ⟨ret_b E.out.symm,rfl⟩
set_option maxHeartbeats 20000000
theorem valid_ref (s a b z d t:Int) (w:World):Calls Tryz.prog 226 #[.agg #[.int .i64 s,.int .i64 a,.int .i64 b,.int .i64 z,.int .i64 d,.int .i64 t]] w fun e w'=>e = .returned (.bool (okF s a b z d t))∧Below w.heap.size w w':=by
 by_cases q0:1≤s
 ·have g0:decide (1≤s) = true:=by simpa using q0
  by_cases q1:s≤8
  ·have g1:decide (s≤8) = true:=by simpa using q1
   by_cases q2:-256≤a∧a≤256
   ·have g2:rngB a (-256) 256 = true:=decide_eq_true q2
    by_cases q3:-256≤b∧b≤256
    ·have g3:rngB b (-256) 256 = true:=decide_eq_true q3
     by_cases q4:a = 0
     ·have g4:(a != 0) = false:=by simpa using q4
      by_cases r4:b = 0
      ·have i4:(b != 0) = false:=by simpa using r4
       have E:=Lib.hid (show okF s a b z d t = false from decide_eq_false (fun h=>by omega))
       clear q0 q1 q2 q3 q4 r4
       go_enter Tryz.func226,Tryz.ntmps226
       go_wp2_with (go_at_call 245; refine (within_ref _ _ _ _).mono ?_; rintro e w' ⟨rfl,rfl⟩)
       go_ret
       exact ⟨ret_b E.out.symm,(Below.refl _ _).alloc (Nat.le_refl _) _⟩
      ·have i4:(b != 0) = true:=by simpa using r4
       by_cases q5:-4294967296≤z∧z≤4294967296
       ·have g5:rngB z (-4294967296) 4294967296 = true:=decide_eq_true q5
        by_cases q6:0≤d∧d≤4294967296
        ·have g6:rngB d 0 4294967296 = true:=decide_eq_true q6
         by_cases q7:1≤t∧t≤16
         ·have g7:rngB t 1 16 = true:=decide_eq_true q7
          have E:=Lib.hid (show okF s a b z d t = true from decide_eq_true (by omega))
          clear q0 q1 q2 q3 q4 r4 q5 q6 q7
          go_enter Tryz.func226,Tryz.ntmps226
          go_wp2_with (go_at_call 245; refine (within_ref _ _ _ _).mono ?_; rintro e w' ⟨rfl,rfl⟩)
          go_ret
          exact ⟨ret_b E.out.symm,(Below.refl _ _).alloc (Nat.le_refl _) _⟩
         ·have g7:rngB t 1 16 = false:=decide_eq_false q7
          have E:=Lib.hid (show okF s a b z d t = false from decide_eq_false (fun h=>by omega))
          clear q0 q1 q2 q3 q4 r4 q5 q6 q7
          go_enter Tryz.func226,Tryz.ntmps226
          go_wp2_with (go_at_call 245; refine (within_ref _ _ _ _).mono ?_; rintro e w' ⟨rfl,rfl⟩)
          go_ret
          exact ⟨ret_b E.out.symm,(Below.refl _ _).alloc (Nat.le_refl _) _⟩
        ·have g6:rngB d 0 4294967296 = false:=decide_eq_false q6
         have E:=Lib.hid (show okF s a b z d t = false from decide_eq_false (fun h=>by omega))
         clear q0 q1 q2 q3 q4 r4 q5 q6
         go_enter Tryz.func226,Tryz.ntmps226
         go_wp2_with (go_at_call 245; refine (within_ref _ _ _ _).mono ?_; rintro e w' ⟨rfl,rfl⟩)
         go_ret
         exact ⟨ret_b E.out.symm,(Below.refl _ _).alloc (Nat.le_refl _) _⟩
       ·have g5:rngB z (-4294967296) 4294967296 = false:=decide_eq_false q5
        have E:=Lib.hid (show okF s a b z d t = false from decide_eq_false (fun h=>by omega))
        clear q0 q1 q2 q3 q4 r4 q5
        go_enter Tryz.func226,Tryz.ntmps226
        go_wp2_with (go_at_call 245; refine (within_ref _ _ _ _).mono ?_; rintro e w' ⟨rfl,rfl⟩)
        go_ret
        exact ⟨ret_b E.out.symm,(Below.refl _ _).alloc (Nat.le_refl _) _⟩
     ·have g4:(a != 0) = true:=by simpa using q4
      by_cases q5:-4294967296≤z∧z≤4294967296
      ·have g5:rngB z (-4294967296) 4294967296 = true:=decide_eq_true q5
       by_cases q6:0≤d∧d≤4294967296
       ·have g6:rngB d 0 4294967296 = true:=decide_eq_true q6
        by_cases q7:1≤t∧t≤16
        ·have g7:rngB t 1 16 = true:=decide_eq_true q7
         have E:=Lib.hid (show okF s a b z d t = true from decide_eq_true (by omega))
         clear q0 q1 q2 q3 q4 q5 q6 q7
         go_enter Tryz.func226,Tryz.ntmps226
         go_wp2_with (go_at_call 245; refine (within_ref _ _ _ _).mono ?_; rintro e w' ⟨rfl,rfl⟩)
         go_ret
         exact ⟨ret_b E.out.symm,(Below.refl _ _).alloc (Nat.le_refl _) _⟩
        ·have g7:rngB t 1 16 = false:=decide_eq_false q7
         have E:=Lib.hid (show okF s a b z d t = false from decide_eq_false (fun h=>by omega))
         clear q0 q1 q2 q3 q4 q5 q6 q7
         go_enter Tryz.func226,Tryz.ntmps226
         go_wp2_with (go_at_call 245; refine (within_ref _ _ _ _).mono ?_; rintro e w' ⟨rfl,rfl⟩)
         go_ret
         exact ⟨ret_b E.out.symm,(Below.refl _ _).alloc (Nat.le_refl _) _⟩
       ·have g6:rngB d 0 4294967296 = false:=decide_eq_false q6
        have E:=Lib.hid (show okF s a b z d t = false from decide_eq_false (fun h=>by omega))
        clear q0 q1 q2 q3 q4 q5 q6
        go_enter Tryz.func226,Tryz.ntmps226
        go_wp2_with (go_at_call 245; refine (within_ref _ _ _ _).mono ?_; rintro e w' ⟨rfl,rfl⟩)
        go_ret
        exact ⟨ret_b E.out.symm,(Below.refl _ _).alloc (Nat.le_refl _) _⟩
      ·have g5:rngB z (-4294967296) 4294967296 = false:=decide_eq_false q5
       have E:=Lib.hid (show okF s a b z d t = false from decide_eq_false (fun h=>by omega))
       clear q0 q1 q2 q3 q4 q5
       go_enter Tryz.func226,Tryz.ntmps226
       go_wp2_with (go_at_call 245; refine (within_ref _ _ _ _).mono ?_; rintro e w' ⟨rfl,rfl⟩)
       go_ret
       exact ⟨ret_b E.out.symm,(Below.refl _ _).alloc (Nat.le_refl _) _⟩
    ·have g3:rngB b (-256) 256 = false:=decide_eq_false q3
     have E:=Lib.hid (show okF s a b z d t = false from decide_eq_false (fun h=>by omega))
     clear q0 q1 q2 q3
     go_enter Tryz.func226,Tryz.ntmps226
     go_wp2_with (go_at_call 245; refine (within_ref _ _ _ _).mono ?_; rintro e w' ⟨rfl,rfl⟩)
     go_ret
     exact ⟨ret_b E.out.symm,(Below.refl _ _).alloc (Nat.le_refl _) _⟩
   ·have g2:rngB a (-256) 256 = false:=decide_eq_false q2
    have E:=Lib.hid (show okF s a b z d t = false from decide_eq_false (fun h=>by omega))
    clear q0 q1 q2
    go_enter Tryz.func226,Tryz.ntmps226
    go_wp2_with (go_at_call 245; refine (within_ref _ _ _ _).mono ?_; rintro e w' ⟨rfl,rfl⟩)
    go_ret
    exact ⟨ret_b E.out.symm,(Below.refl _ _).alloc (Nat.le_refl _) _⟩
  ·have g1:decide (s≤8) = false:=by simpa using q1
   have E:=Lib.hid (show okF s a b z d t = false from decide_eq_false (fun h=>by omega))
   clear q0 q1
   go_enter Tryz.func226,Tryz.ntmps226
   go_wp2_with (go_at_call 245; refine (within_ref _ _ _ _).mono ?_; rintro e w' ⟨rfl,rfl⟩)
   go_ret
   exact ⟨ret_b E.out.symm,(Below.refl _ _).alloc (Nat.le_refl _) _⟩
 ·have g0:decide (1≤s) = false:=by simpa using q0
  have E:=Lib.hid (show okF s a b z d t = false from decide_eq_false (fun h=>by omega))
  clear q0
  go_enter Tryz.func226,Tryz.ntmps226
  go_wp2_with (go_at_call 245; refine (within_ref _ _ _ _).mono ?_; rintro e w' ⟨rfl,rfl⟩)
  go_ret
  exact ⟨ret_b E.out.symm,(Below.refl _ _).alloc (Nat.le_refl _) _⟩
set_option maxHeartbeats 200000
def ChkRref (l:List Ms) (w:World) (v:Value) (wr:World):Prop:=∃ k:Nat,v = .int .i64 k∧k≤l.length∧Hid (∀ i,i < k→okM (nth l i) = true)∧Below w.heap.size w wr
set_option maxHeartbeats 1000000
theorem chkref_some (l:List Ms) (b o cap:Nat) (w:World) (h:MsAt l b o w) (hc:l.length≤cap) (hm:cap≤9223372036854775807) :
 Calls Tryz.prog 192 #[.slice (some ⟨b,o,none⟩) l.length cap] w fun e w'=>e = .returned (.int .i64 (chkL l))∧Below w.heap.size w w':=by
 have H:=Lib.hid h
 have hlt:=h.lt
 clear h
 by_cases h16:16 < l.length
 ·have g:decide (16 < l.length) = true:=by simpa using h16
  have g':decide (16 < (l.length:Int)) = true:=by simp; omega
  have E:=Lib.hid (show chkL l = 3 by unfold chkL; rw [if_pos h16])
  clear h16
  go_enter Tryz.func192,Tryz.ntmps192
  go_wp2
  go_ret
  exact ⟨ret_int E.out.symm,Below.refl _ _⟩
 ·have g:decide (16 < l.length) = false:=by simpa using h16
  have g':decide (16 < (l.length:Int)) = false:=by simp; omega
  have E0:=Lib.hid (show chkL l = if l.all okM = true then 0 else 1 by unfold chkL; rw [if_neg h16])
  go_enter Tryz.func192,Tryz.ntmps192
  go_wp2
  go_loopw [10] (ChkRref l w) (fun i _=>l.length - (intOf i).toNat)
  case atStart=>exact ⟨0,rfl,Nat.zero_le _,Lib.hid fun i hi=>absurd hi (by omega),Below.refl _ _⟩
  case round =>
   obtain ⟨k,rfl,hk,hok,hbr⟩:=hrel
   have HB:=Lib.hid hbr
   by_cases q:k < l.length
   ·have q':decide (k < l.length) = true:=by simpa using q
    have M:=H.out.keep hbr hlt
    have c0:=M.c0 k q
    have c1:=M.c1 k q
    have c2:=M.c2 k q
    have c3:=M.c3 k q
    have c4:=M.c4 k q
    have c5:=M.c5 k q
    have V:=Lib.hid fun w=>valid_ref (nth l k).s (nth l k).a (nth l k).b (nth l k).z (nth l k).d (nth l k).w w
    have EV:=Lib.hid (show okM (nth l k) = okF (nth l k).s (nth l k).a (nth l k).b (nth l k).z (nth l k).d (nth l k).w from rfl)
    have MEM:=Lib.hid (nth_mem q)
    clear M hbr
    generalize okF (nth l k).s (nth l k).a (nth l k).b (nth l k).z (nth l k).d (nth l k).w = v at *
    cases v with
    | true =>
     go_wp2_with (go_at_call 226; refine (V.out _).mono ?_; rintro e w2 ⟨rfl,hb2⟩)
     go_roundw
     case rel =>
      refine ⟨k + 1,by go_num,by omega,Lib.hid fun i hi=>?_,HB.out.trans (((Below.refl _ _).alloc (Nat.le_refl _) _).trans (hb2.mono (by simp)) |>.mono HB.out.size)⟩
      by_cases e:i = k
      ·rw [e]; exact EV.out
      ·exact hok.out i (by omega)
     case measure=>simp [intOf]; omega
    | false =>
     have EE:=Lib.hid (show chkL l = 1 by rw [E0.out,if_neg]; intro h; have:=List.all_eq_true.1 h _ MEM.out; rw [EV.out] at this; cases this)
     go_wp2_with (go_at_call 226; refine (V.out _).mono ?_; rintro e w2 ⟨rfl,hb2⟩)
     go_ret
     exact ⟨ret_int EE.out.symm,HB.out.trans (((Below.refl _ _).alloc (Nat.le_refl _) _).trans (hb2.mono (by simp)) |>.mono HB.out.size)⟩
   ·have EE:=Lib.hid (show chkL l = 0 by
     rw [E0.out,if_pos]
     refine List.all_eq_true.2 fun m hm=>?_
     obtain ⟨i,hi,rfl⟩:=List.getElem_of_mem hm
     rw [← nth_eq hi]
     exact hok.out i (by omega))
    go_wp2
    go_ret
    exact ⟨ret_int EE.out.symm,HB.out⟩
set_option maxHeartbeats 200000
theorem chkref_nil (w:World) :
 Calls Tryz.prog 192 #[.slice none 0 0] w fun e w'=>e = .returned (.int .i64 0)∧Below w.heap.size w w':=by
 go_enter Tryz.func192,Tryz.ntmps192
 go_wp2
 go_loop [10] (fun v=>v = .int .i64 0) (fun _=>0)
 case atStart=>rfl
 case round =>
  subst hrel
  go_wp2
  go_ret
  exact ⟨rfl,Below.refl _ _⟩
theorem chkref_any (l:List Ms) (v:Value) (w:World) (h:LstAt l v w) :
 Calls Tryz.prog 192 #[v] w fun e w'=>e = .returned (.int .i64 (chkL l))∧Below w.heap.size w w':=by
 rcases h with ⟨rfl,rfl⟩ | ⟨b,o,cap,rfl,h2,h3,h4⟩
 ·exact chkref_nil w
 ·exact chkref_some l b o cap w h4 h2 h3
end Go.Proofs.YtajmjkliblippaaGreatDoor
