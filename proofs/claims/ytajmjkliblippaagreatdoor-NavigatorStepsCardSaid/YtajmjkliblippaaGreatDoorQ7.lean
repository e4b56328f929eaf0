/-
  Walks and laws of the layers below, gathered from several texts.
-/
import Derived.Deep.LoopGhost
import Derived.Lib.QuietBelow
import Derived.Test.YtajmjkliblippaaGreatDoorQ5
import Derived.Test.YtajmjkliblippaaGreatDoorQ6
set_option linter.unusedVariables false
namespace Go.Proofs.YtajmjkliblippaaGreatDoor.S41
open Go.RowKit Tr Sq
theorem isq_sq_bd {n:Int} (h0:0≤n) (h1:n≤4611686018427387904):0≤isq n∧isq n≤2147483648∧0≤isq n * isq n∧isq n * isq n≤4611686018427387904:=by
 have a:=isq_is h0 (by omega)
 have b:=isq_mono h1 (by decide)
 have c:isq 4611686018427387904 = 2147483648:=by decide
 have d:=a.le
 have e:=Sq.sq_nonneg (isq n)
 have f:=a.nn
 omega
theorem sqrtup_any (n:Int) (w:World) (h0:0≤n) (h1:n≤4611686018427387904) :
 Calls Tryz.prog 77 #[.int .i64 n] w fun e w'=>e = .returned (.int .i64 (sqU n))∧w = w':=by
 obtain ⟨a0,a1,a2,a3⟩:=isq_sq_bd h0 h1
 by_cases hn:0 < n
 ·have g1:decide (0 < n) = true:=by simpa using hn
  by_cases hs:isq n * isq n < n
  ·have g2:decide (isq n * isq n < n) = true:=by simpa using hs
   have E:=Lib.hid (show sqU n = isq n + 1 by unfold sqU; rw [if_pos ⟨hn,hs⟩])
   go_enter Tryz.func77,Tryz.ntmps77
   go_wp2_with (go_at_call 80; refine (sqrt_any _ _ (by omega) (by omega)).mono ?_; rintro e w' ⟨rfl,rfl⟩)
   go_ret
   exact ⟨ret_int E.out.symm,rfl⟩
  ·have g2:decide (isq n * isq n < n) = false:=by simpa using hs
   have E:=Lib.hid (show sqU n = isq n by unfold sqU; rw [if_neg (fun h=>hs h.2)])
   go_enter Tryz.func77,Tryz.ntmps77
   go_wp2_with (go_at_call 80; refine (sqrt_any _ _ (by omega) (by omega)).mono ?_; rintro e w' ⟨rfl,rfl⟩)
   go_ret
   exact ⟨ret_int E.out.symm,rfl⟩
 ·have g1:decide (0 < n) = false:=by simpa using hn
  have E:=Lib.hid (show sqU n = isq n by unfold sqU; rw [if_neg (fun h=>hn h.1)])
  go_enter Tryz.func77,Tryz.ntmps77
  go_wp2_with (go_at_call 80; refine (sqrt_any _ _ (by omega) (by omega)).mono ?_; rintro e w' ⟨rfl,rfl⟩)
  go_ret
  exact ⟨ret_int E.out.symm,rfl⟩
theorem vector_any (x y p q:Int) (w:World) (h:(pvB x y && pvB p q) = true) :
 Calls Tryz.prog 79 #[.agg #[.int .i64 x,.int .i64 y],.agg #[.int .i64 p,.int .i64 q]] w fun e w'=>e = .returned (.agg #[.int .i64 (p - x),.int .i64 (q - y)])∧Below w.heap.size w w':=by
 obtain ⟨⟨a1,a2,a3,a4⟩,b1,b2,b3,b4⟩:=pv2 h
 clear h
 go_enter Tryz.func79,Tryz.ntmps79
 go_wp2
 exact bodyPost_ret (v:=.agg #[.int .i64 (p - x),.int .i64 (q - y)]) (by simp [results,Tryz.results79,go_sem]) rfl ⟨rfl,(((Below.refl _ _).alloc (Nat.le_refl _) _).alloc (by simp) _).alloc (by simp; omega) _⟩
theorem dot_any (a b c d:Int) (w:World) (a0:-4000000≤a) (a1:a≤4000000) (b0:-4000000≤b) (b1:b≤4000000) (hc:c = a) (hd:d = b) :
 Calls Tryz.prog 81 #[.agg #[.int .i64 a,.int .i64 b],.agg #[.int .i64 c,.int .i64 d]] w fun e w'=>e = .returned (.int .i64 (a * a + b * b))∧Below w.heap.size w w':=by
 subst hc hd
 obtain ⟨h1,h2⟩:=sq_bd a0 a1
 obtain ⟨h3,h4⟩:=sq_bd b0 b1
 go_enter Tryz.func81,Tryz.ntmps81
 go_wp2
 go_ret
 exact ⟨rfl,((Below.refl _ _).alloc (Nat.le_refl _) _).alloc (by simp) _⟩
set_option maxHeartbeats 1000000
theorem dist_any (x y p q:Int) (w:World) :
 Calls Tryz.prog 43 #[.agg #[.int .i64 x,.int .i64 y],.agg #[.int .i64 p,.int .i64 q]] w fun e w'=>e = .returned (.int .i64 (distI x y p q))∧Below w.heap.size w w':=by
 cases g:(pvB x y && pvB p q) with
 | false =>
  have G:=Lib.hid g
  have E:=Lib.hid (show distI x y p q = 0 by unfold distI; rw [if_neg (by rw [g]; decide)])
  clear g
  go_enter Tryz.func43,Tryz.ntmps43
  go_wp2_with fail
  refine (line_valid x y p q _ _ (by simp) (by go_simp) (by go_simp) (by go_simp) (by go_simp)).mono ?_
  rw [G.out]
  rintro e w1 ⟨rfl,hb⟩
  go_wp2
  go_ret
  exact ⟨ret_int E.out.symm,((((Below.refl _ _).alloc (Nat.le_refl _) _).alloc (by simp) _).alloc (by simp; omega) _).trans (hb.mono (by simp; omega))⟩
 | true =>
  have G:=Lib.hid g
  have E:=Lib.hid (show distI x y p q = isq (d2 x y p q) by unfold distI; rw [if_pos g])
  obtain ⟨⟨a1,a2,a3,a4⟩,b1,b2,b3,b4⟩:=pv2 g
  obtain ⟨e1,e2,e3,e4,e5,e6⟩:=d2_bd g
  unfold d2 at *
  clear g
  go_enter Tryz.func43,Tryz.ntmps43
  go_wp2_with fail
  refine (line_valid x y p q _ _ (by simp) (by go_simp) (by go_simp) (by go_simp) (by go_simp)).mono ?_
  rw [G.out]
  rintro e w1 ⟨rfl,hb⟩
  obtain ⟨hc,hf⟩:=bcell hb
  have hA:Below w.heap.size w w1:=((((Below.refl _ _).alloc (Nat.le_refl _) _).alloc (by simp) _).alloc (by simp; omega) _).trans (hb.mono (by simp; omega))
  go_wp2_with fail
  refine (vector_any x y p q _ G.out).mono ?_
  rintro e w2 ⟨rfl,hb2⟩
  have hB:=hA.trans (hb2.mono hA.size)
  clear hb hc hf hA hb2
  go_wp2_with fail
  refine (dot_any _ _ _ _ _ (by omega) (by omega) (by omega) (by omega) rfl rfl).mono ?_
  rintro e w3 ⟨rfl,hb3⟩
  go_wp2_with (go_at_call 80; refine (sqrt_any _ _ (by omega) (by omega)).mono ?_; rintro e w' ⟨rfl,rfl⟩)
  go_ret
  exact ⟨ret_int E.out.symm,hB.trans ((below_box hb3).mono hB.size)⟩
end Go.Proofs.YtajmjkliblippaaGreatDoor.S41
namespace Go.Proofs.YtajmjkliblippaaGreatDoor.S41
open Go.RowKit Tr Sq
theorem below_two {w w1:World} {o o':Obj} (hb:Below ((w.alloc o).alloc o').heap.size ((w.alloc o).alloc o') w1):Below w.heap.size w w1:=(((Below.refl _ _).alloc (Nat.le_refl _) _).alloc (by simp) _).trans (hb.mono (by simp; omega))
theorem boxv_any (cx cy bx b2:Int) (w:World):Calls Tryz.prog 41 #[.agg #[.int .i64 cx,.int .i64 cy,.int .i64 bx,.int .i64 b2]] w fun e w'=>e = .returned (.bool (boxV cx cy bx b2))∧Below w.heap.size w w':=by
 cases g1:pvB cx cy with
 | false =>
  go_enter Tryz.func41,Tryz.ntmps41
  go_wp2_with (first
   | (go_at_call 51; refine (from_any _ _ _ _).mono ?_; rintro e w' ⟨rfl,rfl⟩)
   | (go_at_call 49; refine (pvalid_any _ _ _).mono ?_; rintro e w1 ⟨rfl,hb⟩; obtain ⟨hc,hf⟩:=bcell hb))
  go_ret
  exact ⟨ret_bool (by unfold boxV; rw [g1]; rfl),below_box hb⟩
 | true =>
  cases g2:fromB bx 0 2000000 with
  | false =>
   go_enter Tryz.func41,Tryz.ntmps41
   go_wp2_with (first
    | (go_at_call 51; refine (from_any _ _ _ _).mono ?_; rintro e w' ⟨rfl,rfl⟩)
    | (go_at_call 49; refine (pvalid_any _ _ _).mono ?_; rintro e w1 ⟨rfl,hb⟩; obtain ⟨hc,hf⟩:=bcell hb))
   go_ret
   exact ⟨ret_bool (by unfold boxV; rw [g1,g2]; rfl),below_box hb⟩
  | true =>
   cases g3:fromB b2 0 2000000 with
   | false =>
    go_enter Tryz.func41,Tryz.ntmps41
    go_wp2_with (first
     | (go_at_call 51; refine (from_any _ _ _ _).mono ?_; rintro e w' ⟨rfl,rfl⟩)
     | (go_at_call 49; refine (pvalid_any _ _ _).mono ?_; rintro e w1 ⟨rfl,hb⟩; obtain ⟨hc,hf⟩:=bcell hb))
    go_ret
    exact ⟨ret_bool (by unfold boxV; rw [g1,g2,g3]; rfl),below_box hb⟩
   | true =>
    go_enter Tryz.func41,Tryz.ntmps41
    go_wp2_with (first
     | (go_at_call 51; refine (from_any _ _ _ _).mono ?_; rintro e w' ⟨rfl,rfl⟩)
     | (go_at_call 49; refine (pvalid_any _ _ _).mono ?_; rintro e w1 ⟨rfl,hb⟩; obtain ⟨hc,hf⟩:=bcell hb))
    go_ret
    exact ⟨ret_bool (by unfold boxV; rw [g1,g2,g3]; rfl),below_box hb⟩
set_option maxHeartbeats 1000000
theorem radius_any (cx cy bx b2:Int) (w:World):Calls Tryz.prog 42 #[.agg #[.int .i64 cx,.int .i64 cy,.int .i64 bx,.int .i64 b2]] w fun e w'=>e = .returned (.int .i64 (radI cx cy bx b2))∧Below w.heap.size w w':=by
 cases g:boxV cx cy bx b2 with
 | false =>
  have E:=Lib.hid (show radI cx cy bx b2 = 0 by unfold radI; rw [if_neg (by rw [g]; decide)])
  go_enter Tryz.func42,Tryz.ntmps42
  go_wp2_with fail
  refine (boxv_any _ _ _ _ _).mono ?_
  rw [g]
  rintro e w1 ⟨rfl,hb⟩
  go_wp2
  go_ret
  exact ⟨ret_int E.out.symm,below_box hb⟩
 | true =>
  have E:=Lib.hid (show radI cx cy bx b2 = sqU (bx * bx + b2 * b2) by unfold radI; rw [if_pos g])
  obtain ⟨_,⟨b0,b1⟩,b3,b4⟩:=boxV_iff.1 g
  obtain ⟨s0,s1⟩:=sq_bd (x:=bx) (k:=2000000) (by omega) b1
  obtain ⟨s2,s3⟩:=sq_bd (x:=b2) (k:=2000000) (by omega) b4
  go_enter Tryz.func42,Tryz.ntmps42
  go_wp2_with fail
  refine (boxv_any _ _ _ _ _).mono ?_
  rw [g]
  rintro e w1 ⟨rfl,hb⟩
  obtain ⟨hc,hf⟩:=bcell hb
  go_wp2_with (go_at_call 77; refine (sqrtup_any _ _ (by omega) (by omega)).mono ?_; rintro e w' ⟨rfl,rfl⟩)
  go_ret
  exact ⟨ret_int E.out.symm,below_box hb⟩
set_option maxHeartbeats 2000000
theorem inside_any (cx cy bx b2 px py:Int) (w:World):Calls Tryz.prog 24 #[.agg #[.int .i64 cx,.int .i64 cy,.int .i64 bx,.int .i64 b2],.agg #[.int .i64 px,.int .i64 py]] w fun e w'=>e = .returned (.bool (insB cx cy bx b2 px py))∧Below w.heap.size w w':=by
 cases g1:boxV cx cy bx b2 with
 | false =>
  have V:=Lib.hid g1
  have E:=Lib.hid (show insB cx cy bx b2 px py = false by unfold insB; rw [g1]; rfl)
  clear g1
  go_enter Tryz.func24,Tryz.ntmps24
  go_wp2_with fail
  refine (boxv_any _ _ _ _ _).mono ?_
  rw [V.out]
  rintro e w1 ⟨rfl,hb⟩
  obtain ⟨hc,hf⟩:=bcell hb
  go_wp2_with (go_at_call 51; refine (from_any _ _ _ _).mono ?_; rintro e w' ⟨rfl,rfl⟩)
  go_ret
  exact ⟨ret_bool E.out.symm,below_two hb⟩
 | true =>
  cases g2:fromB px (cx - bx) (cx + bx) with
  | false =>
   obtain ⟨⟨v1,v2,v3,v4⟩,⟨v5,v6⟩,v7,v8⟩:=boxV_iff.1 g1
   have V:=Lib.hid g1
   have E:=Lib.hid (show insB cx cy bx b2 px py = false by unfold insB; rw [g1,g2]; rfl)
   clear g1
   go_enter Tryz.func24,Tryz.ntmps24
   go_wp2_with fail
   refine (boxv_any _ _ _ _ _).mono ?_
   rw [V.out]
   rintro e w1 ⟨rfl,hb⟩
   obtain ⟨hc,hf⟩:=bcell hb
   go_wp2_with (go_at_call 51; refine (from_any _ _ _ _).mono ?_; rintro e w' ⟨rfl,rfl⟩)
   go_ret
   exact ⟨ret_bool E.out.symm,below_two hb⟩
  | true =>
   cases g3:fromB py (cy - b2) (cy + b2) with
   | false =>
    obtain ⟨⟨v1,v2,v3,v4⟩,⟨v5,v6⟩,v7,v8⟩:=boxV_iff.1 g1
    have V:=Lib.hid g1
    have E:=Lib.hid (show insB cx cy bx b2 px py = false by unfold insB; rw [g1,g2,g3]; rfl)
    clear g1
    go_enter Tryz.func24,Tryz.ntmps24
    go_wp2_with fail
    refine (boxv_any _ _ _ _ _).mono ?_
    rw [V.out]
    rintro e w1 ⟨rfl,hb⟩
    obtain ⟨hc,hf⟩:=bcell hb
    go_wp2_with (go_at_call 51; refine (from_any _ _ _ _).mono ?_; rintro e w' ⟨rfl,rfl⟩)
    go_ret
    exact ⟨ret_bool E.out.symm,below_two hb⟩
   | true =>
    obtain ⟨⟨v1,v2,v3,v4⟩,⟨v5,v6⟩,v7,v8⟩:=boxV_iff.1 g1
    have V:=Lib.hid g1
    have E:=Lib.hid (show insB cx cy bx b2 px py = true by unfold insB; rw [g1,g2,g3]; rfl)
    clear g1
    go_enter Tryz.func24,Tryz.ntmps24
    go_wp2_with fail
    refine (boxv_any _ _ _ _ _).mono ?_
    rw [V.out]
    rintro e w1 ⟨rfl,hb⟩
    obtain ⟨hc,hf⟩:=bcell hb
    go_wp2_with (go_at_call 51; refine (from_any _ _ _ _).mono ?_; rintro e w' ⟨rfl,rfl⟩)
    go_ret
    exact ⟨ret_bool E.out.symm,below_two hb⟩
end Go.Proofs.YtajmjkliblippaaGreatDoor.S41
