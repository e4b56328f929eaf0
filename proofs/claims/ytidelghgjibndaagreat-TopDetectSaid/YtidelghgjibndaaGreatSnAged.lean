/-
  Of the text Aged: what is wanted here.
-/
import Derived.Test.YtidelghgjibndaaGreatSnSensorOne
namespace Go.Proofs.YtidelghgjibndaaGreat.S41
set_option linter.unusedVariables false
open Go.RowKit Tr Sq
theorem below_2box {w w1 : World} {o o' : Obj} (hb : Below ((w.alloc o).alloc o').heap.size ((w.alloc o).alloc o') w1) : Below w.heap.size w w1 := (((Below.refl _ _).alloc (Nat.le_refl _) _).alloc (by simp) _).trans (hb.mono (by simp; omega))
/-- a report's numbers -/
structure Rp where
  s : Int
  k : Int
  x : Int
  y : Int
  v : Int
  b : Int
  w : Int
  t : Int
def repV (r : Rp) : Value := .agg #[.int .i64 r.s, .int .u8 r.k, .int .i64 r.x, .int .i64 r.y, .int .i64 r.v, .int .i64 r.b, .int .i64 r.w, .int .i64 r.t]
def rp0 : Rp := ⟨0, 0, 0, 0, 0, 0, 0, 0⟩
/-- a block holds a report's numbers, and may be written -/
def Blk8 (w : World) (h : Nat) (s k x y v b wt t : Int) : Prop := (w.cell? ⟨h, 0, none⟩ = some (.int .i64 s) ∧ w.cell? ⟨h, 1, none⟩ = some (.int .u8 k) ∧ w.cell? ⟨h, 2, none⟩ = some (.int .i64 x) ∧ w.cell? ⟨h, 3, none⟩ = some (.int .i64 y) ∧ w.cell? ⟨h, 4, none⟩ = some (.int .i64 v) ∧ w.cell? ⟨h, 5, none⟩ = some (.int .i64 b) ∧ w.cell? ⟨h, 6, none⟩ = some (.int .i64 wt) ∧ w.cell? ⟨h, 7, none⟩ = some (.int .i64 t)) ∧ w.frozen? ⟨h, 0, none⟩ = false ∧ w.frozen? ⟨h, 1, none⟩ = false ∧ w.frozen? ⟨h, 2, none⟩ = false ∧ w.frozen? ⟨h, 3, none⟩ = false ∧ w.frozen? ⟨h, 4, none⟩ = false ∧ w.frozen? ⟨h, 5, none⟩ = false ∧ w.frozen? ⟨h, 6, none⟩ = false ∧ w.frozen? ⟨h, 7, none⟩ = false
theorem Blk8.keep {w w' : World} {h B : Nat} {s k x y v b wt t : Int} (hr : Blk8 w h s k x y v b wt t) (hb : Below B w w') (hl : h < B) : Blk8 w' h s k x y v b wt t := by
  obtain ⟨⟨c0, c1, c2, c3, c4, c5, c6, c7⟩, f0, f1, f2, f3, f4, f5, f6, f7⟩ := hr
  exact ⟨⟨(hb.cell (p := ⟨h, 0, none⟩) hl).trans c0, (hb.cell (p := ⟨h, 1, none⟩) hl).trans c1, (hb.cell (p := ⟨h, 2, none⟩) hl).trans c2, (hb.cell (p := ⟨h, 3, none⟩) hl).trans c3, (hb.cell (p := ⟨h, 4, none⟩) hl).trans c4, (hb.cell (p := ⟨h, 5, none⟩) hl).trans c5, (hb.cell (p := ⟨h, 6, none⟩) hl).trans c6, (hb.cell (p := ⟨h, 7, none⟩) hl).trans c7⟩, (hb.frozen (p := ⟨h, 0, none⟩) hl).trans f0, (hb.frozen (p := ⟨h, 1, none⟩) hl).trans f1, (hb.frozen (p := ⟨h, 2, none⟩) hl).trans f2, (hb.frozen (p := ⟨h, 3, none⟩) hl).trans f3, (hb.frozen (p := ⟨h, 4, none⟩) hl).trans f4, (hb.frozen (p := ⟨h, 5, none⟩) hl).trans f5, (hb.frozen (p := ⟨h, 6, none⟩) hl).trans f6, (hb.frozen (p := ⟨h, 7, none⟩) hl).trans f7⟩
theorem blk8_new (w : World) (s k x y v b wt t : Int) (T T' : TypeId) : Blk8 ((w.alloc (.cells #[.int .i64 s, .int .u8 k, .int .i64 x, .int .i64 y, .int .i64 v, .int .i64 b, .int .i64 wt, .int .i64 t] T)).alloc (.cells #[.int .i64 0, .int .u8 0, .int .i64 0, .int .i64 0, .int .i64 0, .int .i64 0, .int .i64 0, .int .i64 0] T')) w.heap.size s k x y v b wt t ∧ Blk8 ((w.alloc (.cells #[.int .i64 s, .int .u8 k, .int .i64 x, .int .i64 y, .int .i64 v, .int .i64 b, .int .i64 wt, .int .i64 t] T)).alloc (.cells #[.int .i64 0, .int .u8 0, .int .i64 0, .int .i64 0, .int .i64 0, .int .i64 0, .int .i64 0, .int .i64 0] T')) (w.heap.size + 1) 0 0 0 0 0 0 0 0 := by
  constructor <;> (unfold Blk8; refine ⟨⟨?_, ?_, ?_, ?_, ?_, ?_, ?_, ?_⟩, ?_, ?_, ?_, ?_, ?_, ?_, ?_, ?_⟩ <;> go_simp)
def agedF (s k x y v b wt t tick speed : Int) : Rp × Int :=
  if checkI s k x y v b wt t = 0 then
    if (fromB tick 0 1099511627776 && fromB speed 0 1000) = true then
      if fromB (tick - t) 0 20 = true then
        if k = 3 then (if tick - t = 0 then (⟨s, k, x, y, v, b, wt, tick⟩, 0) else (rp0, 17))
        else if b + speed * (tick - t) ≤ 600000 then (⟨s, k, x, y, v, b + speed * (tick - t), wt, tick⟩, 0) else (rp0, 2)
      else (rp0, 16)
    else (rp0, 2)
  else (rp0, checkI s k x y v b wt t)
set_option maxHeartbeats 4000000 in
set_option maxRecDepth 100000 in
theorem aged_any (s k x y v b wt t tick speed : Int) (w : World) (k0 : 0 ≤ k) (k1 : k ≤ 255) :
    Calls Tryz.prog 27 #[.agg #[.int .i64 s, .int .u8 k, .int .i64 x, .int .i64 y, .int .i64 v, .int .i64 b, .int .i64 wt, .int .i64 t], .int .i64 tick, .int .i64 speed] w fun e w' => e = .returned (.tuple #[repV (agedF s k x y v b wt t tick speed).1, .int .i64 (agedF s k x y v b wt t tick speed).2]) ∧ Below w.heap.size w w' := by
  have C0 := fun w => check_any s k x y v b wt t w k0 k1
  by_cases h1 : checkI s k x y v b wt t = 0
  · have bd := check_bd h1
    obtain ⟨-, -, -, -, ⟨b0, b1⟩, -, t0, t1⟩ := bd
    rw [h1] at C0
    have C := Lib.hid C0
    clear C0
    cases h2 : fromB tick 0 1099511627776 with
    | false =>
      have E := Lib.hid (show agedF s k x y v b wt t tick speed = (rp0, 2) by unfold agedF; rw [if_pos h1, h2]; rfl)
      clear h1
      go_enter Tryz.func27, Tryz.ntmps27
      go_wp2_with fail
      refine (C.out _).mono ?_
      rintro e w1 ⟨rfl, hb⟩
      obtain ⟨⟨c0, c1, c2, c3, c4, c5, c6, c7⟩, f0, f1, f2, f3, f4, f5, f6, f7⟩ := (blk8_new w s k x y v b wt t _ _).1.keep hb (by simp; omega)
      obtain ⟨⟨d0, d1, d2, d3, d4, d5, d6, d7⟩, e0, e1, e2, e3, e4, e5, e6, e7⟩ := (blk8_new w s k x y v b wt t _ _).2.keep hb (by simp)
      have hz : w.heap.size + 1 < w1.heap.size := by have := hb.size; simp at this; omega
      have hz' : w.heap.size < w1.heap.size := by omega
      have HB := Lib.hid (below_2box hb)
      clear hb
      go_wp2_with (go_at_call 26; refine (from_any _ _ _ _).mono ?_; rintro e w' ⟨rfl, rfl⟩)
      exact bodyPost_ret (v := .tuple #[.agg #[.int .i64 0, .int .u8 0, .int .i64 0, .int .i64 0, .int .i64 0, .int .i64 0, .int .i64 0, .int .i64 0], .int .i64 2]) (by simp [results, Tryz.results27, go_sem, d0, d1, d2, d3, d4, d5, d6, d7]) rfl ⟨by rw [E.out]; rfl, by repeat (first | with_reducible exact HB.out | with_reducible refine Below.setCell ?_ (by simp) _)⟩
    | true =>
      obtain ⟨i0, i1⟩ := fromB_iff.1 h2
      cases h3 : fromB speed 0 1000 with
      | false =>
        have E := Lib.hid (show agedF s k x y v b wt t tick speed = (rp0, 2) by unfold agedF; rw [if_pos h1, h2, h3]; rfl)
        clear h1
        go_enter Tryz.func27, Tryz.ntmps27
        go_wp2_with fail
        refine (C.out _).mono ?_
        rintro e w1 ⟨rfl, hb⟩
        obtain ⟨⟨c0, c1, c2, c3, c4, c5, c6, c7⟩, f0, f1, f2, f3, f4, f5, f6, f7⟩ := (blk8_new w s k x y v b wt t _ _).1.keep hb (by simp; omega)
        obtain ⟨⟨d0, d1, d2, d3, d4, d5, d6, d7⟩, e0, e1, e2, e3, e4, e5, e6, e7⟩ := (blk8_new w s k x y v b wt t _ _).2.keep hb (by simp)
        have hz : w.heap.size + 1 < w1.heap.size := by have := hb.size; simp at this; omega
        have hz' : w.heap.size < w1.heap.size := by omega
        have HB := Lib.hid (below_2box hb)
        clear hb
        go_wp2_with (go_at_call 26; refine (from_any _ _ _ _).mono ?_; rintro e w' ⟨rfl, rfl⟩)
        exact bodyPost_ret (v := .tuple #[.agg #[.int .i64 0, .int .u8 0, .int .i64 0, .int .i64 0, .int .i64 0, .int .i64 0, .int .i64 0, .int .i64 0], .int .i64 2]) (by simp [results, Tryz.results27, go_sem, d0, d1, d2, d3, d4, d5, d6, d7]) rfl ⟨by rw [E.out]; rfl, by repeat (first | with_reducible exact HB.out | with_reducible refine Below.setCell ?_ (by simp) _)⟩
      | true =>
        obtain ⟨j0, j1⟩ := fromB_iff.1 h3
        cases h4 : fromB (tick - t) 0 20 with
        | false =>
          have E := Lib.hid (show agedF s k x y v b wt t tick speed = (rp0, 16) by unfold agedF; rw [if_pos h1, h2, h3, h4]; rfl)
          clear h1
          go_enter Tryz.func27, Tryz.ntmps27
          go_wp2_with fail
          refine (C.out _).mono ?_
          rintro e w1 ⟨rfl, hb⟩
          obtain ⟨⟨c0, c1, c2, c3, c4, c5, c6, c7⟩, f0, f1, f2, f3, f4, f5, f6, f7⟩ := (blk8_new w s k x y v b wt t _ _).1.keep hb (by simp; omega)
          obtain ⟨⟨d0, d1, d2, d3, d4, d5, d6, d7⟩, e0, e1, e2, e3, e4, e5, e6, e7⟩ := (blk8_new w s k x y v b wt t _ _).2.keep hb (by simp)
          have hz : w.heap.size + 1 < w1.heap.size := by have := hb.size; simp at this; omega
          have hz' : w.heap.size < w1.heap.size := by omega
          have HB := Lib.hid (below_2box hb)
          clear hb
          go_wp2_with (go_at_call 26; refine (from_any _ _ _ _).mono ?_; rintro e w' ⟨rfl, rfl⟩)
          exact bodyPost_ret (v := .tuple #[.agg #[.int .i64 0, .int .u8 0, .int .i64 0, .int .i64 0, .int .i64 0, .int .i64 0, .int .i64 0, .int .i64 0], .int .i64 16]) (by simp [results, Tryz.results27, go_sem, d0, d1, d2, d3, d4, d5, d6, d7]) rfl ⟨by rw [E.out]; rfl, by repeat (first | with_reducible exact HB.out | with_reducible refine Below.setCell ?_ (by simp) _)⟩
        | true =>
          obtain ⟨a0, a1⟩ := fromB_iff.1 h4
          have hm0 : 0 ≤ speed * (tick - t) := Int.mul_nonneg j0 a0
          have hm1 : speed * (tick - t) ≤ 20000 := by
            have := Int.mul_le_mul j1 a1 a0 (by decide)
            omega
          by_cases hk : k = 3
          · subst hk
            by_cases h5 : tick - t = 0
            · have E := Lib.hid (show agedF s 3 x y v b wt t tick speed = (⟨s, 3, x, y, v, b, wt, tick⟩, 0) by unfold agedF; rw [if_pos h1, h2, h3, if_pos (by rfl), if_pos h4, if_pos rfl, if_pos h5])
              obtain rfl : tick = t := by omega
              clear h1 h5 hm0 hm1
              have z : tick - tick = 0 := Int.sub_self _
              have z1 : fromB 0 0 20 = true := by decide
              go_enter Tryz.func27, Tryz.ntmps27
              go_wp2_with fail
              refine (C.out _).mono ?_
              rintro e w1 ⟨rfl, hb⟩
              obtain ⟨⟨c0, c1, c2, c3, c4, c5, c6, c7⟩, f0, f1, f2, f3, f4, f5, f6, f7⟩ := (blk8_new w s 3 x y v b wt tick _ _).1.keep hb (by simp; omega)
              obtain ⟨⟨d0, d1, d2, d3, d4, d5, d6, d7⟩, e0, e1, e2, e3, e4, e5, e6, e7⟩ := (blk8_new w s 3 x y v b wt tick _ _).2.keep hb (by simp)
              have hz : w.heap.size + 1 < w1.heap.size := by have := hb.size; simp at this; omega
              have hz' : w.heap.size < w1.heap.size := by omega
              have HB := Lib.hid (below_2box hb)
              clear hb
              go_wp2_with (go_at_call 26; refine (from_any _ _ _ _).mono ?_; rintro e w' ⟨rfl, rfl⟩)
              exact bodyPost_ret (v := .tuple #[.agg #[.int .i64 s, .int .u8 3, .int .i64 x, .int .i64 y, .int .i64 v, .int .i64 (b), .int .i64 wt, .int .i64 tick], .int .i64 0]) (by simp [results, Tryz.results27, go_sem, d0, d1, d2, d3, d4, d5, d6, d7]) rfl ⟨by rw [E.out]; rfl, by repeat (first | with_reducible exact HB.out | with_reducible refine Below.setCell ?_ (by simp) _)⟩
            · have E := Lib.hid (show agedF s 3 x y v b wt t tick speed = (rp0, 17) by unfold agedF; rw [if_pos h1, h2, h3, if_pos (by rfl), if_pos h4, if_pos rfl, if_neg h5])
              have g5 : (tick - t == 0) = false := by simpa using h5
              have g5' : (tick - t != 0) = true := by simpa using h5
              have g5'' : decide (0 < tick - t) = true := by simp; omega
              have g7 : decide (t < tick) = true := by simp; omega
              clear h1 h5
              go_enter Tryz.func27, Tryz.ntmps27
              go_wp2_with fail
              refine (C.out _).mono ?_
              rintro e w1 ⟨rfl, hb⟩
              obtain ⟨⟨c0, c1, c2, c3, c4, c5, c6, c7⟩, f0, f1, f2, f3, f4, f5, f6, f7⟩ := (blk8_new w s 3 x y v b wt t _ _).1.keep hb (by simp; omega)
              obtain ⟨⟨d0, d1, d2, d3, d4, d5, d6, d7⟩, e0, e1, e2, e3, e4, e5, e6, e7⟩ := (blk8_new w s 3 x y v b wt t _ _).2.keep hb (by simp)
              have hz : w.heap.size + 1 < w1.heap.size := by have := hb.size; simp at this; omega
              have hz' : w.heap.size < w1.heap.size := by omega
              have HB := Lib.hid (below_2box hb)
              clear hb
              go_wp2_with (go_at_call 26; refine (from_any _ _ _ _).mono ?_; rintro e w' ⟨rfl, rfl⟩)
              exact bodyPost_ret (v := .tuple #[.agg #[.int .i64 0, .int .u8 0, .int .i64 0, .int .i64 0, .int .i64 0, .int .i64 0, .int .i64 0, .int .i64 0], .int .i64 17]) (by simp [results, Tryz.results27, go_sem, d0, d1, d2, d3, d4, d5, d6, d7]) rfl ⟨by rw [E.out]; rfl, by repeat (first | with_reducible exact HB.out | with_reducible refine Below.setCell ?_ (by simp) _)⟩
          · have gk : (k == 3) = false := by simpa using hk
            have gk' : (k != 3) = true := by simpa using hk
            by_cases h5 : b + speed * (tick - t) ≤ 600000
            · have E := Lib.hid (show agedF s k x y v b wt t tick speed = (⟨s, k, x, y, v, b + speed * (tick - t), wt, tick⟩, 0) by unfold agedF; rw [if_pos h1, h2, h3, if_pos (by rfl), if_pos h4, if_neg hk, if_pos h5])
              have g5 : decide (600000 < b + speed * (tick - t)) = false := by simp; omega
              clear h1 h5 hk
              by_cases h6 : tick - t = 0
              · obtain rfl : tick = t := by omega
                clear h6
                have z : tick - tick = 0 := Int.sub_self _
                have z1 : fromB 0 0 20 = true := by decide
                rw [z, Int.mul_zero, Int.add_zero] at g5
                have E2 := Lib.hid (show agedF s k x y v b wt tick tick speed = (⟨s, k, x, y, v, b, wt, tick⟩, 0) by rw [E.out, z, Int.mul_zero, Int.add_zero])
                clear E
                go_enter Tryz.func27, Tryz.ntmps27
                go_wp2_with fail
                refine (C.out _).mono ?_
                rintro e w1 ⟨rfl, hb⟩
                obtain ⟨⟨c0, c1, c2, c3, c4, c5, c6, c7⟩, f0, f1, f2, f3, f4, f5, f6, f7⟩ := (blk8_new w s k x y v b wt tick _ _).1.keep hb (by simp; omega)
                obtain ⟨⟨d0, d1, d2, d3, d4, d5, d6, d7⟩, e0, e1, e2, e3, e4, e5, e6, e7⟩ := (blk8_new w s k x y v b wt tick _ _).2.keep hb (by simp)
                have hz : w.heap.size + 1 < w1.heap.size := by have := hb.size; simp at this; omega
                have hz' : w.heap.size < w1.heap.size := by omega
                have HB := Lib.hid (below_2box hb)
                clear hb
                go_wp2_with (go_at_call 26; refine (from_any _ _ _ _).mono ?_; rintro e w' ⟨rfl, rfl⟩)
                exact bodyPost_ret (v := .tuple #[.agg #[.int .i64 s, .int .u8 k, .int .i64 x, .int .i64 y, .int .i64 v, .int .i64 (b), .int .i64 wt, .int .i64 tick], .int .i64 0]) (by simp [results, Tryz.results27, go_sem, d0, d1, d2, d3, d4, d5, d6, d7]) rfl ⟨by rw [E2.out]; rfl, by repeat (first | with_reducible exact HB.out | with_reducible refine Below.setCell ?_ (by simp) _)⟩
              · have g6 : (tick - t == 0) = false := by simpa using h6
                have g6' : (tick - t != 0) = true := by simpa using h6
                have g6'' : decide (0 < tick - t) = true := by simp; omega
                have g7 : decide (t < tick) = true := by simp; omega
                clear h6
                go_enter Tryz.func27, Tryz.ntmps27
                go_wp2_with fail
                refine (C.out _).mono ?_
                rintro e w1 ⟨rfl, hb⟩
                obtain ⟨⟨c0, c1, c2, c3, c4, c5, c6, c7⟩, f0, f1, f2, f3, f4, f5, f6, f7⟩ := (blk8_new w s k x y v b wt t _ _).1.keep hb (by simp; omega)
                obtain ⟨⟨d0, d1, d2, d3, d4, d5, d6, d7⟩, e0, e1, e2, e3, e4, e5, e6, e7⟩ := (blk8_new w s k x y v b wt t _ _).2.keep hb (by simp)
                have hz : w.heap.size + 1 < w1.heap.size := by have := hb.size; simp at this; omega
                have hz' : w.heap.size < w1.heap.size := by omega
                have HB := Lib.hid (below_2box hb)
                clear hb
                go_wp2_with (go_at_call 26; refine (from_any _ _ _ _).mono ?_; rintro e w' ⟨rfl, rfl⟩)
                exact bodyPost_ret (v := .tuple #[.agg #[.int .i64 s, .int .u8 k, .int .i64 x, .int .i64 y, .int .i64 v, .int .i64 (b + speed * (tick - t)), .int .i64 wt, .int .i64 tick], .int .i64 0]) (by simp [results, Tryz.results27, go_sem, d0, d1, d2, d3, d4, d5, d6, d7]) rfl ⟨by rw [E.out]; rfl, by repeat (first | with_reducible exact HB.out | with_reducible refine Below.setCell ?_ (by simp) _)⟩
            · have E := Lib.hid (show agedF s k x y v b wt t tick speed = (rp0, 2) by unfold agedF; rw [if_pos h1, h2, h3, if_pos (by rfl), if_pos h4, if_neg hk, if_neg h5])
              have g5 : decide (600000 < b + speed * (tick - t)) = true := by simp; omega
              clear h1 h5 hk
              by_cases h6 : tick - t = 0
              · obtain rfl : tick = t := by omega
                clear h6
                have z : tick - tick = 0 := Int.sub_self _
                have z1 : fromB 0 0 20 = true := by decide
                rw [z, Int.mul_zero, Int.add_zero] at g5
                go_enter Tryz.func27, Tryz.ntmps27
                go_wp2_with fail
                refine (C.out _).mono ?_
                rintro e w1 ⟨rfl, hb⟩
                obtain ⟨⟨c0, c1, c2, c3, c4, c5, c6, c7⟩, f0, f1, f2, f3, f4, f5, f6, f7⟩ := (blk8_new w s k x y v b wt tick _ _).1.keep hb (by simp; omega)
                obtain ⟨⟨d0, d1, d2, d3, d4, d5, d6, d7⟩, e0, e1, e2, e3, e4, e5, e6, e7⟩ := (blk8_new w s k x y v b wt tick _ _).2.keep hb (by simp)
                have hz : w.heap.size + 1 < w1.heap.size := by have := hb.size; simp at this; omega
                have hz' : w.heap.size < w1.heap.size := by omega
                have HB := Lib.hid (below_2box hb)
                clear hb
                go_wp2_with (go_at_call 26; refine (from_any _ _ _ _).mono ?_; rintro e w' ⟨rfl, rfl⟩)
                exact bodyPost_ret (v := .tuple #[.agg #[.int .i64 0, .int .u8 0, .int .i64 0, .int .i64 0, .int .i64 0, .int .i64 0, .int .i64 0, .int .i64 0], .int .i64 2]) (by simp [results, Tryz.results27, go_sem, d0, d1, d2, d3, d4, d5, d6, d7]) rfl ⟨by rw [E.out]; rfl, by repeat (first | with_reducible exact HB.out | with_reducible refine Below.setCell ?_ (by simp) _)⟩
              · have g6 : (tick - t == 0) = false := by simpa using h6
                have g6' : (tick - t != 0) = true := by simpa using h6
                have g6'' : decide (0 < tick - t) = true := by simp; omega
                have g7 : decide (t < tick) = true := by simp; omega
                clear h6
                go_enter Tryz.func27, Tryz.ntmps27
                go_wp2_with fail
                refine (C.out _).mono ?_
                rintro e w1 ⟨rfl, hb⟩
                obtain ⟨⟨c0, c1, c2, c3, c4, c5, c6, c7⟩, f0, f1, f2, f3, f4, f5, f6, f7⟩ := (blk8_new w s k x y v b wt t _ _).1.keep hb (by simp; omega)
                obtain ⟨⟨d0, d1, d2, d3, d4, d5, d6, d7⟩, e0, e1, e2, e3, e4, e5, e6, e7⟩ := (blk8_new w s k x y v b wt t _ _).2.keep hb (by simp)
                have hz : w.heap.size + 1 < w1.heap.size := by have := hb.size; simp at this; omega
                have hz' : w.heap.size < w1.heap.size := by omega
                have HB := Lib.hid (below_2box hb)
                clear hb
                go_wp2_with (go_at_call 26; refine (from_any _ _ _ _).mono ?_; rintro e w' ⟨rfl, rfl⟩)
                exact bodyPost_ret (v := .tuple #[.agg #[.int .i64 0, .int .u8 0, .int .i64 0, .int .i64 0, .int .i64 0, .int .i64 0, .int .i64 0, .int .i64 0], .int .i64 2]) (by simp [results, Tryz.results27, go_sem, d0, d1, d2, d3, d4, d5, d6, d7]) rfl ⟨by rw [E.out]; rfl, by repeat (first | with_reducible exact HB.out | with_reducible refine Below.setCell ?_ (by simp) _)⟩
  · have E := Lib.hid (show agedF s k x y v b wt t tick speed = (rp0, checkI s k x y v b wt t) by unfold agedF; rw [if_neg h1])
    have g1 : (checkI s k x y v b wt t == 0) = false := by simpa using h1
    have g1' : (checkI s k x y v b wt t != 0) = true := by simpa using h1
    clear h1
    generalize checkI s k x y v b wt t = en at *
    have C := Lib.hid C0
    clear C0
    go_enter Tryz.func27, Tryz.ntmps27
    go_wp2_with fail
    refine (C.out _).mono ?_
    rintro e w1 ⟨rfl, hb⟩
    obtain ⟨⟨c0, c1, c2, c3, c4, c5, c6, c7⟩, f0, f1, f2, f3, f4, f5, f6, f7⟩ := (blk8_new w s k x y v b wt t _ _).1.keep hb (by simp; omega)
    obtain ⟨⟨d0, d1, d2, d3, d4, d5, d6, d7⟩, e0, e1, e2, e3, e4, e5, e6, e7⟩ := (blk8_new w s k x y v b wt t _ _).2.keep hb (by simp)
    have hz : w.heap.size + 1 < w1.heap.size := by have := hb.size; simp at this; omega
    have hz' : w.heap.size < w1.heap.size := by omega
    have HB := Lib.hid (below_2box hb)
    clear hb
    go_wp2_with (go_at_call 26; refine (from_any _ _ _ _).mono ?_; rintro e w' ⟨rfl, rfl⟩)
    exact bodyPost_ret (v := .tuple #[.agg #[.int .i64 0, .int .u8 0, .int .i64 0, .int .i64 0, .int .i64 0, .int .i64 0, .int .i64 0, .int .i64 0], .int .i64 en]) (by simp [results, Tryz.results27, go_sem, d0, d1, d2, d3, d4, d5, d6, d7]) rfl ⟨by rw [E.out]; rfl, by repeat (first | with_reducible exact HB.out | with_reducible refine Below.setCell ?_ (by simp) _)⟩
end Go.Proofs.YtidelghgjibndaaGreat.S41
