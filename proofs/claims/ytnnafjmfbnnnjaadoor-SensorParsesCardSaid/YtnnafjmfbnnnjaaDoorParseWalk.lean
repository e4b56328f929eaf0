/-
  The walk of sensor.Parse.
-/
import Derived.Test.YtnnafjmfbnnnjaaDoorParsePlain
import Derived.Test.YtnnafjmfbnnnjaaDoorSensorThree
namespace Go.Proofs.YtnnafjmfbnnnjaaDoor
set_option linter.unusedVariables false
open Go.RowKit Tr Sq

def RetP (r : Rp × Int) (w : World) (e : Ending) (w' : World) : Prop := e = .returned (.tuple #[repV r.1, .int .i64 r.2]) ∧ Below w.heap.size w w'
/-- an array of eight numbers, which may be written -/
def Arr8 (w : World) (h : Nat) (v0 v1 v2 v3 v4 v5 v6 v7 : Int) : Prop := (w.cell? ⟨h, 0, none⟩ = some (.int .i64 v0) ∧ w.cell? ⟨h, 1, none⟩ = some (.int .i64 v1) ∧ w.cell? ⟨h, 2, none⟩ = some (.int .i64 v2) ∧ w.cell? ⟨h, 3, none⟩ = some (.int .i64 v3) ∧ w.cell? ⟨h, 4, none⟩ = some (.int .i64 v4) ∧ w.cell? ⟨h, 5, none⟩ = some (.int .i64 v5) ∧ w.cell? ⟨h, 6, none⟩ = some (.int .i64 v6) ∧ w.cell? ⟨h, 7, none⟩ = some (.int .i64 v7)) ∧ w.frozen? ⟨h, 0, none⟩ = false ∧ w.frozen? ⟨h, 1, none⟩ = false ∧ w.frozen? ⟨h, 2, none⟩ = false ∧ w.frozen? ⟨h, 3, none⟩ = false ∧ w.frozen? ⟨h, 4, none⟩ = false ∧ w.frozen? ⟨h, 5, none⟩ = false ∧ w.frozen? ⟨h, 6, none⟩ = false ∧ w.frozen? ⟨h, 7, none⟩ = false
theorem Arr8.keep {w w' : World} {h B : Nat} {v0 v1 v2 v3 v4 v5 v6 v7 : Int} (hr : Arr8 w h v0 v1 v2 v3 v4 v5 v6 v7) (hb : Below B w w') (hl : h < B) : Arr8 w' h v0 v1 v2 v3 v4 v5 v6 v7 := by
  obtain ⟨⟨c0, c1, c2, c3, c4, c5, c6, c7⟩, f0, f1, f2, f3, f4, f5, f6, f7⟩ := hr
  exact ⟨⟨(hb.cell (p := ⟨h, 0, none⟩) hl).trans c0, (hb.cell (p := ⟨h, 1, none⟩) hl).trans c1, (hb.cell (p := ⟨h, 2, none⟩) hl).trans c2, (hb.cell (p := ⟨h, 3, none⟩) hl).trans c3, (hb.cell (p := ⟨h, 4, none⟩) hl).trans c4, (hb.cell (p := ⟨h, 5, none⟩) hl).trans c5, (hb.cell (p := ⟨h, 6, none⟩) hl).trans c6, (hb.cell (p := ⟨h, 7, none⟩) hl).trans c7⟩, (hb.frozen (p := ⟨h, 0, none⟩) hl).trans f0, (hb.frozen (p := ⟨h, 1, none⟩) hl).trans f1, (hb.frozen (p := ⟨h, 2, none⟩) hl).trans f2, (hb.frozen (p := ⟨h, 3, none⟩) hl).trans f3, (hb.frozen (p := ⟨h, 4, none⟩) hl).trans f4, (hb.frozen (p := ⟨h, 5, none⟩) hl).trans f5, (hb.frozen (p := ⟨h, 6, none⟩) hl).trans f6, (hb.frozen (p := ⟨h, 7, none⟩) hl).trans f7⟩
theorem arr8_new (w : World) (T : TypeId) : Arr8 (w.alloc (.cells #[.int .i64 0, .int .i64 0, .int .i64 0, .int .i64 0, .int .i64 0, .int .i64 0, .int .i64 0, .int .i64 0] T)) w.heap.size 0 0 0 0 0 0 0 0 := by
  unfold Arr8; refine ⟨⟨?_, ?_, ?_, ?_, ?_, ?_, ?_, ?_⟩, ?_, ?_, ?_, ?_, ?_, ?_, ?_, ?_⟩ <;> go_simp
theorem blk8_one (w : World) (s k x y v b wt t : Int) (T : TypeId) : Blk8 (w.alloc (.cells #[.int .i64 s, .int .u8 k, .int .i64 x, .int .i64 y, .int .i64 v, .int .i64 b, .int .i64 wt, .int .i64 t] T)) w.heap.size s k x y v b wt t := by
  unfold Blk8; refine ⟨⟨?_, ?_, ?_, ?_, ?_, ?_, ?_, ?_⟩, ?_, ?_, ?_, ?_, ?_, ?_, ?_, ?_⟩ <;> go_simp
theorem split_any (s : ByteArray) (w : World) (hE : Env w) (hs : s.size ≤ 1000) (L : List ByteArray) (hL : Lib.splitB ⟨#[32]⟩ 0 (Lib.countB s ⟨#[32]⟩) s = L) :
    Calls Tryd.prog 62 #[.string s, .string ⟨#[32]⟩] w fun e w' => e = .returned (.slice (some ⟨w.heap.size, 0, none⟩) L.length L.length) ∧ w' = w.alloc (.cells (L.map Value.string).toArray 9) := by
  obtain ⟨m, hm⟩ := hE.len
  refine (Tryd.strings_Split s ⟨#[32]⟩ m w (by omega) hm (by decide)).mono fun e w' ⟨he, hw⟩ => ?_
  have hl := (splitB_fields s).2
  rw [hL] at hl hw
  rw [← hl] at he
  exact ⟨he, hw⟩
theorem index_kind (c : UInt8) (w : World) : Calls Tryd.prog 63 #[.string ⟨#[80, 82, 66]⟩, .string ⟨#[c]⟩] w fun e w' => e = .returned (.int .i64 (kindC c - 1)) ∧ w = w' :=
  (Tryd.strings_Index_one ⟨#[80, 82, 66]⟩ c w).mono fun e w' ⟨he, hw⟩ => ⟨by rw [he, ← idx_kind], hw.symm⟩
theorem one_of (f : ByteArray) (h : f.size = 1) : ∃ c, f = ⟨#[c]⟩ := Lib.one_byte f h
set_option maxHeartbeats 2000000 in
set_option maxRecDepth 100000 in
theorem parse_len (s : ByteArray) (w : World) (hE : Env w) (hs : s.size ≤ 1000) (h : (fieldsL s.data.toList).length ≠ 8) :
    Calls Tryd.prog 29 #[.string s] w (RetP (parse41 s.data.toList) w) := by
  have E := Lib.hid (show parse41 s.data.toList = (rp0, 4) from pF_len h)
  obtain ⟨L, hL⟩ : ∃ L, Lib.splitB ⟨#[32]⟩ 0 (Lib.countB s ⟨#[32]⟩) s = L := ⟨_, rfl⟩
  have hF := (splitB_fields s).1
  rw [hL] at hF
  have hn : L.length ≠ 8 := by rw [← hF, List.length_map] at h; exact h
  have SP := Lib.hid (fun w hE => split_any s w hE hs L hL)
  have HE := Lib.hid hE
  clear hL hF h hE
  obtain ⟨n, hn'⟩ : ∃ n, L.length = n := ⟨_, rfl⟩
  rw [hn'] at SP hn
  have g1 : ((n : Int) == 8) = false := by simp; omega
  have g2 : ((n : Int) != 8) = true := by simp; omega
  clear hn hn'
  go_enter Tryd.func29, Tryd.ntmps29
  go_wp2_with fail
  refine (SP.out _ (HE.out.below ((Below.refl _ _).alloc (Nat.le_refl _) _))).mono ?_
  rintro e w2 ⟨rfl, hw2⟩
  have D := (blk8_one w 0 0 0 0 0 0 0 0 26).keep (show Below (w.alloc (.cells #[.int .i64 0, .int .u8 0, .int .i64 0, .int .i64 0, .int .i64 0, .int .i64 0, .int .i64 0, .int .i64 0] 26)).heap.size (w.alloc (.cells #[.int .i64 0, .int .u8 0, .int .i64 0, .int .i64 0, .int .i64 0, .int .i64 0, .int .i64 0, .int .i64 0] 26)) w2 by rw [hw2]; exact (Below.refl _ _).alloc (Nat.le_refl _) _) (by simp)
  have HB := Lib.hid (show Below w.heap.size w w2 by rw [hw2]; exact ((Below.refl _ _).alloc (Nat.le_refl _) _).alloc (by simp) _)
  clear hw2
  obtain ⟨⟨d0, d1, d2, d3, d4, d5, d6, d7⟩, e0, e1, e2, e3, e4, e5, e6, e7⟩ := D
  go_wp2
  exact bodyPost_ret (v := .tuple #[.agg #[.int .i64 0, .int .u8 0, .int .i64 0, .int .i64 0, .int .i64 0, .int .i64 0, .int .i64 0, .int .i64 0], .int .i64 4]) (by simp [results, Tryd.results29, go_sem, d0, d1, d2, d3, d4, d5, d6, d7]) rfl ⟨by rw [E.out]; rfl, by repeat (first | with_reducible exact HB.out | with_reducible refine Below.setCell ?_ (by simp) _)⟩
def PaR (w2 : World) (g : Nat) (o0 o2 o3 o4 o5 o6 o7 : Bool) (x0 x2 x3 x4 x5 x6 x7 : Int) (i : Value) (w' : World) : Prop := (i = .int .i64 0 ∧ (True) ∧ Arr8 w' g 0 0 0 0 0 0 0 0 ∧ Below g w2 w') ∨ (i = .int .i64 1 ∧ (o0 = true) ∧ Arr8 w' g x0 0 0 0 0 0 0 0 ∧ Below g w2 w') ∨ (i = .int .i64 2 ∧ (o0 = true) ∧ Arr8 w' g x0 0 0 0 0 0 0 0 ∧ Below g w2 w') ∨ (i = .int .i64 3 ∧ (o0 = true ∧ o2 = true) ∧ Arr8 w' g x0 0 x2 0 0 0 0 0 ∧ Below g w2 w') ∨ (i = .int .i64 4 ∧ (o0 = true ∧ o2 = true ∧ o3 = true) ∧ Arr8 w' g x0 0 x2 x3 0 0 0 0 ∧ Below g w2 w') ∨ (i = .int .i64 5 ∧ (o0 = true ∧ o2 = true ∧ o3 = true ∧ o4 = true) ∧ Arr8 w' g x0 0 x2 x3 x4 0 0 0 ∧ Below g w2 w') ∨ (i = .int .i64 6 ∧ (o0 = true ∧ o2 = true ∧ o3 = true ∧ o4 = true ∧ o5 = true) ∧ Arr8 w' g x0 0 x2 x3 x4 x5 0 0 ∧ Below g w2 w') ∨ (i = .int .i64 7 ∧ (o0 = true ∧ o2 = true ∧ o3 = true ∧ o4 = true ∧ o5 = true ∧ o6 = true) ∧ Arr8 w' g x0 0 x2 x3 x4 x5 x6 0 ∧ Below g w2 w') ∨ (i = .int .i64 8 ∧ (o0 = true ∧ o2 = true ∧ o3 = true ∧ o4 = true ∧ o5 = true ∧ o6 = true ∧ o7 = true) ∧ Arr8 w' g x0 0 x2 x3 x4 x5 x6 x7 ∧ Below g w2 w')
set_option maxHeartbeats 4000000 in
set_option maxRecDepth 100000 in
theorem parse_eight (s g0 g1 g2 g3 g4 g5 g6 g7 : ByteArray) (w : World) (hE : Env w) (hs : s.size ≤ 1000) (hL : Lib.splitB ⟨#[32]⟩ 0 (Lib.countB s ⟨#[32]⟩) s = [g0, g1, g2, g3, g4, g5, g6, g7])
    (hsz : g0.size ≤ 4294967280 ∧ g2.size ≤ 4294967280 ∧ g3.size ≤ 4294967280 ∧ g4.size ≤ 4294967280 ∧ g5.size ≤ 4294967280 ∧ g6.size ≤ 4294967280 ∧ g7.size ≤ 4294967280) :
    Calls Tryd.prog 29 #[.string s] w (RetP (parse41 s.data.toList) w) := by
  have hF := (splitB_fields s).1
  rw [hL] at hF
  have hP : parse41 s.data.toList = pF [g0.data.toList, g1.data.toList, g2.data.toList, g3.data.toList, g4.data.toList, g5.data.toList, g6.data.toList, g7.data.toList] := by
    unfold parse41; rw [← hF]; rfl
  have SP := Lib.hid (fun w hE => split_any s w hE hs [g0, g1, g2, g3, g4, g5, g6, g7] hL)
  have HE := Lib.hid hE
  clear hF hL hE
  obtain ⟨z0, z2, z3, z4, z5, z6, z7⟩ := hsz
  by_cases h1 : g1.size = 1
  · obtain ⟨c, rfl⟩ := one_of g1 h1
    have hP2 : parse41 s.data.toList = pK c g0.data.toList g2.data.toList g3.data.toList g4.data.toList g5.data.toList g6.data.toList g7.data.toList := hP
    have IK := fun w => index_kind c w
    obtain ⟨k0, k3⟩ := kindC_bd c
    unfold pK at hP2
    clear hP h1
    by_cases hk : kindC c = 0
    · have E := Lib.hid (show parse41 s.data.toList = (rp0, 4) by rw [hP2, if_pos hk])
      rw [hk] at IK
      have IH := Lib.hid IK
      clear hP2 hk IK k0 k3
      go_enter Tryd.func29, Tryd.ntmps29
      go_wp2_with fail
      refine (SP.out _ (HE.out.below ((Below.refl _ _).alloc (Nat.le_refl _) _))).mono ?_
      rintro e w2 ⟨rfl, hw2⟩
      have D := (blk8_one w 0 0 0 0 0 0 0 0 26).keep (show Below (w.alloc (.cells #[.int .i64 0, .int .u8 0, .int .i64 0, .int .i64 0, .int .i64 0, .int .i64 0, .int .i64 0, .int .i64 0] 26)).heap.size (w.alloc (.cells #[.int .i64 0, .int .u8 0, .int .i64 0, .int .i64 0, .int .i64 0, .int .i64 0, .int .i64 0, .int .i64 0] 26)) w2 by rw [hw2]; exact (Below.refl _ _).alloc (Nat.le_refl _) _) (by simp)
      have HB := Lib.hid (show Below w.heap.size w w2 by rw [hw2]; exact ((Below.refl _ _).alloc (Nat.le_refl _) _).alloc (by simp) _)
      have hz : w.heap.size + 1 < w2.heap.size := by rw [hw2]; simp
      have s0 : w2.cell? ⟨w.heap.size + 1, 0, none⟩ = some (.string g0) := by rw [hw2]; rw [World.cell?_alloc_at _ _ _ _ (by simp)]; rfl
      have s1 : w2.cell? ⟨w.heap.size + 1, 1, none⟩ = some (.string ⟨#[c]⟩) := by rw [hw2]; rw [World.cell?_alloc_at _ _ _ _ (by simp)]; rfl
      have s2 : w2.cell? ⟨w.heap.size + 1, 2, none⟩ = some (.string g2) := by rw [hw2]; rw [World.cell?_alloc_at _ _ _ _ (by simp)]; rfl
      have s3 : w2.cell? ⟨w.heap.size + 1, 3, none⟩ = some (.string g3) := by rw [hw2]; rw [World.cell?_alloc_at _ _ _ _ (by simp)]; rfl
      have s4 : w2.cell? ⟨w.heap.size + 1, 4, none⟩ = some (.string g4) := by rw [hw2]; rw [World.cell?_alloc_at _ _ _ _ (by simp)]; rfl
      have s5 : w2.cell? ⟨w.heap.size + 1, 5, none⟩ = some (.string g5) := by rw [hw2]; rw [World.cell?_alloc_at _ _ _ _ (by simp)]; rfl
      have s6 : w2.cell? ⟨w.heap.size + 1, 6, none⟩ = some (.string g6) := by rw [hw2]; rw [World.cell?_alloc_at _ _ _ _ (by simp)]; rfl
      have s7 : w2.cell? ⟨w.heap.size + 1, 7, none⟩ = some (.string g7) := by rw [hw2]; rw [World.cell?_alloc_at _ _ _ _ (by simp)]; rfl
      clear hw2
      obtain ⟨⟨d0, d1, d2, d3, d4, d5, d6, d7⟩, e0, e1, e2, e3, e4, e5, e6, e7⟩ := D
      go_wp2_with fail
      refine (IH.out _).mono ?_
      rintro e w3 ⟨rfl, rfl⟩
      go_wp2
      exact bodyPost_ret (v := .tuple #[.agg #[.int .i64 0, .int .u8 0, .int .i64 0, .int .i64 0, .int .i64 0, .int .i64 0, .int .i64 0, .int .i64 0], .int .i64 4]) (by simp [results, Tryd.results29, go_sem, d0, d1, d2, d3, d4, d5, d6, d7]) rfl ⟨by rw [E.out]; rfl, by repeat (first | with_reducible exact HB.out | with_reducible refine Below.setCell ?_ (by simp) _)⟩
    · rw [if_neg hk] at hP2
      generalize kindC c = K at *
      have IH := Lib.hid IK
      have hK1 : 1 ≤ K := by omega
      clear IK hk k0
      have e1 : IntKind.u8.wrap K = K := by simp [IntKind.wrap, IntKind.bits, IntKind.signed]; omega
      have N0 := Lib.hid (fun w => number_any g0 w z0)
      have nb0 := numF_bd g0.data.toList
      have N2 := Lib.hid (fun w => number_any g2 w z2)
      have nb2 := numF_bd g2.data.toList
      have N3 := Lib.hid (fun w => number_any g3 w z3)
      have nb3 := numF_bd g3.data.toList
      have N4 := Lib.hid (fun w => number_any g4 w z4)
      have nb4 := numF_bd g4.data.toList
      have N5 := Lib.hid (fun w => number_any g5 w z5)
      have nb5 := numF_bd g5.data.toList
      have N6 := Lib.hid (fun w => number_any g6 w z6)
      have nb6 := numF_bd g6.data.toList
      have N7 := Lib.hid (fun w => number_any g7 w z7)
      have nb7 := numF_bd g7.data.toList
      unfold okNums at hP2
      generalize numF g0.data.toList = p0 at *
      obtain ⟨x0, o0⟩ := p0
      generalize numF g2.data.toList = p2 at *
      obtain ⟨x2, o2⟩ := p2
      generalize numF g3.data.toList = p3 at *
      obtain ⟨x3, o3⟩ := p3
      generalize numF g4.data.toList = p4 at *
      obtain ⟨x4, o4⟩ := p4
      generalize numF g5.data.toList = p5 at *
      obtain ⟨x5, o5⟩ := p5
      generalize numF g6.data.toList = p6 at *
      obtain ⟨x6, o6⟩ := p6
      generalize numF g7.data.toList = p7 at *
      obtain ⟨x7, o7⟩ := p7
      simp only at nb0 nb2 nb3 nb4 nb5 nb6 nb7 hP2
      obtain ⟨m0, M0⟩ := nb0
      obtain ⟨m2, M2⟩ := nb2
      obtain ⟨m3, M3⟩ := nb3
      obtain ⟨m4, M4⟩ := nb4
      obtain ⟨m5, M5⟩ := nb5
      obtain ⟨m6, M6⟩ := nb6
      obtain ⟨m7, M7⟩ := nb7
      have BAD := Lib.hid (fun h : (o0 && o2 && o3 && o4 && o5 && o6 && o7) = false => show parse41 s.data.toList = (rp0, 4) by rw [hP2, if_neg (by rw [h]; decide)])
      have GOOD := Lib.hid (fun h : (o0 && o2 && o3 && o4 && o5 && o6 && o7) = true => show parse41 s.data.toList = checkedF ⟨x0, K, x2, x3, x4, x5, x6, x7⟩ by rw [hP2, if_pos h])
      clear hP2
      go_enter Tryd.func29, Tryd.ntmps29
      go_wp2_with fail
      refine (SP.out _ (HE.out.below ((Below.refl _ _).alloc (Nat.le_refl _) _))).mono ?_
      rintro e w2 ⟨rfl, hw2⟩
      have D := (blk8_one w 0 0 0 0 0 0 0 0 26).keep (show Below (w.alloc (.cells #[.int .i64 0, .int .u8 0, .int .i64 0, .int .i64 0, .int .i64 0, .int .i64 0, .int .i64 0, .int .i64 0] 26)).heap.size (w.alloc (.cells #[.int .i64 0, .int .u8 0, .int .i64 0, .int .i64 0, .int .i64 0, .int .i64 0, .int .i64 0, .int .i64 0] 26)) w2 by rw [hw2]; exact (Below.refl _ _).alloc (Nat.le_refl _) _) (by simp)
      have HB := Lib.hid (show Below w.heap.size w w2 by rw [hw2]; exact ((Below.refl _ _).alloc (Nat.le_refl _) _).alloc (by simp) _)
      have hz : w.heap.size + 1 < w2.heap.size := by rw [hw2]; simp
      have s0 : w2.cell? ⟨w.heap.size + 1, 0, none⟩ = some (.string g0) := by rw [hw2]; rw [World.cell?_alloc_at _ _ _ _ (by simp)]; rfl
      have s1 : w2.cell? ⟨w.heap.size + 1, 1, none⟩ = some (.string ⟨#[c]⟩) := by rw [hw2]; rw [World.cell?_alloc_at _ _ _ _ (by simp)]; rfl
      have s2 : w2.cell? ⟨w.heap.size + 1, 2, none⟩ = some (.string g2) := by rw [hw2]; rw [World.cell?_alloc_at _ _ _ _ (by simp)]; rfl
      have s3 : w2.cell? ⟨w.heap.size + 1, 3, none⟩ = some (.string g3) := by rw [hw2]; rw [World.cell?_alloc_at _ _ _ _ (by simp)]; rfl
      have s4 : w2.cell? ⟨w.heap.size + 1, 4, none⟩ = some (.string g4) := by rw [hw2]; rw [World.cell?_alloc_at _ _ _ _ (by simp)]; rfl
      have s5 : w2.cell? ⟨w.heap.size + 1, 5, none⟩ = some (.string g5) := by rw [hw2]; rw [World.cell?_alloc_at _ _ _ _ (by simp)]; rfl
      have s6 : w2.cell? ⟨w.heap.size + 1, 6, none⟩ = some (.string g6) := by rw [hw2]; rw [World.cell?_alloc_at _ _ _ _ (by simp)]; rfl
      have s7 : w2.cell? ⟨w.heap.size + 1, 7, none⟩ = some (.string g7) := by rw [hw2]; rw [World.cell?_alloc_at _ _ _ _ (by simp)]; rfl
      clear hw2
      have HD := Lib.hid D
      clear D
      go_wp2_with fail
      refine (IH.out _).mono ?_
      rintro e w3 ⟨rfl, rfl⟩
      go_wp2
      have A0 := arr8_new w2 72
      have hb3 : Below w2.heap.size w2 (w2.alloc (.cells #[.int .i64 0, .int .i64 0, .int .i64 0, .int .i64 0, .int .i64 0, .int .i64 0, .int .i64 0, .int .i64 0] 72)) := (Below.refl _ _).alloc (Nat.le_refl _) _
      generalize hg : w2.heap.size = g at *
      clear hg
      go_loopw [35] (PaR w2 g o0 o2 o3 o4 o5 o6 o7 x0 x2 x3 x4 x5 x6 x7) (fun i _ => 8 - (intOf i).toNat)
      case atStart => exact .inl ⟨rfl, trivial, A0, hb3⟩
      case round =>
        have hg0 : w.heap.size < g := by omega
        have hg1 : w.heap.size + 1 < g := hz
        clear A0 hb3
        rcases hrel with ⟨rfl, hok, ha, hbw⟩ | ⟨rfl, hok, ha, hbw⟩ | ⟨rfl, hok, ha, hbw⟩ | ⟨rfl, hok, ha, hbw⟩ | ⟨rfl, hok, ha, hbw⟩ | ⟨rfl, hok, ha, hbw⟩ | ⟨rfl, hok, ha, hbw⟩ | ⟨rfl, hok, ha, hbw⟩ | ⟨rfl, hok, ha, hbw⟩
        · have HBW := Lib.hid (HB.out.trans (hbw.mono (by omega)))
          have HBg := Lib.hid hbw
          have D := HD.out.keep hbw hg0
          have sj := (hbw.cell (p := ⟨w.heap.size + 1, 0, none⟩) hg1).trans s0
          have HA := Lib.hid ha
          have hzw : g < wr.heap.size := World.block_lt_of_cell? _ _ ha.1.1
          have HOK := Lib.hid hok
          clear hbw ha hok
          cases o0 with
          | false =>
            have E := Lib.hid (BAD.out (by simp))
            obtain ⟨⟨d0, d1, d2, d3, d4, d5, d6, d7⟩, e0, e1, e2, e3, e4, e5, e6, e7⟩ := D
            go_wp2_with fail
            refine (N0.out _).mono ?_
            rintro e w5 ⟨rfl, rfl⟩
            go_wp2
            exact bodyPost_ret (v := .tuple #[.agg #[.int .i64 0, .int .u8 0, .int .i64 0, .int .i64 0, .int .i64 0, .int .i64 0, .int .i64 0, .int .i64 0], .int .i64 4]) (by simp [results, Tryd.results29, go_sem, d0, d1, d2, d3, d4, d5, d6, d7]) rfl ⟨by rw [E.out]; rfl, by repeat (first | with_reducible exact HBW.out | with_reducible refine Below.setCell ?_ (by simp) _)⟩
          | true =>
            obtain ⟨⟨c0, c1, c2, c3, c4, c5, c6, c7⟩, f0, f1, f2, f3, f4, f5, f6, f7⟩ := HA.out
            go_wp2_with fail
            refine (N0.out _).mono ?_
            rintro e w5 ⟨rfl, rfl⟩
            go_wp2
            go_roundw
            case rel => exact .inr (.inl ⟨by go_num, rfl, (by unfold Arr8; refine ⟨⟨?_, ?_, ?_, ?_, ?_, ?_, ?_, ?_⟩, ?_, ?_, ?_, ?_, ?_, ?_, ?_, ?_⟩ <;> go_simp), HBg.out.setCell (p := ⟨g, 0, none⟩) (Nat.le_refl _) _⟩)
            case measure => simp [intOf]
        · have HBW := Lib.hid (HB.out.trans (hbw.mono (by omega)))
          have HBg := Lib.hid hbw
          clear hbw
          have sj := (HBg.out.cell (p := ⟨w.heap.size + 1, 1, none⟩) hg1).trans s1
          go_wp2
          go_roundw
          case rel => exact .inr (.inr (.inl ⟨by go_num, hok, ha, HBg.out⟩))
          case measure => simp [intOf]
        · have HBW := Lib.hid (HB.out.trans (hbw.mono (by omega)))
          have HBg := Lib.hid hbw
          have D := HD.out.keep hbw hg0
          have sj := (hbw.cell (p := ⟨w.heap.size + 1, 2, none⟩) hg1).trans s2
          have HA := Lib.hid ha
          have hzw : g < wr.heap.size := World.block_lt_of_cell? _ _ ha.1.1
          have HOK := Lib.hid hok
          clear hbw ha hok
          cases o2 with
          | false =>
            have E := Lib.hid (BAD.out (by simp))
            obtain ⟨⟨d0, d1, d2, d3, d4, d5, d6, d7⟩, e0, e1, e2, e3, e4, e5, e6, e7⟩ := D
            go_wp2_with fail
            refine (N2.out _).mono ?_
            rintro e w5 ⟨rfl, rfl⟩
            go_wp2
            exact bodyPost_ret (v := .tuple #[.agg #[.int .i64 0, .int .u8 0, .int .i64 0, .int .i64 0, .int .i64 0, .int .i64 0, .int .i64 0, .int .i64 0], .int .i64 4]) (by simp [results, Tryd.results29, go_sem, d0, d1, d2, d3, d4, d5, d6, d7]) rfl ⟨by rw [E.out]; rfl, by repeat (first | with_reducible exact HBW.out | with_reducible refine Below.setCell ?_ (by simp) _)⟩
          | true =>
            obtain ⟨⟨c0, c1, c2, c3, c4, c5, c6, c7⟩, f0, f1, f2, f3, f4, f5, f6, f7⟩ := HA.out
            go_wp2_with fail
            refine (N2.out _).mono ?_
            rintro e w5 ⟨rfl, rfl⟩
            go_wp2
            go_roundw
            case rel => exact .inr (.inr (.inr (.inl ⟨by go_num, ⟨HOK.out, rfl⟩, (by unfold Arr8; refine ⟨⟨?_, ?_, ?_, ?_, ?_, ?_, ?_, ?_⟩, ?_, ?_, ?_, ?_, ?_, ?_, ?_, ?_⟩ <;> go_simp), HBg.out.setCell (p := ⟨g, 2, none⟩) (Nat.le_refl _) _⟩)))
            case measure => simp [intOf]
        · have HBW := Lib.hid (HB.out.trans (hbw.mono (by omega)))
          have HBg := Lib.hid hbw
          have D := HD.out.keep hbw hg0
          have sj := (hbw.cell (p := ⟨w.heap.size + 1, 3, none⟩) hg1).trans s3
          have HA := Lib.hid ha
          have hzw : g < wr.heap.size := World.block_lt_of_cell? _ _ ha.1.1
          have HOK := Lib.hid hok
          clear hbw ha hok
          cases o3 with
          | false =>
            have E := Lib.hid (BAD.out (by simp))
            obtain ⟨⟨d0, d1, d2, d3, d4, d5, d6, d7⟩, e0, e1, e2, e3, e4, e5, e6, e7⟩ := D
            go_wp2_with fail
            refine (N3.out _).mono ?_
            rintro e w5 ⟨rfl, rfl⟩
            go_wp2
            exact bodyPost_ret (v := .tuple #[.agg #[.int .i64 0, .int .u8 0, .int .i64 0, .int .i64 0, .int .i64 0, .int .i64 0, .int .i64 0, .int .i64 0], .int .i64 4]) (by simp [results, Tryd.results29, go_sem, d0, d1, d2, d3, d4, d5, d6, d7]) rfl ⟨by rw [E.out]; rfl, by repeat (first | with_reducible exact HBW.out | with_reducible refine Below.setCell ?_ (by simp) _)⟩
          | true =>
            obtain ⟨⟨c0, c1, c2, c3, c4, c5, c6, c7⟩, f0, f1, f2, f3, f4, f5, f6, f7⟩ := HA.out
            go_wp2_with fail
            refine (N3.out _).mono ?_
            rintro e w5 ⟨rfl, rfl⟩
            go_wp2
            go_roundw
            case rel => exact .inr (.inr (.inr (.inr (.inl ⟨by go_num, ⟨HOK.out.1, HOK.out.2, rfl⟩, (by unfold Arr8; refine ⟨⟨?_, ?_, ?_, ?_, ?_, ?_, ?_, ?_⟩, ?_, ?_, ?_, ?_, ?_, ?_, ?_, ?_⟩ <;> go_simp), HBg.out.setCell (p := ⟨g, 3, none⟩) (Nat.le_refl _) _⟩))))
            case measure => simp [intOf]
        · have HBW := Lib.hid (HB.out.trans (hbw.mono (by omega)))
          have HBg := Lib.hid hbw
          have D := HD.out.keep hbw hg0
          have sj := (hbw.cell (p := ⟨w.heap.size + 1, 4, none⟩) hg1).trans s4
          have HA := Lib.hid ha
          have hzw : g < wr.heap.size := World.block_lt_of_cell? _ _ ha.1.1
          have HOK := Lib.hid hok
          clear hbw ha hok
          cases o4 with
          | false =>
            have E := Lib.hid (BAD.out (by simp))
            obtain ⟨⟨d0, d1, d2, d3, d4, d5, d6, d7⟩, e0, e1, e2, e3, e4, e5, e6, e7⟩ := D
            go_wp2_with fail
            refine (N4.out _).mono ?_
            rintro e w5 ⟨rfl, rfl⟩
            go_wp2
            exact bodyPost_ret (v := .tuple #[.agg #[.int .i64 0, .int .u8 0, .int .i64 0, .int .i64 0, .int .i64 0, .int .i64 0, .int .i64 0, .int .i64 0], .int .i64 4]) (by simp [results, Tryd.results29, go_sem, d0, d1, d2, d3, d4, d5, d6, d7]) rfl ⟨by rw [E.out]; rfl, by repeat (first | with_reducible exact HBW.out | with_reducible refine Below.setCell ?_ (by simp) _)⟩
          | true =>
            obtain ⟨⟨c0, c1, c2, c3, c4, c5, c6, c7⟩, f0, f1, f2, f3, f4, f5, f6, f7⟩ := HA.out
            go_wp2_with fail
            refine (N4.out _).mono ?_
            rintro e w5 ⟨rfl, rfl⟩
            go_wp2
            go_roundw
            case rel => exact .inr (.inr (.inr (.inr (.inr (.inl ⟨by go_num, ⟨HOK.out.1, HOK.out.2.1, HOK.out.2.2, rfl⟩, (by unfold Arr8; refine ⟨⟨?_, ?_, ?_, ?_, ?_, ?_, ?_, ?_⟩, ?_, ?_, ?_, ?_, ?_, ?_, ?_, ?_⟩ <;> go_simp), HBg.out.setCell (p := ⟨g, 4, none⟩) (Nat.le_refl _) _⟩)))))
            case measure => simp [intOf]
        · have HBW := Lib.hid (HB.out.trans (hbw.mono (by omega)))
          have HBg := Lib.hid hbw
          have D := HD.out.keep hbw hg0
          have sj := (hbw.cell (p := ⟨w.heap.size + 1, 5, none⟩) hg1).trans s5
          have HA := Lib.hid ha
          have hzw : g < wr.heap.size := World.block_lt_of_cell? _ _ ha.1.1
          have HOK := Lib.hid hok
          clear hbw ha hok
          cases o5 with
          | false =>
            have E := Lib.hid (BAD.out (by simp))
            obtain ⟨⟨d0, d1, d2, d3, d4, d5, d6, d7⟩, e0, e1, e2, e3, e4, e5, e6, e7⟩ := D
            go_wp2_with fail
            refine (N5.out _).mono ?_
            rintro e w5 ⟨rfl, rfl⟩
            go_wp2
            exact bodyPost_ret (v := .tuple #[.agg #[.int .i64 0, .int .u8 0, .int .i64 0, .int .i64 0, .int .i64 0, .int .i64 0, .int .i64 0, .int .i64 0], .int .i64 4]) (by simp [results, Tryd.results29, go_sem, d0, d1, d2, d3, d4, d5, d6, d7]) rfl ⟨by rw [E.out]; rfl, by repeat (first | with_reducible exact HBW.out | with_reducible refine Below.setCell ?_ (by simp) _)⟩
          | true =>
            obtain ⟨⟨c0, c1, c2, c3, c4, c5, c6, c7⟩, f0, f1, f2, f3, f4, f5, f6, f7⟩ := HA.out
            go_wp2_with fail
            refine (N5.out _).mono ?_
            rintro e w5 ⟨rfl, rfl⟩
            go_wp2
            go_roundw
            case rel => exact .inr (.inr (.inr (.inr (.inr (.inr (.inl ⟨by go_num, ⟨HOK.out.1, HOK.out.2.1, HOK.out.2.2.1, HOK.out.2.2.2, rfl⟩, (by unfold Arr8; refine ⟨⟨?_, ?_, ?_, ?_, ?_, ?_, ?_, ?_⟩, ?_, ?_, ?_, ?_, ?_, ?_, ?_, ?_⟩ <;> go_simp), HBg.out.setCell (p := ⟨g, 5, none⟩) (Nat.le_refl _) _⟩))))))
            case measure => simp [intOf]
        · have HBW := Lib.hid (HB.out.trans (hbw.mono (by omega)))
          have HBg := Lib.hid hbw
          have D := HD.out.keep hbw hg0
          have sj := (hbw.cell (p := ⟨w.heap.size + 1, 6, none⟩) hg1).trans s6
          have HA := Lib.hid ha
          have hzw : g < wr.heap.size := World.block_lt_of_cell? _ _ ha.1.1
          have HOK := Lib.hid hok
          clear hbw ha hok
          cases o6 with
          | false =>
            have E := Lib.hid (BAD.out (by simp))
            obtain ⟨⟨d0, d1, d2, d3, d4, d5, d6, d7⟩, e0, e1, e2, e3, e4, e5, e6, e7⟩ := D
            go_wp2_with fail
            refine (N6.out _).mono ?_
            rintro e w5 ⟨rfl, rfl⟩
            go_wp2
            exact bodyPost_ret (v := .tuple #[.agg #[.int .i64 0, .int .u8 0, .int .i64 0, .int .i64 0, .int .i64 0, .int .i64 0, .int .i64 0, .int .i64 0], .int .i64 4]) (by simp [results, Tryd.results29, go_sem, d0, d1, d2, d3, d4, d5, d6, d7]) rfl ⟨by rw [E.out]; rfl, by repeat (first | with_reducible exact HBW.out | with_reducible refine Below.setCell ?_ (by simp) _)⟩
          | true =>
            obtain ⟨⟨c0, c1, c2, c3, c4, c5, c6, c7⟩, f0, f1, f2, f3, f4, f5, f6, f7⟩ := HA.out
            go_wp2_with fail
            refine (N6.out _).mono ?_
            rintro e w5 ⟨rfl, rfl⟩
            go_wp2
            go_roundw
            case rel => exact .inr (.inr (.inr (.inr (.inr (.inr (.inr (.inl ⟨by go_num, ⟨HOK.out.1, HOK.out.2.1, HOK.out.2.2.1, HOK.out.2.2.2.1, HOK.out.2.2.2.2, rfl⟩, (by unfold Arr8; refine ⟨⟨?_, ?_, ?_, ?_, ?_, ?_, ?_, ?_⟩, ?_, ?_, ?_, ?_, ?_, ?_, ?_, ?_⟩ <;> go_simp), HBg.out.setCell (p := ⟨g, 6, none⟩) (Nat.le_refl _) _⟩)))))))
            case measure => simp [intOf]
        · have HBW := Lib.hid (HB.out.trans (hbw.mono (by omega)))
          have HBg := Lib.hid hbw
          have D := HD.out.keep hbw hg0
          have sj := (hbw.cell (p := ⟨w.heap.size + 1, 7, none⟩) hg1).trans s7
          have HA := Lib.hid ha
          have hzw : g < wr.heap.size := World.block_lt_of_cell? _ _ ha.1.1
          have HOK := Lib.hid hok
          clear hbw ha hok
          cases o7 with
          | false =>
            have E := Lib.hid (BAD.out (by simp))
            obtain ⟨⟨d0, d1, d2, d3, d4, d5, d6, d7⟩, e0, e1, e2, e3, e4, e5, e6, e7⟩ := D
            go_wp2_with fail
            refine (N7.out _).mono ?_
            rintro e w5 ⟨rfl, rfl⟩
            go_wp2
            exact bodyPost_ret (v := .tuple #[.agg #[.int .i64 0, .int .u8 0, .int .i64 0, .int .i64 0, .int .i64 0, .int .i64 0, .int .i64 0, .int .i64 0], .int .i64 4]) (by simp [results, Tryd.results29, go_sem, d0, d1, d2, d3, d4, d5, d6, d7]) rfl ⟨by rw [E.out]; rfl, by repeat (first | with_reducible exact HBW.out | with_reducible refine Below.setCell ?_ (by simp) _)⟩
          | true =>
            obtain ⟨⟨c0, c1, c2, c3, c4, c5, c6, c7⟩, f0, f1, f2, f3, f4, f5, f6, f7⟩ := HA.out
            go_wp2_with fail
            refine (N7.out _).mono ?_
            rintro e w5 ⟨rfl, rfl⟩
            go_wp2
            go_roundw
            case rel => exact .inr (.inr (.inr (.inr (.inr (.inr (.inr (.inr (⟨by go_num, ⟨HOK.out.1, HOK.out.2.1, HOK.out.2.2.1, HOK.out.2.2.2.1, HOK.out.2.2.2.2.1, HOK.out.2.2.2.2.2, rfl⟩, (by unfold Arr8; refine ⟨⟨?_, ?_, ?_, ?_, ?_, ?_, ?_, ?_⟩, ?_, ?_, ?_, ?_, ?_, ?_, ?_, ?_⟩ <;> go_simp), HBg.out.setCell (p := ⟨g, 7, none⟩) (Nat.le_refl _) _⟩))))))))
            case measure => simp [intOf]
        · have HBW := Lib.hid (HB.out.trans (hbw.mono (by omega)))
          have HBg := Lib.hid hbw
          have D := HD.out.keep hbw hg0
          clear hbw
          obtain ⟨k0', k2', k3', k4', k5', k6', k7'⟩ := hok
          have E := Lib.hid (GOOD.out (by rw [k0', k2', k3', k4', k5', k6', k7']; rfl))
          clear k0' k2' k3' k4' k5' k6' k7'
          obtain ⟨⟨c0, c1, c2, c3, c4, c5, c6, c7⟩, f0, f1, f2, f3, f4, f5, f6, f7⟩ := ha
          have hzw : g < wr.heap.size := World.block_lt_of_cell? _ _ c0
          unfold checkedF at E
          have CK := fun w => check_any x0 K x2 x3 x4 x5 x6 x7 w (by omega) (by omega)
          by_cases hc : checkI x0 K x2 x3 x4 x5 x6 x7 = 0
          · have E2 := Lib.hid (show parse41 s.data.toList = (⟨x0, K, x2, x3, x4, x5, x6, x7⟩, 0) by rw [E.out, if_pos hc])
            rw [hc] at CK
            have CH := Lib.hid CK
            clear CK hc E
            go_wp2_with fail
            refine (CH.out _).mono ?_
            rintro e w5 ⟨rfl, hb5⟩
            have R := (blk8_one wr x0 K x2 x3 x4 x5 x6 x7 26).keep hb5 (by simp)
            have D5 := (D.keep ((Below.refl wr.heap.size wr).alloc (Nat.le_refl _) (.cells #[.int .i64 x0, .int .u8 K, .int .i64 x2, .int .i64 x3, .int .i64 x4, .int .i64 x5, .int .i64 x6, .int .i64 x7] 26)) (by omega)).keep hb5 (by simp; omega)
            have HB5 := Lib.hid (HBW.out.trans ((below_box hb5).mono HBW.out.size))
            have hz5 : wr.heap.size < w5.heap.size := by have := hb5.size; simp at this; omega
            have hr1 : w.heap.size ≠ wr.heap.size := by omega
            clear hb5 D c0 c1 c2 c3 c4 c5 c6 c7 f0 f1 f2 f3 f4 f5 f6 f7
            obtain ⟨⟨r0, r1, r2, r3, r4, r5, r6, r7⟩, -⟩ := R
            obtain ⟨⟨d0, d1, d2, d3, d4, d5, d6, d7⟩, e0, e1, e2, e3, e4, e5, e6, e7⟩ := D5
            go_wp2
            exact bodyPost_ret (v := .tuple #[.agg #[.int .i64 x0, .int .u8 K, .int .i64 x2, .int .i64 x3, .int .i64 x4, .int .i64 x5, .int .i64 x6, .int .i64 x7], .int .i64 0]) (by simp [results, Tryd.results29, go_sem, d0, d1, d2, d3, d4, d5, d6, d7]) rfl ⟨by rw [E2.out]; rfl, by repeat (first | with_reducible exact HB5.out | with_reducible refine Below.setCell ?_ (by simp) _)⟩
          · have E2 := Lib.hid (show parse41 s.data.toList = (rp0, checkI x0 K x2 x3 x4 x5 x6 x7) by rw [E.out, if_neg hc])
            have g1 : (checkI x0 K x2 x3 x4 x5 x6 x7 == 0) = false := by simpa using hc
            have g2 : (checkI x0 K x2 x3 x4 x5 x6 x7 != 0) = true := by simpa using hc
            generalize checkI x0 K x2 x3 x4 x5 x6 x7 = en at *
            have CH := Lib.hid CK
            clear CK hc E
            go_wp2_with fail
            refine (CH.out _).mono ?_
            rintro e w5 ⟨rfl, hb5⟩
            have R := (blk8_one wr x0 K x2 x3 x4 x5 x6 x7 26).keep hb5 (by simp)
            have D5 := (D.keep ((Below.refl wr.heap.size wr).alloc (Nat.le_refl _) (.cells #[.int .i64 x0, .int .u8 K, .int .i64 x2, .int .i64 x3, .int .i64 x4, .int .i64 x5, .int .i64 x6, .int .i64 x7] 26)) (by omega)).keep hb5 (by simp; omega)
            have HB5 := Lib.hid (HBW.out.trans ((below_box hb5).mono HBW.out.size))
            have hz5 : wr.heap.size < w5.heap.size := by have := hb5.size; simp at this; omega
            have hr1 : w.heap.size ≠ wr.heap.size := by omega
            clear hb5 D c0 c1 c2 c3 c4 c5 c6 c7 f0 f1 f2 f3 f4 f5 f6 f7
            obtain ⟨⟨r0, r1, r2, r3, r4, r5, r6, r7⟩, -⟩ := R
            obtain ⟨⟨d0, d1, d2, d3, d4, d5, d6, d7⟩, e0, e1, e2, e3, e4, e5, e6, e7⟩ := D5
            go_wp2
            exact bodyPost_ret (v := .tuple #[.agg #[.int .i64 0, .int .u8 0, .int .i64 0, .int .i64 0, .int .i64 0, .int .i64 0, .int .i64 0, .int .i64 0], .int .i64 en]) (by simp [results, Tryd.results29, go_sem, d0, d1, d2, d3, d4, d5, d6, d7]) rfl ⟨by rw [E2.out]; rfl, by repeat (first | with_reducible exact HB5.out | with_reducible refine Below.setCell ?_ (by simp) _)⟩
  · have E := Lib.hid (show parse41 s.data.toList = (rp0, 4) by rw [hP]; exact pF_kind (by rw [len_data]; exact h1))
    have q1 : ((g1.size : Int) == 1) = false := by simp; omega
    have q2 : ((g1.size : Int) != 1) = true := by simp; omega
    clear hP h1
    go_enter Tryd.func29, Tryd.ntmps29
    go_wp2_with fail
    refine (SP.out _ (HE.out.below ((Below.refl _ _).alloc (Nat.le_refl _) _))).mono ?_
    rintro e w2 ⟨rfl, hw2⟩
    have D := (blk8_one w 0 0 0 0 0 0 0 0 26).keep (show Below (w.alloc (.cells #[.int .i64 0, .int .u8 0, .int .i64 0, .int .i64 0, .int .i64 0, .int .i64 0, .int .i64 0, .int .i64 0] 26)).heap.size (w.alloc (.cells #[.int .i64 0, .int .u8 0, .int .i64 0, .int .i64 0, .int .i64 0, .int .i64 0, .int .i64 0, .int .i64 0] 26)) w2 by rw [hw2]; exact (Below.refl _ _).alloc (Nat.le_refl _) _) (by simp)
    have HB := Lib.hid (show Below w.heap.size w w2 by rw [hw2]; exact ((Below.refl _ _).alloc (Nat.le_refl _) _).alloc (by simp) _)
    have hz : w.heap.size + 1 < w2.heap.size := by rw [hw2]; simp
    have s0 : w2.cell? ⟨w.heap.size + 1, 0, none⟩ = some (.string g0) := by rw [hw2]; rw [World.cell?_alloc_at _ _ _ _ (by simp)]; rfl
    have s1 : w2.cell? ⟨w.heap.size + 1, 1, none⟩ = some (.string g1) := by rw [hw2]; rw [World.cell?_alloc_at _ _ _ _ (by simp)]; rfl
    have s2 : w2.cell? ⟨w.heap.size + 1, 2, none⟩ = some (.string g2) := by rw [hw2]; rw [World.cell?_alloc_at _ _ _ _ (by simp)]; rfl
    have s3 : w2.cell? ⟨w.heap.size + 1, 3, none⟩ = some (.string g3) := by rw [hw2]; rw [World.cell?_alloc_at _ _ _ _ (by simp)]; rfl
    have s4 : w2.cell? ⟨w.heap.size + 1, 4, none⟩ = some (.string g4) := by rw [hw2]; rw [World.cell?_alloc_at _ _ _ _ (by simp)]; rfl
    have s5 : w2.cell? ⟨w.heap.size + 1, 5, none⟩ = some (.string g5) := by rw [hw2]; rw [World.cell?_alloc_at _ _ _ _ (by simp)]; rfl
    have s6 : w2.cell? ⟨w.heap.size + 1, 6, none⟩ = some (.string g6) := by rw [hw2]; rw [World.cell?_alloc_at _ _ _ _ (by simp)]; rfl
    have s7 : w2.cell? ⟨w.heap.size + 1, 7, none⟩ = some (.string g7) := by rw [hw2]; rw [World.cell?_alloc_at _ _ _ _ (by simp)]; rfl
    clear hw2
    obtain ⟨⟨d0, d1, d2, d3, d4, d5, d6, d7⟩, e0, e1, e2, e3, e4, e5, e6, e7⟩ := D
    go_wp2
    exact bodyPost_ret (v := .tuple #[.agg #[.int .i64 0, .int .u8 0, .int .i64 0, .int .i64 0, .int .i64 0, .int .i64 0, .int .i64 0, .int .i64 0], .int .i64 4]) (by simp [results, Tryd.results29, go_sem, d0, d1, d2, d3, d4, d5, d6, d7]) rfl ⟨by rw [E.out]; rfl, by repeat (first | with_reducible exact HB.out | with_reducible refine Below.setCell ?_ (by simp) _)⟩
theorem fld_size (l : List UInt8) : ∀ f ∈ fieldsL l, f.length ≤ l.length := by
  have key : ∀ (l : List UInt8) (p : List (List UInt8)) (q : List UInt8) (N : Nat), (∀ f ∈ p, f.length ≤ N) → q.length + l.length ≤ N → (∀ f ∈ (l.foldl fstep (p, q)).1, f.length ≤ N) ∧ (l.foldl fstep (p, q)).2.length ≤ N := by
    intro l
    induction l with
    | nil => intro p q N h1 h2; exact ⟨h1, by simpa using h2⟩
    | cons c r ih =>
      intro p q N h1 h2
      rw [List.foldl_cons]
      rw [List.length_cons] at h2
      by_cases h : c = 32
      · have e1 : fstep (p, q) c = (p ++ [q], []) := by unfold fstep; rw [if_pos h]
        rw [e1]
        refine ih _ _ N (fun f hf => ?_) (by simp; omega)
        rw [List.mem_append] at hf
        rcases hf with hf | hf
        · exact h1 f hf
        · rw [List.mem_singleton] at hf; subst hf; omega
      · have e1 : fstep (p, q) c = (p, q ++ [c]) := by unfold fstep; rw [if_neg h]
        rw [e1]
        exact ih _ _ N h1 (by rw [List.length_append, List.length_cons, List.length_nil]; omega)
  obtain ⟨a, b⟩ := key l [] [] l.length (by simp) (by simp)
  intro f hf
  unfold fieldsL fpart at hf
  rw [List.mem_append] at hf
  rcases hf with hf | hf
  · exact a f hf
  · rw [List.mem_singleton] at hf; subst hf; exact b
theorem parse_any (s : ByteArray) (w : World) (hE : Env w) (hs : s.size ≤ 1000) : Calls Tryd.prog 29 #[.string s] w (RetP (parse41 s.data.toList) w) := by
  by_cases h : (fieldsL s.data.toList).length = 8
  · have hF := (splitB_fields s).1
    obtain ⟨L, hL⟩ : ∃ L, Lib.splitB ⟨#[32]⟩ 0 (Lib.countB s ⟨#[32]⟩) s = L := ⟨_, rfl⟩
    rw [hL] at hF
    have hn : L.length = 8 := by rw [← hF, List.length_map] at h; exact h
    have hsz : ∀ g ∈ L, g.size ≤ 4294967280 := by
      intro g hg
      have := fld_size s.data.toList g.data.toList (by rw [← hF]; exact List.mem_map.2 ⟨g, hg, rfl⟩)
      rw [len_data, len_data] at this
      omega
    match L, hn with
    | [g0, g1, g2, g3, g4, g5, g6, g7], _ =>
      exact parse_eight s g0 g1 g2 g3 g4 g5 g6 g7 w hE hs hL ⟨hsz g0 (by simp), hsz g2 (by simp), hsz g3 (by simp), hsz g4 (by simp), hsz g5 (by simp), hsz g6 (by simp), hsz g7 (by simp)⟩
  · exact parse_len s w hE hs h
end Go.Proofs.YtnnafjmfbnnnjaaDoor
