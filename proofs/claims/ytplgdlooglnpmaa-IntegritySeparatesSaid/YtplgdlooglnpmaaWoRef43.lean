/-
  The walk of the reference's Without of layer 43.
-/
import Derived.Test.YtplgdlooglnpmaaMeasOwn43
namespace Go.Proofs.Ytplgdlooglnpmaa
set_option linter.unusedVariables false
open Go.RowKit

def WoRr (l : List Ms) (s : Int) (w : World) (v u : Value) (wr : World) : Prop := ∃ k : Nat, u = .int .i64 k ∧ k ≤ l.length ∧ Hid (Below w.heap.size w wr) ∧ Hid (OM w.heap.size wr v (woL (l.take k) s))
set_option maxHeartbeats 4000000 in
set_option maxRecDepth 100000 in
theorem woref_some (l : List Ms) (s : Int) (b o cap : Nat) (w : World) (h : MsAt l b o w) (hc : l.length ≤ cap) (hm : cap ≤ 9223372036854775807) (hl : l.length ≤ 18) :
    Calls Try.prog 23 #[.slice (some ⟨b, o, none⟩) l.length cap, .int .i64 s] w fun e w' => (∃ u, e = .returned u ∧ OM w.heap.size w' u (woL l s)) ∧ Below w.heap.size w w' := by
  have H := Lib.hid h
  have hlt := h.lt
  clear h
  go_enter Try.func23, Try.ntmps23
  go_wp2
  go_loopw [5, 11] (WoRr l s w) (fun _ i _ => l.length - (intOf i).toNat)
  case atStart => exact ⟨0, rfl, Nat.zero_le _, Lib.hid ((Below.refl _ _).alloc (Nat.le_refl _) _), Lib.hid (World.ownsRow_lit w #[] 0 (Nat.le_refl _) (by decide) rfl)⟩
  case round =>
    obtain ⟨k, rfl, hk, HB, HO⟩ := hrel
    by_cases q : k < l.length
    · have q' : decide (k < l.length) = true := by simpa using q
      have M := H.out.keep HB.out hlt
      have c0 := M.c0 k q
      have c1 := M.c1 k q
      have c2 := M.c2 k q
      have c3 := M.c3 k q
      have c4 := M.c4 k q
      have c5 := M.c5 k q
      have WS := Lib.hid (woL_succ (s := s) q)
      have SZ := Lib.hid (show (woL (l.take k) s).length ≤ 100000 by have := woL_len (l.take k) s; rw [List.length_take] at this; omega)
      have HS := Lib.hid HB.out.size
      clear M
      generalize hp : nth l k = p at *
      clear hp
      by_cases e : p.s = s
      · have g : (p.s != s) = false := by simpa using e
        have E := Lib.hid e
        clear e
        go_wp2
        go_roundw
        case rel =>
          have hb := (Below.refl wr.heap.size wr).alloc (Nat.le_refl _) (.cells #[.int .i64 p.s, .int .i64 p.a, .int .i64 p.b, .int .i64 p.z, .int .i64 p.d, .int .i64 p.w] 36)
          exact ⟨k + 1, by go_num, by omega, HB.out.trans (hb.mono HS.out), by rw [WS.out, if_pos E.out]; exact HO.out.below hb⟩
        case measure => simp [intOf]; omega
      · have g : (p.s != s) = true := by simpa using e
        have HA := Lib.hid ((Below.refl wr.heap.size wr).alloc (Nat.le_refl _) (.cells #[.int .i64 p.s, .int .i64 p.a, .int .i64 p.b, .int .i64 p.z, .int .i64 p.d, .int .i64 p.w] 36))
        go_wp2_with (at_builtin; refine Halt.mk ?_)
        unfold Halt
        refine wpList_om rfl (.tmp 19) (.tmp 21) rfl w.heap.size u5 (woL (l.take k) s) rfl (wr.alloc (.cells #[.int .i64 p.s, .int .i64 p.a, .int .i64 p.b, .int .i64 p.z, .int .i64 p.d, .int .i64 p.w] 36)) (HO.out.below HA.out) _ p 1 (by rw [World.size_alloc]; rfl) SZ.out (by have := HS.out; simp; omega) ?_
        intro u2 w5 ho5 hg5 hat5
        have HO5 : Hid (OM w.heap.size w5 u2 (woL (l.take (k + 1)) s)) := Lib.hid (by rw [WS.out, if_neg e]; exact ho5)
        have HB5 : Hid (Below w.heap.size w w5) := Lib.hid (below_grown ((HB.out.trans (HA.out.mono HS.out)).alloc (by simp; have := HS.out; omega) _) hg5 (by simp; have := HS.out; omega) (fun k hk => (World.ownsRow.lt HO.out k hk).1))
        clear hg5 hat5 c0 c1 c2 c3 c4 c5
        obtain ⟨g5, cap5, hu2⟩ := Go.Joins.ownsRow_form ho5 (show 0 < (woL (l.take k) s ++ [p]).length by rw [List.length_append, List.length_singleton]; omega)
        obtain ⟨N5, hN5⟩ : ∃ N, (woL (l.take k) s ++ [p]).length = N := ⟨_, rfl⟩
        rw [hN5] at hu2
        clear ho5 hN5
        subst hu2
        go_wp2
        go_roundw
        case rel => exact ⟨k + 1, by go_num, by omega, HB5, HO5⟩
        case measure => simp [intOf]; omega
    · obtain rfl : k = l.length := by omega
      rw [List.take_length] at HO
      rcases om_cases HO.out with ⟨rfl, hz⟩ | ⟨g, cap', rfl, _⟩
      · go_wp2
        go_ret
        exact ⟨⟨_, rfl, HO.out⟩, HB.out⟩
      · go_wp2
        go_ret
        exact ⟨⟨_, rfl, HO.out⟩, HB.out⟩
theorem woref_nil (s : Int) (w : World) :
    Calls Try.prog 23 #[.slice none 0 0, .int .i64 s] w fun e w' => (∃ u, e = .returned u ∧ OM w.heap.size w' u (woL [] s)) ∧ Below w.heap.size w w' := by
  go_enter Try.func23, Try.ntmps23
  go_wp2
  go_loop [5, 11] (fun u v => u = .slice (some ⟨w.heap.size, 0, none⟩) 0 0 ∧ v = .int .i64 0) (fun _ _ => 0)
  case atStart => exact ⟨rfl, rfl⟩
  case round =>
    obtain ⟨rfl, rfl⟩ := hrel
    go_wp2
    go_ret
    exact ⟨⟨_, rfl, World.ownsRow_lit w #[] 0 (Nat.le_refl _) (by decide) rfl⟩, (Below.refl _ _).alloc (Nat.le_refl _) _⟩
theorem woref_any (l : List Ms) (s : Int) (v : Value) (w : World) (h : LstAt l v w) (hl : l.length ≤ 18) :
    Calls Try.prog 23 #[v, .int .i64 s] w fun e w' => (∃ u, e = .returned u ∧ OM w.heap.size w' u (woL l s)) ∧ Below w.heap.size w w' := by
  rcases h with ⟨rfl, rfl⟩ | ⟨b, o, cap, rfl, h2, h3, h4⟩
  · exact woref_nil s w
  · exact woref_some l s b o cap w h4 h2 h3 hl
end Go.Proofs.Ytplgdlooglnpmaa
