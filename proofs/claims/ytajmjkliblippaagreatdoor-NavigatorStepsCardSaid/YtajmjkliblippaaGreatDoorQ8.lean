/-
  Walks and laws of the layers below, gathered from several texts.
-/
import Derived.Deep.DeepCutAuto
import Derived.Deep.RegionWith
import Derived.BigRegion
import Derived.Test.YtajmjkliblippaaGreatDoorQ3
import Derived.Test.YtajmjkliblippaaGreatDoorQ4
import Derived.Test.YtajmjkliblippaaGreatDoorQ7
set_option linter.unusedVariables false
namespace Go.Proofs.YtajmjkliblippaaGreatDoor.S41
open Go.RowKit Tr Sq
def Six (w:World) (b:Nat) (m:Ms):Prop:=
 (w.cell? ⟨b,0,none⟩ = some (.int .i64 m.s)∧w.cell? ⟨b,1,none⟩ = some (.int .i64 m.a)∧w.cell? ⟨b,2,none⟩ = some (.int .i64 m.b)∧w.cell? ⟨b,3,none⟩ = some (.int .i64 m.z)∧w.cell? ⟨b,4,none⟩ = some (.int .i64 m.d)∧w.cell? ⟨b,5,none⟩ = some (.int .i64 m.w)) ∧
 (w.frozen? ⟨b,0,none⟩ = false∧w.frozen? ⟨b,1,none⟩ = false∧w.frozen? ⟨b,2,none⟩ = false∧w.frozen? ⟨b,3,none⟩ = false∧w.frozen? ⟨b,4,none⟩ = false∧w.frozen? ⟨b,5,none⟩ = false)
def RepIs (w:World) (h:Nat) (s k x y v b wt t:Int):Prop:=w.cell? ⟨h,0,none⟩ = some (.int .i64 s)∧w.cell? ⟨h,1,none⟩ = some (.int .u8 k)∧w.cell? ⟨h,2,none⟩ = some (.int .i64 x)∧w.cell? ⟨h,3,none⟩ = some (.int .i64 y)∧w.cell? ⟨h,4,none⟩ = some (.int .i64 v)∧w.cell? ⟨h,5,none⟩ = some (.int .i64 b)∧w.cell? ⟨h,6,none⟩ = some (.int .i64 wt)∧w.cell? ⟨h,7,none⟩ = some (.int .i64 t)
def BoxIs (w:World) (h:Nat) (cx cy bx b2:Int):Prop:=w.cell? ⟨h,0,none⟩ = some (.int .i64 cx)∧w.cell? ⟨h,1,none⟩ = some (.int .i64 cy)∧w.cell? ⟨h,2,none⟩ = some (.int .i64 bx)∧w.cell? ⟨h,3,none⟩ = some (.int .i64 b2)
theorem RepIs.keep {w w':World} {h B:Nat} {s k x y v b wt t:Int} (hr:RepIs w h s k x y v b wt t) (hb:Below B w w') (hl:h < B):RepIs w' h s k x y v b wt t:=by
 obtain ⟨a0,a1,a2,a3,a4,a5,a6,a7⟩:=hr
 exact ⟨(hb.cell (p:=⟨h,0,none⟩) hl).trans a0,(hb.cell (p:=⟨h,1,none⟩) hl).trans a1,(hb.cell (p:=⟨h,2,none⟩) hl).trans a2,(hb.cell (p:=⟨h,3,none⟩) hl).trans a3,(hb.cell (p:=⟨h,4,none⟩) hl).trans a4,(hb.cell (p:=⟨h,5,none⟩) hl).trans a5,(hb.cell (p:=⟨h,6,none⟩) hl).trans a6,(hb.cell (p:=⟨h,7,none⟩) hl).trans a7⟩
theorem BoxIs.keep {w w':World} {h B:Nat} {cx cy bx b2:Int} (hr:BoxIs w h cx cy bx b2) (hb:Below B w w') (hl:h < B):BoxIs w' h cx cy bx b2:=by
 obtain ⟨a0,a1,a2,a3⟩:=hr
 exact ⟨(hb.cell (p:=⟨h,0,none⟩) hl).trans a0,(hb.cell (p:=⟨h,1,none⟩) hl).trans a1,(hb.cell (p:=⟨h,2,none⟩) hl).trans a2,(hb.cell (p:=⟨h,3,none⟩) hl).trans a3⟩
theorem Six.keep {w w':World} {h B:Nat} {m:Ms} (hr:Six w h m) (hb:Below B w w') (hl:h < B):Six w' h m:=by
 obtain ⟨⟨a0,a1,a2,a3,a4,a5⟩,f0,f1,f2,f3,f4,f5⟩:=hr
 exact ⟨⟨(hb.cell (p:=⟨h,0,none⟩) hl).trans a0,(hb.cell (p:=⟨h,1,none⟩) hl).trans a1,(hb.cell (p:=⟨h,2,none⟩) hl).trans a2,(hb.cell (p:=⟨h,3,none⟩) hl).trans a3,(hb.cell (p:=⟨h,4,none⟩) hl).trans a4,(hb.cell (p:=⟨h,5,none⟩) hl).trans a5⟩,
  (hb.frozen (p:=⟨h,0,none⟩) hl).trans f0,(hb.frozen (p:=⟨h,1,none⟩) hl).trans f1,(hb.frozen (p:=⟨h,2,none⟩) hl).trans f2,(hb.frozen (p:=⟨h,3,none⟩) hl).trans f3,(hb.frozen (p:=⟨h,4,none⟩) hl).trans f4,(hb.frozen (p:=⟨h,5,none⟩) hl).trans f5⟩
def Pair2 (w:World) (c:Nat) (u v:Int):Prop:=w.cell? ⟨c,0,none⟩ = some (.int .i64 u)∧w.cell? ⟨c,1,none⟩ = some (.int .i64 v)∧w.frozen? ⟨c,0,none⟩ = false∧w.frozen? ⟨c,1,none⟩ = false
theorem Pair2.keep {w w':World} {h B:Nat} {u v:Int} (hr:Pair2 w h u v) (hb:Below B w w') (hl:h < B):Pair2 w' h u v:=by
 obtain ⟨a0,a1,f0,f1⟩:=hr
 exact ⟨(hb.cell (p:=⟨h,0,none⟩) hl).trans a0,(hb.cell (p:=⟨h,1,none⟩) hl).trans a1,(hb.frozen (p:=⟨h,0,none⟩) hl).trans f0,(hb.frozen (p:=⟨h,1,none⟩) hl).trans f1⟩
theorem pair_new (w:World) (u v:Int) (t:TypeId):Pair2 (w.alloc (.cells #[.int .i64 u,.int .i64 v] t)).drew w.heap.size u v:=by
 unfold Pair2
 refine ⟨?_,?_,?_,?_⟩ <;> go_simp
theorem lt_new (w:World) (o:Obj):w.heap.size < (w.alloc o).drew.heap.size:=by simp
def Mid (w3:World) (K cx cy:Int) (s8 s9:Value) (wx:World):Prop:=∃ c:Nat,s8 = .pointer (some ⟨c,0,none⟩)∧s9 = .int .i64 K∧w3.heap.size≤c∧c < wx.heap.size∧wx.cell? ⟨c,0,none⟩ = some (.int .i64 cx)∧wx.cell? ⟨c,1,none⟩ = some (.int .i64 cy)∧Below w3.heap.size w3 wx
def Two (w6:World) (m:Ms) (s11 s12:Value) (wx:World):Prop:=∃ p q:Nat,s11 = .pointer (some ⟨p,0,none⟩)∧s12 = .pointer (some ⟨q,0,none⟩)∧p≠q∧w6.heap.size≤p∧w6.heap.size≤q∧p < wx.heap.size∧q < wx.heap.size∧Six wx p m∧Six wx q m∧Below w6.heap.size w6 wx
theorem Six.drew {w:World} {b:Nat} {m:Ms} (h:Six w b m):Six w.drew b m:=by
 obtain ⟨⟨a0,a1,a2,a3,a4,a5⟩,f0,f1,f2,f3,f4,f5⟩:=h
 exact ⟨⟨by simpa using a0,by simpa using a1,by simpa using a2,by simpa using a3,by simpa using a4,by simpa using a5⟩,by simpa using f0,by simpa using f1,by simpa using f2,by simpa using f3,by simpa using f4,by simpa using f5⟩
theorem Two.drew {w6 wx:World} {m:Ms} {a b:Value} (h:Two w6 m a b wx):Two w6 m a b wx.drew:=by
 obtain ⟨p,q,h0,h1,h2,h3,h4,h5,h6,h7,h8,h9⟩:=h
 exact ⟨p,q,h0,h1,h2,h3,h4,by simpa using h5,by simpa using h6,h7.drew,h8.drew,h9.drew⟩
theorem two_six (w:World) (m:Ms) (t:TypeId):Six ((w.alloc (.cells #[.int .i64 m.s,.int .i64 m.a,.int .i64 m.b,.int .i64 m.z,.int .i64 m.d,.int .i64 m.w] t)).alloc (.cells #[.int .i64 m.s,.int .i64 m.a,.int .i64 m.b,.int .i64 m.z,.int .i64 m.d,.int .i64 m.w] t)) w.heap.size m∧Six ((w.alloc (.cells #[.int .i64 m.s,.int .i64 m.a,.int .i64 m.b,.int .i64 m.z,.int .i64 m.d,.int .i64 m.w] t)).alloc (.cells #[.int .i64 m.s,.int .i64 m.a,.int .i64 m.b,.int .i64 m.z,.int .i64 m.d,.int .i64 m.w] t)) (w.heap.size + 1) m:=by
 constructor <;> (unfold Six; refine ⟨⟨?_,?_,?_,?_,?_,?_⟩,?_,?_,?_,?_,?_,?_⟩ <;> go_simp)
theorem two_a (w:World) (s a b z d wt:Int) (t:TypeId):Two w ⟨s,a,b,z,d,wt⟩ (.pointer (some ⟨w.heap.size,0,none⟩)) (.pointer (some ⟨w.heap.size + 1,0,none⟩)) ((w.alloc (.cells #[.int .i64 s,.int .i64 a,.int .i64 b,.int .i64 z,.int .i64 d,.int .i64 wt] t)).alloc (.cells #[.int .i64 s,.int .i64 a,.int .i64 b,.int .i64 z,.int .i64 d,.int .i64 wt] t)):=
 ⟨w.heap.size,w.heap.size + 1,rfl,rfl,by omega,Nat.le_refl _,by omega,by simp; omega,by simp,(two_six w ⟨s,a,b,z,d,wt⟩ t).1,(two_six w ⟨s,a,b,z,d,wt⟩ t).2,((Below.refl w.heap.size w).alloc (Nat.le_refl _) _).alloc (by simp) _⟩
theorem two_b (w:World) (s a b z d wt:Int) (t:TypeId):Two w ⟨s,a,b,z,d,wt⟩ (.pointer (some ⟨w.heap.size + 1,0,none⟩)) (.pointer (some ⟨w.heap.size,0,none⟩)) ((w.alloc (.cells #[.int .i64 s,.int .i64 a,.int .i64 b,.int .i64 z,.int .i64 d,.int .i64 wt] t)).alloc (.cells #[.int .i64 s,.int .i64 a,.int .i64 b,.int .i64 z,.int .i64 d,.int .i64 wt] t)):=
 ⟨w.heap.size + 1,w.heap.size,rfl,rfl,by omega,by omega,Nat.le_refl _,by simp,by simp; omega,(two_six w ⟨s,a,b,z,d,wt⟩ t).2,(two_six w ⟨s,a,b,z,d,wt⟩ t).1,((Below.refl w.heap.size w).alloc (Nat.le_refl _) _).alloc (by simp) _⟩
theorem mid_a {w3 w4:World} {K cx cy u v:Int} (hb:Below w3.heap.size w3 w4) (hz:w3.heap.size < w4.heap.size) (a0:w4.cell? ⟨w3.heap.size,0,none⟩ = some (.int .i64 u)) (a1:w4.cell? ⟨w3.heap.size,1,none⟩ = some (.int .i64 v)) (f0:w4.frozen? ⟨w3.heap.size,0,none⟩ = false) (f1:w4.frozen? ⟨w3.heap.size,1,none⟩ = false) :
 Mid w3 K cx cy (.pointer (some ⟨w3.heap.size,0,none⟩)) (.int .i64 K) ((w4.setCell ⟨w3.heap.size,0,none⟩ (.int .i64 cx)).setCell ⟨w3.heap.size,1,none⟩ (.int .i64 cy)):=by
 refine ⟨w3.heap.size,rfl,rfl,Nat.le_refl _,by simp; omega,?_,?_,(hb.setCell (p:=⟨w3.heap.size,0,none⟩) (Nat.le_refl _) _).setCell (p:=⟨w3.heap.size,1,none⟩) (Nat.le_refl _) _⟩
 ·go_simp
 ·go_simp
theorem mid_b {w3 w4:World} {K cx cy:Int} (t:TypeId) (hb:Below w3.heap.size w3 w4) (hz:w3.heap.size≤w4.heap.size) :
 Mid w3 K cx cy (.pointer (some ⟨w4.heap.size,0,none⟩)) (.int .i64 K) (w4.alloc (.cells #[.int .i64 cx,.int .i64 cy] t)):=by
 refine ⟨w4.heap.size,rfl,rfl,hz,by simp,?_,?_,hb.alloc hz _⟩
 ·rw [World.cell?_alloc_at _ _ _ _ (by simp)]; rfl
 ·rw [World.cell?_alloc_at _ _ _ _ (by simp)]; rfl
theorem mid_c {w3 w4:World} {K cx cy:Int} (hb:Below w3.heap.size w3 w4) (hz:w3.heap.size < w4.heap.size) (a0:w4.cell? ⟨w3.heap.size,0,none⟩ = some (.int .i64 cx)) (a1:w4.cell? ⟨w3.heap.size,1,none⟩ = some (.int .i64 cy)) :
 Mid w3 K cx cy (.pointer (some ⟨w3.heap.size,0,none⟩)) (.int .i64 K) w4:=⟨_,rfl,rfl,Nat.le_refl _,hz,a0,a1,hb⟩
theorem Mid.drew {w3 wx:World} {K cx cy:Int} {a b:Value} (h:Mid w3 K cx cy a b wx):Mid w3 K cx cy a b wx.drew:=by
 obtain ⟨c,h0,h1,h2,h3,h4,h5,h6⟩:=h
 exact ⟨c,h0,h1,h2,by simpa using h3,by simpa using h4,by simpa using h5,h6.drew⟩
def msV (m:Ms):List Value:=[.int .i64 m.s,.int .i64 m.a,.int .i64 m.b,.int .i64 m.z,.int .i64 m.d,.int .i64 m.w]
def RowsIs (w:World) (l:List Ms) (u:Value) (w':World):Prop:=
 (l = []∧u = .slice none 0 0)∨∃ k:Nat,l≠[]∧u = .slice (some ⟨k,0,none⟩) l.length l.length∧w.heap.size≤k∧w'.heap[k]? = some (.cells (l.flatMap msV).toArray 71)
end Go.Proofs.YtajmjkliblippaaGreatDoor.S41
namespace Go.Proofs.YtajmjkliblippaaGreatDoor.S41
open Go.RowKit Tr Sq
set_option maxHeartbeats 4000000
set_option maxRecDepth 100000
theorem rows_pos (s x y v b wt t cx cy bx b2:Int) (w:World) (hk:checkI s 1 x y v b wt t = 0) (hx:wrap64 (256 * x) = 256 * x) (hy:wrap64 (256 * y) = 256 * y) (hb2:wrap64 (256 * b) = 256 * b) (hv:boxV cx cy bx b2 = true):Calls Tryz.prog 20 #[.agg #[.int .i64 s,.int .u8 1,.int .i64 x,.int .i64 y,.int .i64 v,.int .i64 b,.int .i64 wt,.int .i64 t],.agg #[.int .i64 cx,.int .i64 cy,.int .i64 bx,.int .i64 b2]] w fun e w'=>∃ u,e = .returned (.tuple #[u,.int .i64 0])∧RowsIs w [⟨s,256,0,256 * x,256 * b,wt⟩,⟨s,0,256,256 * y,256 * b,wt⟩] u w'∧Below w.heap.size w w':=by
 have HX:=Lib.hid hx
 have HY:=Lib.hid hy
 have HB:=Lib.hid hb2
 clear hx hy hb2
 have C1:=Lib.hid (fun w=>check_any s 1 x y v b wt t w (by decide) (by decide))
 have V1:=Lib.hid (fun w=>boxv_any cx cy bx b2 w)
 have R1:=Lib.hid (fun w=>radius_any cx cy bx b2 w)
 have D1:=Lib.hid (fun w=>dist_any x y cx cy w)
 rw [hk] at C1
 rw [hv] at V1
 clear hk hv
 go_enter Tryz.func20,Tryz.ntmps20
 go_wp2_with fail
 refine (C1.out _).mono ?_
 rintro e w1 ⟨rfl,hb⟩
 obtain ⟨hc,hf⟩:=bcell hb
 have hz0:w.heap.size < w1.heap.size:=by have:=hb.size; simp at this; omega
 have hz1:w.heap.size + 1 < w1.heap.size:=by have:=hb.size; simp at this; omega
 have hA:Below w.heap.size w w1:=(((Below.refl _ _).alloc (Nat.le_refl _) _).alloc (by simp) _).trans (hb.mono (by simp; omega))
 go_wp2_with fail
 refine (V1.out _).mono ?_
 rintro e w2 ⟨rfl,hb2⟩
 obtain ⟨hc2,hf2⟩:=bcell hb2
 have hz2:w.heap.size < w2.heap.size:=Nat.lt_of_lt_of_le hz0 hb2.size
 have hz3:w.heap.size + 1 < w2.heap.size:=Nat.lt_of_lt_of_le hz1 hb2.size
 have hB:=Lib.hid (hA.trans (hb2.mono hA.size))
 go_upto_region 7 with fail
 have hR:RepIs (w2.alloc (.cells #[.int .i64 s,.int .i64 0,.int .i64 0,.int .i64 0,.int .i64 0,.int .i64 wt] 71)) w.heap.size s 1 x y v b wt t:=by unfold RepIs; refine ⟨?_,?_,?_,?_,?_,?_,?_,?_⟩ <;> go_simp
 have hX:BoxIs (w2.alloc (.cells #[.int .i64 s,.int .i64 0,.int .i64 0,.int .i64 0,.int .i64 0,.int .i64 wt] 71)) (w.heap.size + 1) cx cy bx b2:=by unfold BoxIs; refine ⟨?_,?_,?_,?_⟩ <;> go_simp
 have hS:Six (w2.alloc (.cells #[.int .i64 s,.int .i64 0,.int .i64 0,.int .i64 0,.int .i64 0,.int .i64 wt] 71)) w2.heap.size ⟨s,0,0,0,0,wt⟩:=by unfold Six; refine ⟨⟨?_,?_,?_,?_,?_,?_⟩,?_,?_,?_,?_,?_,?_⟩ <;> go_simp
 have hz4:w2.heap.size < (w2.alloc (.cells #[.int .i64 s,.int .i64 0,.int .i64 0,.int .i64 0,.int .i64 0,.int .i64 wt] 71)).heap.size:=by simp
 have hB3:=Lib.hid (hB.out.alloc hB.out.size (.cells #[.int .i64 s,.int .i64 0,.int .i64 0,.int .i64 0,.int .i64 0,.int .i64 wt] 71))
 have hw2:=hB.out.size
 clear hb hc hf hz0 hz1 hA hb2 hc2 hf2 hB
 generalize hW3:w2.alloc (.cells #[.int .i64 s,.int .i64 0,.int .i64 0,.int .i64 0,.int .i64 0,.int .i64 wt] 71) = w3 at *
 clear hW3
 generalize hg:w2.heap.size = g at *
 clear hg w2
 have hz5:w.heap.size < w3.heap.size:=by omega
 have hz6:w.heap.size + 1 < w3.heap.size:=by omega
 have HR:=Lib.hid hR
 have HS:=Lib.hid hS
 clear hR hS
 obtain ⟨p0,p1,p2,p3⟩:=hX
 go_cut [8,9] (Mid w3 (radI cx cy bx b2) cx cy)
 case first =>
  go_region_with (go_simp; go_at_call 42; (refine (R1.out _).mono ?_); rintro e w4 ⟨rfl,hb4⟩; have d0:=(hb4.cell (p:=⟨w.heap.size + 1,0,none⟩) (by simp; omega)).trans (show _ = some (Value.int .i64 cx) by go_simp); have d1:=(hb4.cell (p:=⟨w.heap.size + 1,1,none⟩) (by simp; omega)).trans (show _ = some (Value.int .i64 cy) by go_simp); have hz7:w3.heap.size≤w4.heap.size:=(by have:=hb4.size; simp at this; omega); have hz8:w.heap.size + 1 < w4.heap.size:=(by omega); first | (have z:=Pair2.keep (pair_new w3 0 0 _) hb4 (lt_new w3 _); obtain ⟨z0,z1,z2,z3⟩:=z) | (have z:=Pair2.keep (pair_new w3 cx cy _) hb4 (lt_new w3 _); obtain ⟨z0,z1,z2,z3⟩:=z) | skip)
  all_goals
   have hW4:Below w3.heap.size w3 w4:=by first | exact (Below.refl _ w3).drew.trans hb4 | exact (((Below.refl _ w3).alloc (Nat.le_refl _) _).drew).trans (hb4.mono (by simp))
   go_wp2_with fail
   go_meet
   first
   | (with_reducible refine mid_b _ hW4 hz7)
   | (with_reducible refine mid_a hW4 (World.block_lt_of_cell? _ _ z0) z0 z1 z2 z3)
   | (with_reducible refine mid_c hW4 (World.block_lt_of_cell? _ _ z0) z0 z1)
   | (refine Mid.drew ?_; with_reducible refine mid_b _ hW4 hz7)
   | (refine Mid.drew ?_; with_reducible refine mid_a hW4 (World.block_lt_of_cell? _ _ z0) z0 z1 z2 z3)
 case rest =>
  obtain ⟨c,rfl,rfl,hc0,hc1,hcx,hcy,hbM⟩:=hcut
  have R2:=HR.out.keep hbM hz5
  have S2:=HS.out.keep hbM hz4
  have hBM:=Lib.hid (hB3.out.trans (hbM.mono (by have:=hB3.out.size; omega)))
  have z1:w.heap.size < wc.heap.size:=by have:=hbM.size; omega
  have z2:g < wc.heap.size:=by have:=hbM.size; omega
  clear p0 p1 p2 p3 hbM hB3 HR HS hz3 hz4 hz5 hz6 V1 R1 C1
  have HR:=Lib.hid R2
  have HS:=Lib.hid S2
  obtain ⟨r0,r1,r2,r3,r4,r5,r6,r7⟩:=R2
  clear S2
  go_wp2_with fail
  refine (D1.out _).mono ?_
  rintro e w5 ⟨rfl,hb5⟩
  have R2:=HR.out.keep hb5 z1
  have S2:=HS.out.keep hb5 z2
  have hB5:=Lib.hid (hBM.out.trans (hb5.mono (by have:=hBM.out.size; omega)))
  have y1:w.heap.size < w5.heap.size:=by have:=hb5.size; omega
  have y2:g < w5.heap.size:=by have:=hb5.size; omega
  clear r0 r1 r2 r3 r4 r5 r6 r7 HR HS hBM z1 z2 hb5 hcx hcy hc0 hc1
  have HR:=Lib.hid R2
  have HS:=Lib.hid S2
  obtain ⟨r0,r1,r2,r3,r4,r5,r6,r7⟩:=R2
  obtain ⟨⟨m0,m1,m2,m3,m4,m5⟩,f0,f1,f2,f3,f4,f5⟩:=S2
  go_upto_region 12 with fail
  have R2:RepIs (w5.setCell ⟨g,4,none⟩ (.int .i64 (wrap64 (256 * b)))) w.heap.size s 1 x y v b wt t:=by
   have hne:w.heap.size≠g:=by omega
   unfold RepIs; refine ⟨?_,?_,?_,?_,?_,?_,?_,?_⟩ <;> go_simp
  have S2:Six (w5.setCell ⟨g,4,none⟩ (.int .i64 (wrap64 (256 * b)))) g ⟨s,0,0,0,wrap64 (256 * b),wt⟩:=by
   unfold Six; refine ⟨⟨?_,?_,?_,?_,?_,?_⟩,?_,?_,?_,?_,?_,?_⟩ <;> go_simp
  have hB6:=Lib.hid (hB5.out.setCell (p:=⟨g,4,none⟩) (by simp only; omega) (.int .i64 (wrap64 (256 * b))))
  have x1:w.heap.size < (w5.setCell ⟨g,4,none⟩ (.int .i64 (wrap64 (256 * b)))).heap.size:=by simpa using y1
  have x2:g < (w5.setCell ⟨g,4,none⟩ (.int .i64 (wrap64 (256 * b)))).heap.size:=by simpa using y2
  clear r0 r1 r2 r3 r4 r5 r6 r7 m0 m1 m2 m3 m4 m5 f0 f1 f2 f3 f4 f5 HR HS hB5 y1 y2
  generalize wrap64 (256 * b) = M at *
  generalize w5.setCell _ _ = w6 at *
  have HR:=Lib.hid R2
  have HS:=Lib.hid S2
  clear R2
  obtain ⟨⟨m0,m1,m2,m3,m4,m5⟩,f0,f1,f2,f3,f4,f5⟩:=S2
  go_cut [11,12] (Two w6 ⟨s,0,0,0,M,wt⟩)
  case first =>
   go_region_with (go_simp)
   all_goals (go_wp2_with fail; go_meet)
   all_goals repeat (first | with_reducible exact two_a _ _ _ _ _ _ _ _ | with_reducible exact two_b _ _ _ _ _ _ _ _ | refine Two.drew ?_)
  case rest =>
   obtain ⟨p,q,rfl,rfl,hne,hp,hq,hp1,hq1,P,Q,hb7⟩:=hcut
   have R2:=HR.out.keep hb7 x1
   have hB7:=Lib.hid (hB6.out.trans (hb7.mono (by have:=hB6.out.size; omega)))
   have e1:w.heap.size≠p:=by omega
   have e2:w.heap.size≠q:=by omega
   have l1:w.heap.size≤p:=by omega
   have l2:w.heap.size≤q:=by omega
   clear HR HS hB6 hb7 m0 m1 m2 m3 m4 m5 f0 f1 f2 f3 f4 f5 x1 x2 hp hq hz2 hw2
   have HR:=Lib.hid R2
   have HP:=Lib.hid P
   have HQ:=Lib.hid Q
   obtain ⟨r0,r1,r2,r3,r4,r5,r6,r7⟩:=R2
   obtain ⟨⟨m0,m1,m2,m3,m4,m5⟩,f0,f1,f2,f3,f4,f5⟩:=P
   clear Q
   go_upto_region 13 with fail
   go_cut [] (fun wx=>wx = ((wc.setCell ⟨p,1,none⟩ (.int .i64 256)).setCell ⟨p,3,none⟩ (.int .i64 (IntKind.i64.wrap (256 * x)))).drew)
   case first =>
    go_region_with (go_simp)
    all_goals (go_wp2_with fail; go_meet)
    all_goals exact rfl
   case rest =>
    subst hcut
    have hne':q≠p:=fun h=>hne h.symm
    obtain ⟨⟨n0,n1,n2,n3,n4,n5⟩,k0,k1,k2,k3,k4,k5⟩:=HQ.out
    have R2:RepIs (((wc.setCell ⟨p,1,none⟩ (.int .i64 256)).setCell ⟨p,3,none⟩ (.int .i64 (IntKind.i64.wrap (256 * x)))).drew) w.heap.size s 1 x y v b wt t:=by
     unfold RepIs; refine ⟨?_,?_,?_,?_,?_,?_,?_,?_⟩ <;> go_simp
    have P2:Six (((wc.setCell ⟨p,1,none⟩ (.int .i64 256)).setCell ⟨p,3,none⟩ (.int .i64 (IntKind.i64.wrap (256 * x)))).drew) p ⟨s,256,0,IntKind.i64.wrap (256 * x),M,wt⟩:=by
     unfold Six; refine ⟨⟨?_,?_,?_,?_,?_,?_⟩,?_,?_,?_,?_,?_,?_⟩ <;> go_simp
    have Q2:Six (((wc.setCell ⟨p,1,none⟩ (.int .i64 256)).setCell ⟨p,3,none⟩ (.int .i64 (IntKind.i64.wrap (256 * x)))).drew) q ⟨s,0,0,0,M,wt⟩:=by
     unfold Six; refine ⟨⟨?_,?_,?_,?_,?_,?_⟩,?_,?_,?_,?_,?_,?_⟩ <;> go_simp
    have hB8:=Lib.hid (((hB7.out.setCell (p:=⟨p,1,none⟩) l1 (.int .i64 256)).setCell (p:=⟨p,3,none⟩) l1 (.int .i64 (IntKind.i64.wrap (256 * x)))).drew)
    have o1:p < (((wc.setCell ⟨p,1,none⟩ (.int .i64 256)).setCell ⟨p,3,none⟩ (.int .i64 (IntKind.i64.wrap (256 * x)))).drew).heap.size:=by simpa using hp1
    have o2:q < (((wc.setCell ⟨p,1,none⟩ (.int .i64 256)).setCell ⟨p,3,none⟩ (.int .i64 (IntKind.i64.wrap (256 * x)))).drew).heap.size:=by simpa using hq1
    clear r0 r1 r2 r3 r4 r5 r6 r7 m0 m1 m2 m3 m4 m5 f0 f1 f2 f3 f4 f5 n0 n1 n2 n3 n4 n5 k0 k1 k2 k3 k4 k5 HR HP HQ hB7 hp1 hq1
    generalize ((wc.setCell ⟨p,1,none⟩ (.int .i64 256)).setCell ⟨p,3,none⟩ (.int .i64 (IntKind.i64.wrap (256 * x)))).drew = w8 at *
    have HR:=Lib.hid R2
    have HP:=Lib.hid P2
    have HQ:=Lib.hid Q2
    obtain ⟨r0,r1,r2,r3,r4,r5,r6,r7⟩:=R2
    obtain ⟨⟨m0,m1,m2,m3,m4,m5⟩,f0,f1,f2,f3,f4,f5⟩:=Q2
    clear P2
    go_upto_region 14 with fail
    go_cut [] (fun wx=>wx = ((w8.setCell ⟨q,2,none⟩ (.int .i64 256)).setCell ⟨q,3,none⟩ (.int .i64 (IntKind.i64.wrap (256 * y)))).drew)
    case first =>
     go_region_with (go_simp)
     all_goals (go_wp2_with fail; go_meet)
     all_goals exact rfl
    case rest =>
     subst hcut
     obtain ⟨⟨n0,n1,n2,n3,n4,n5⟩,k0,k1,k2,k3,k4,k5⟩:=HP.out
     have P2:Six (((w8.setCell ⟨q,2,none⟩ (.int .i64 256)).setCell ⟨q,3,none⟩ (.int .i64 (IntKind.i64.wrap (256 * y)))).drew) p ⟨s,256,0,IntKind.i64.wrap (256 * x),M,wt⟩:=by
      unfold Six; refine ⟨⟨?_,?_,?_,?_,?_,?_⟩,?_,?_,?_,?_,?_,?_⟩ <;> go_simp
     have Q2:Six (((w8.setCell ⟨q,2,none⟩ (.int .i64 256)).setCell ⟨q,3,none⟩ (.int .i64 (IntKind.i64.wrap (256 * y)))).drew) q ⟨s,0,256,IntKind.i64.wrap (256 * y),M,wt⟩:=by
      unfold Six; refine ⟨⟨?_,?_,?_,?_,?_,?_⟩,?_,?_,?_,?_,?_,?_⟩ <;> go_simp
     have hB9:=Lib.hid (((hB8.out.setCell (p:=⟨q,2,none⟩) l2 (.int .i64 256)).setCell (p:=⟨q,3,none⟩) l2 (.int .i64 (IntKind.i64.wrap (256 * y)))).drew)
     clear r0 r1 r2 r3 r4 r5 r6 r7 m0 m1 m2 m3 m4 m5 f0 f1 f2 f3 f4 f5 n0 n1 n2 n3 n4 n5 k0 k1 k2 k3 k4 k5 HR HP HQ hB8 o1 o2
     generalize ((w8.setCell ⟨q,2,none⟩ (.int .i64 256)).setCell ⟨q,3,none⟩ (.int .i64 (IntKind.i64.wrap (256 * y)))).drew = w9 at *
     obtain ⟨⟨m0,m1,m2,m3,m4,m5⟩,-⟩:=P2
     obtain ⟨⟨n0,n1,n2,n3,n4,n5⟩,-⟩:=Q2
     go_wp2
     go_ret2
     refine ⟨_,rfl,.inr ⟨w9.heap.size,by simp,rfl,hB9.out.size,?_⟩,hB9.out.alloc hB9.out.size _⟩
     rw [HX.out,HY.out,HB.out]
     show (w9.heap.push _)[w9.heap.size]? = _
     rw [Array.getElem?_push_size]
     rfl
end Go.Proofs.YtajmjkliblippaaGreatDoor.S41
namespace Go.Proofs.YtajmjkliblippaaGreatDoor.S41
open Go.RowKit Tr Sq
set_option maxHeartbeats 4000000
set_option maxRecDepth 100000
theorem rows_rng_no (s x y v b wt t cx cy bx b2 K D:Int) (w:World) (hk:checkI s 2 x y v b wt t = 0) (hv:boxV cx cy bx b2 = true) (eK:radI cx cy bx b2 = K) (eD:distI x y cx cy = D)
 (hx:-2000000≤x∧x≤2000000) (hy:-2000000≤y∧y≤2000000) (hcx0:-2000000≤cx∧cx≤2000000) (hcy0:-2000000≤cy∧cy≤2000000) (hvv:0≤v∧v≤8000000) (hbb:0≤b∧b≤600000)
 (K0:0≤K) (K1:K≤2828428) (D0:0≤D) (D1:D≤5656854) (hg:D < 6000∨D < 4 * K) :
 Calls Tryz.prog 20 #[.agg #[.int .i64 s,.int .u8 2,.int .i64 x,.int .i64 y,.int .i64 v,.int .i64 b,.int .i64 wt,.int .i64 t],.agg #[.int .i64 cx,.int .i64 cy,.int .i64 bx,.int .i64 b2]] w fun e w'=>∃ u,e = .returned (.tuple #[u,.int .i64 10])∧RowsIs w [] u w'∧Below w.heap.size w w':=by
 obtain ⟨x0,x1⟩:=hx
 obtain ⟨y0,y1⟩:=hy
 obtain ⟨cx0,cx1⟩:=hcx0
 obtain ⟨cy0,cy1⟩:=hcy0
 obtain ⟨v0,v1⟩:=hvv
 obtain ⟨b0,b1⟩:=hbb
 have C1:=fun w=>check_any s 2 x y v b wt t w (by decide) (by decide)
 have V1:=fun w=>boxv_any cx cy bx b2 w
 have R1:=fun w=>radius_any cx cy bx b2 w
 have D1':=fun w=>dist_any x y cx cy w
 rw [hk] at C1
 rw [hv] at V1
 rw [eK] at R1
 rw [eD] at D1'
 have C1:=Lib.hid C1
 have V1:=Lib.hid V1
 have R1:=Lib.hid R1
 have DD:=Lib.hid D1'
 clear hk hv eK eD
 go_enter Tryz.func20,Tryz.ntmps20
 go_wp2_with fail
 refine (C1.out _).mono ?_
 rintro e w1 ⟨rfl,hb⟩
 obtain ⟨hc,hf⟩:=bcell hb
 have hz0:w.heap.size < w1.heap.size:=by have:=hb.size; simp at this; omega
 have hz1:w.heap.size + 1 < w1.heap.size:=by have:=hb.size; simp at this; omega
 have hA:Below w.heap.size w w1:=(((Below.refl _ _).alloc (Nat.le_refl _) _).alloc (by simp) _).trans (hb.mono (by simp; omega))
 go_wp2_with fail
 refine (V1.out _).mono ?_
 rintro e w2 ⟨rfl,hb2⟩
 obtain ⟨hc2,hf2⟩:=bcell hb2
 have hz2:w.heap.size < w2.heap.size:=Nat.lt_of_lt_of_le hz0 hb2.size
 have hz3:w.heap.size + 1 < w2.heap.size:=Nat.lt_of_lt_of_le hz1 hb2.size
 have hB:=Lib.hid (hA.trans (hb2.mono hA.size))
 go_upto_region 7 with fail
 have hR:RepIs (w2.alloc (.cells #[.int .i64 s,.int .i64 0,.int .i64 0,.int .i64 0,.int .i64 0,.int .i64 wt] 71)) w.heap.size s 2 x y v b wt t:=by unfold RepIs; refine ⟨?_,?_,?_,?_,?_,?_,?_,?_⟩ <;> go_simp
 have hX:BoxIs (w2.alloc (.cells #[.int .i64 s,.int .i64 0,.int .i64 0,.int .i64 0,.int .i64 0,.int .i64 wt] 71)) (w.heap.size + 1) cx cy bx b2:=by unfold BoxIs; refine ⟨?_,?_,?_,?_⟩ <;> go_simp
 have hS:Six (w2.alloc (.cells #[.int .i64 s,.int .i64 0,.int .i64 0,.int .i64 0,.int .i64 0,.int .i64 wt] 71)) w2.heap.size ⟨s,0,0,0,0,wt⟩:=by unfold Six; refine ⟨⟨?_,?_,?_,?_,?_,?_⟩,?_,?_,?_,?_,?_,?_⟩ <;> go_simp
 have hz4:w2.heap.size < (w2.alloc (.cells #[.int .i64 s,.int .i64 0,.int .i64 0,.int .i64 0,.int .i64 0,.int .i64 wt] 71)).heap.size:=by simp
 have hB3:=Lib.hid (hB.out.alloc hB.out.size (.cells #[.int .i64 s,.int .i64 0,.int .i64 0,.int .i64 0,.int .i64 0,.int .i64 wt] 71))
 have hw2:=hB.out.size
 clear hb hc hf hz0 hz1 hA hb2 hc2 hf2 hB
 generalize hW3:w2.alloc (.cells #[.int .i64 s,.int .i64 0,.int .i64 0,.int .i64 0,.int .i64 0,.int .i64 wt] 71) = w3 at *
 clear hW3
 generalize hg:w2.heap.size = g at *
 clear hg w2
 have hz5:w.heap.size < w3.heap.size:=by omega
 have hz6:w.heap.size + 1 < w3.heap.size:=by omega
 have HR:=Lib.hid hR
 have HS:=Lib.hid hS
 clear hR hS
 obtain ⟨p0,p1,p2,p3⟩:=hX
 go_cut [8,9] (Mid w3 K cx cy)
 case first =>
  go_region_with (go_simp; go_at_call 42; (refine (R1.out _).mono ?_); rintro e w4 ⟨rfl,hb4⟩; have d0:=(hb4.cell (p:=⟨w.heap.size + 1,0,none⟩) (by simp; omega)).trans (show _ = some (Value.int .i64 cx) by go_simp); have d1:=(hb4.cell (p:=⟨w.heap.size + 1,1,none⟩) (by simp; omega)).trans (show _ = some (Value.int .i64 cy) by go_simp); have hz7:w3.heap.size≤w4.heap.size:=(by have:=hb4.size; simp at this; omega); have hz8:w.heap.size + 1 < w4.heap.size:=(by omega); first | (have z:=Pair2.keep (pair_new w3 0 0 _) hb4 (lt_new w3 _); obtain ⟨z0,z1,z2,z3⟩:=z) | (have z:=Pair2.keep (pair_new w3 cx cy _) hb4 (lt_new w3 _); obtain ⟨z0,z1,z2,z3⟩:=z) | skip)
  all_goals
   have hW4:Below w3.heap.size w3 w4:=by first | exact (Below.refl _ w3).drew.trans hb4 | exact (((Below.refl _ w3).alloc (Nat.le_refl _) _).drew).trans (hb4.mono (by simp))
   go_wp2_with fail
   go_meet
   first
   | (with_reducible refine mid_b _ hW4 hz7)
   | (with_reducible refine mid_a hW4 (World.block_lt_of_cell? _ _ z0) z0 z1 z2 z3)
   | (with_reducible refine mid_c hW4 (World.block_lt_of_cell? _ _ z0) z0 z1)
   | (refine Mid.drew ?_; with_reducible refine mid_b _ hW4 hz7)
   | (refine Mid.drew ?_; with_reducible refine mid_a hW4 (World.block_lt_of_cell? _ _ z0) z0 z1 z2 z3)
 case rest =>
  obtain ⟨c,rfl,rfl,hc0,hc1,hcx,hcy,hbM⟩:=hcut
  have n1:g≠c:=by omega
  have n2:w.heap.size≠g:=by omega
  have n3:w.heap.size≠c:=by omega
  have n4:c≠g:=by omega
  have R2:=HR.out.keep hbM hz5
  have S2:=HS.out.keep hbM hz4
  have hBM:=Lib.hid (hB3.out.trans (hbM.mono (by have:=hB3.out.size; omega)))
  have z1:w.heap.size < wc.heap.size:=by have:=hbM.size; omega
  have z2:g < wc.heap.size:=by have:=hbM.size; omega
  clear p0 p1 p2 p3 hbM hB3 HR HS hz3 hz4 hz5 hz6 V1 R1 C1
  have HR:=Lib.hid R2
  have HS:=Lib.hid S2
  obtain ⟨r0,r1,r2,r3,r4,r5,r6,r7⟩:=R2
  clear S2
  go_wp2_with fail
  refine (DD.out _).mono ?_
  rintro e w5 ⟨rfl,hb5⟩
  have R2:=HR.out.keep hb5 z1
  have S2:=HS.out.keep hb5 z2
  have hB5:=Lib.hid (hBM.out.trans (hb5.mono (by have:=hBM.out.size; omega)))
  have y1:w.heap.size < w5.heap.size:=by have:=hb5.size; omega
  have y2:g < w5.heap.size:=by have:=hb5.size; omega
  have q0:=(hb5.cell (p:=⟨c,0,none⟩) hc1).trans hcx
  have q1:=(hb5.cell (p:=⟨c,1,none⟩) hc1).trans hcy
  clear r0 r1 r2 r3 r4 r5 r6 r7 HR HS hBM z1 z2 hb5 hcx hcy hc0 hc1
  have HR:=Lib.hid R2
  have HS:=Lib.hid S2
  obtain ⟨r0,r1,r2,r3,r4,r5,r6,r7⟩:=R2
  obtain ⟨⟨m0,m1,m2,m3,m4,m5⟩,f0,f1,f2,f3,f4,f5⟩:=S2
  rcases Classical.em (D < 6000) with hg1 | hg1
  ·have g1:decide (D < 6000) = true:=by simpa using hg1
   clear hg
   go_wp2
   go_ret2
   exact ⟨_,rfl,.inl ⟨rfl,rfl⟩,hB5.out⟩
  ·have g1:decide (D < 6000) = false:=by simpa using hg1
   have g2:decide (D < 4 * K) = true:=by simp; omega
   clear hg
   go_wp2
   go_ret2
   exact ⟨_,rfl,.inl ⟨rfl,rfl⟩,hB5.out⟩
theorem rows_rng_ok (s x y v b wt t cx cy bx b2 K D A B F:Int) (w:World) (hk:checkI s 2 x y v b wt t = 0) (hv:boxV cx cy bx b2 = true) (eK:radI cx cy bx b2 = K) (eD:distI x y cx cy = D)
 (hx:-2000000≤x∧x≤2000000) (hy:-2000000≤y∧y≤2000000) (hcx0:-2000000≤cx∧cx≤2000000) (hcy0:-2000000≤cy∧cy≤2000000) (hvv:0≤v∧v≤8000000) (hbb:0≤b∧b≤600000)
 (K0:0≤K) (K1:K≤2828428) (D0:0≤D) (D1:D≤5656854) (hg1:6000≤D) (hg2:4 * K≤D) (eA:rngA x cx D = A) (eB:rngA y cy D = B) (eF:rngF D K = F) (hA:-256≤A∧A≤256) (hB:-256≤B∧B≤256) (hF:0≤F∧F≤4000000) (pA:-512000000≤A * cx∧A * cx≤512000000) (pB:-512000000≤B * cy∧B * cy≤512000000) (pK:0≤K * K∧K * K≤9000000000000) :
 Calls Tryz.prog 20 #[.agg #[.int .i64 s,.int .u8 2,.int .i64 x,.int .i64 y,.int .i64 v,.int .i64 b,.int .i64 wt,.int .i64 t],.agg #[.int .i64 cx,.int .i64 cy,.int .i64 bx,.int .i64 b2]] w fun e w'=>∃ u,e = .returned (.tuple #[u,.int .i64 0])∧RowsIs w [⟨s,A,B,A * cx + B * cy + 256 * (v - D),K + 256 * (b + 1 + F),wt⟩] u w'∧Below w.heap.size w w':=by
 obtain ⟨x0,x1⟩:=hx
 obtain ⟨y0,y1⟩:=hy
 obtain ⟨cx0,cx1⟩:=hcx0
 obtain ⟨cy0,cy1⟩:=hcy0
 obtain ⟨v0,v1⟩:=hvv
 obtain ⟨b0,b1⟩:=hbb
 have C1:=fun w=>check_any s 2 x y v b wt t w (by decide) (by decide)
 have V1:=fun w=>boxv_any cx cy bx b2 w
 have R1:=fun w=>radius_any cx cy bx b2 w
 have D1':=fun w=>dist_any x y cx cy w
 rw [hk] at C1
 rw [hv] at V1
 rw [eK] at R1
 rw [eD] at D1'
 have C1:=Lib.hid C1
 have V1:=Lib.hid V1
 have R1:=Lib.hid R1
 have DD:=Lib.hid D1'
 clear hk hv eK eD
 obtain ⟨A0,A1⟩:=hA
 obtain ⟨B0,B1⟩:=hB
 obtain ⟨F0,F1⟩:=hF
 obtain ⟨pA0,pA1⟩:=pA
 obtain ⟨pB0,pB1⟩:=pB
 obtain ⟨pK0,pK1⟩:=pK
 have g1:decide (D < 6000) = false:=by simp; omega
 have g2:decide (D < 4 * K) = false:=by simp; omega
 unfold rngA at eA eB
 unfold rngF at eF
 have CA:=fun w=>round_any (256 * (cx - x)) D w (by omega) (by omega) (by omega) (by omega)
 have CB:=fun w=>round_any (256 * (cy - y)) D w (by omega) (by omega) (by omega) (by omega)
 have CF:=fun w=>ceil_any (K * K) (2 * (D - K)) w (by omega) (by omega) (by omega) (by omega)
 rw [eA] at CA
 rw [eB] at CB
 rw [eF] at CF
 have CA:=Lib.hid CA
 have CB:=Lib.hid CB
 have CF:=Lib.hid CF
 clear eA eB eF
 go_enter Tryz.func20,Tryz.ntmps20
 go_wp2_with fail
 refine (C1.out _).mono ?_
 rintro e w1 ⟨rfl,hb⟩
 obtain ⟨hc,hf⟩:=bcell hb
 have hz0:w.heap.size < w1.heap.size:=by have:=hb.size; simp at this; omega
 have hz1:w.heap.size + 1 < w1.heap.size:=by have:=hb.size; simp at this; omega
 have hA:Below w.heap.size w w1:=(((Below.refl _ _).alloc (Nat.le_refl _) _).alloc (by simp) _).trans (hb.mono (by simp; omega))
 go_wp2_with fail
 refine (V1.out _).mono ?_
 rintro e w2 ⟨rfl,hb2⟩
 obtain ⟨hc2,hf2⟩:=bcell hb2
 have hz2:w.heap.size < w2.heap.size:=Nat.lt_of_lt_of_le hz0 hb2.size
 have hz3:w.heap.size + 1 < w2.heap.size:=Nat.lt_of_lt_of_le hz1 hb2.size
 have hB:=Lib.hid (hA.trans (hb2.mono hA.size))
 go_upto_region 7 with fail
 have hR:RepIs (w2.alloc (.cells #[.int .i64 s,.int .i64 0,.int .i64 0,.int .i64 0,.int .i64 0,.int .i64 wt] 71)) w.heap.size s 2 x y v b wt t:=by unfold RepIs; refine ⟨?_,?_,?_,?_,?_,?_,?_,?_⟩ <;> go_simp
 have hX:BoxIs (w2.alloc (.cells #[.int .i64 s,.int .i64 0,.int .i64 0,.int .i64 0,.int .i64 0,.int .i64 wt] 71)) (w.heap.size + 1) cx cy bx b2:=by unfold BoxIs; refine ⟨?_,?_,?_,?_⟩ <;> go_simp
 have hS:Six (w2.alloc (.cells #[.int .i64 s,.int .i64 0,.int .i64 0,.int .i64 0,.int .i64 0,.int .i64 wt] 71)) w2.heap.size ⟨s,0,0,0,0,wt⟩:=by unfold Six; refine ⟨⟨?_,?_,?_,?_,?_,?_⟩,?_,?_,?_,?_,?_,?_⟩ <;> go_simp
 have hz4:w2.heap.size < (w2.alloc (.cells #[.int .i64 s,.int .i64 0,.int .i64 0,.int .i64 0,.int .i64 0,.int .i64 wt] 71)).heap.size:=by simp
 have hB3:=Lib.hid (hB.out.alloc hB.out.size (.cells #[.int .i64 s,.int .i64 0,.int .i64 0,.int .i64 0,.int .i64 0,.int .i64 wt] 71))
 have hw2:=hB.out.size
 clear hb hc hf hz0 hz1 hA hb2 hc2 hf2 hB
 generalize hW3:w2.alloc (.cells #[.int .i64 s,.int .i64 0,.int .i64 0,.int .i64 0,.int .i64 0,.int .i64 wt] 71) = w3 at *
 clear hW3
 generalize hg:w2.heap.size = g at *
 clear hg w2
 have hz5:w.heap.size < w3.heap.size:=by omega
 have hz6:w.heap.size + 1 < w3.heap.size:=by omega
 have HR:=Lib.hid hR
 have HS:=Lib.hid hS
 clear hR hS
 obtain ⟨p0,p1,p2,p3⟩:=hX
 go_cut [8,9] (Mid w3 K cx cy)
 case first =>
  go_region_with (go_simp; go_at_call 42; (refine (R1.out _).mono ?_); rintro e w4 ⟨rfl,hb4⟩; have d0:=(hb4.cell (p:=⟨w.heap.size + 1,0,none⟩) (by simp; omega)).trans (show _ = some (Value.int .i64 cx) by go_simp); have d1:=(hb4.cell (p:=⟨w.heap.size + 1,1,none⟩) (by simp; omega)).trans (show _ = some (Value.int .i64 cy) by go_simp); have hz7:w3.heap.size≤w4.heap.size:=(by have:=hb4.size; simp at this; omega); have hz8:w.heap.size + 1 < w4.heap.size:=(by omega); first | (have z:=Pair2.keep (pair_new w3 0 0 _) hb4 (lt_new w3 _); obtain ⟨z0,z1,z2,z3⟩:=z) | (have z:=Pair2.keep (pair_new w3 cx cy _) hb4 (lt_new w3 _); obtain ⟨z0,z1,z2,z3⟩:=z) | skip)
  all_goals
   have hW4:Below w3.heap.size w3 w4:=by first | exact (Below.refl _ w3).drew.trans hb4 | exact (((Below.refl _ w3).alloc (Nat.le_refl _) _).drew).trans (hb4.mono (by simp))
   go_wp2_with fail
   go_meet
   first
   | (with_reducible refine mid_b _ hW4 hz7)
   | (with_reducible refine mid_a hW4 (World.block_lt_of_cell? _ _ z0) z0 z1 z2 z3)
   | (with_reducible refine mid_c hW4 (World.block_lt_of_cell? _ _ z0) z0 z1)
   | (refine Mid.drew ?_; with_reducible refine mid_b _ hW4 hz7)
   | (refine Mid.drew ?_; with_reducible refine mid_a hW4 (World.block_lt_of_cell? _ _ z0) z0 z1 z2 z3)
 case rest =>
  obtain ⟨c,rfl,rfl,hc0,hc1,hcx,hcy,hbM⟩:=hcut
  have n1:g≠c:=by omega
  have n2:w.heap.size≠g:=by omega
  have n3:w.heap.size≠c:=by omega
  have n4:c≠g:=by omega
  have R2:=HR.out.keep hbM hz5
  have S2:=HS.out.keep hbM hz4
  have hBM:=Lib.hid (hB3.out.trans (hbM.mono (by have:=hB3.out.size; omega)))
  have z1:w.heap.size < wc.heap.size:=by have:=hbM.size; omega
  have z2:g < wc.heap.size:=by have:=hbM.size; omega
  clear p0 p1 p2 p3 hbM hB3 HR HS hz3 hz4 hz5 hz6 V1 R1 C1
  have HR:=Lib.hid R2
  have HS:=Lib.hid S2
  obtain ⟨r0,r1,r2,r3,r4,r5,r6,r7⟩:=R2
  clear S2
  go_wp2_with fail
  refine (DD.out _).mono ?_
  rintro e w5 ⟨rfl,hb5⟩
  have R2:=HR.out.keep hb5 z1
  have S2:=HS.out.keep hb5 z2
  have hB5:=Lib.hid (hBM.out.trans (hb5.mono (by have:=hBM.out.size; omega)))
  have y1:w.heap.size < w5.heap.size:=by have:=hb5.size; omega
  have y2:g < w5.heap.size:=by have:=hb5.size; omega
  have q0:=(hb5.cell (p:=⟨c,0,none⟩) hc1).trans hcx
  have q1:=(hb5.cell (p:=⟨c,1,none⟩) hc1).trans hcy
  clear r0 r1 r2 r3 r4 r5 r6 r7 HR HS hBM z1 z2 hb5 hcx hcy hc0 hc1
  have HR:=Lib.hid R2
  have HS:=Lib.hid S2
  obtain ⟨r0,r1,r2,r3,r4,r5,r6,r7⟩:=R2
  obtain ⟨⟨m0,m1,m2,m3,m4,m5⟩,f0,f1,f2,f3,f4,f5⟩:=S2
  go_wp2_with fail
  refine (CA.out _).mono ?_
  rintro e w6 ⟨rfl,ka,rfl⟩
  go_wp2_with fail
  refine (CB.out _).mono ?_
  rintro e w6 ⟨rfl,kb,rfl⟩
  go_wp2_with fail
  refine (CF.out _).mono ?_
  rintro e w6 ⟨rfl,kf,rfl⟩
  go_upto_region 24 with fail
  have S9:Six (((((((w5.drewN ka).setCell ⟨g,1,none⟩ (.int .i64 A)).drewN kb).setCell ⟨g,2,none⟩ (.int .i64 B)).setCell ⟨g,3,none⟩ (.int .i64 (A * cx + B * cy + 256 * (v - D)))).drewN kf).setCell ⟨g,4,none⟩ (.int .i64 (K + 256 * (b + 1 + F)))) g ⟨s,A,B,A * cx + B * cy + 256 * (v - D),K + 256 * (b + 1 + F),wt⟩:=by unfold Six; refine ⟨⟨?_,?_,?_,?_,?_,?_⟩,?_,?_,?_,?_,?_,?_⟩ <;> go_simp
  have hB9:=Lib.hid ((below_drewN (((below_drewN ((below_drewN hB5.out ka).setCell (p:=⟨g,1,none⟩) hw2 (.int .i64 A)) kb).setCell (p:=⟨g,2,none⟩) hw2 (.int .i64 B)).setCell (p:=⟨g,3,none⟩) hw2 (.int .i64 (A * cx + B * cy + 256 * (v - D)))) kf).setCell (p:=⟨g,4,none⟩) hw2 (.int .i64 (K + 256 * (b + 1 + F))))
  clear r0 r1 r2 r3 r4 r5 r6 r7 m0 m1 m2 m3 m4 m5 f0 f1 f2 f3 f4 f5 HR HS hB5
  generalize ((((((w5.drewN ka).setCell ⟨g,1,none⟩ (.int .i64 A)).drewN kb).setCell ⟨g,2,none⟩ (.int .i64 B)).setCell ⟨g,3,none⟩ (.int .i64 (A * cx + B * cy + 256 * (v - D)))).drewN kf).setCell ⟨g,4,none⟩ (.int .i64 (K + 256 * (b + 1 + F))) = w9 at *
  obtain ⟨⟨m0,m1,m2,m3,m4,m5⟩,-⟩:=S9
  go_wp2
  go_ret2
  refine ⟨_,rfl,.inr ⟨w9.heap.size,by simp,rfl,hB9.out.size,?_⟩,hB9.out.alloc hB9.out.size _⟩
  show (w9.heap.push _)[w9.heap.size]? = _
  rw [Array.getElem?_push_size]
  rfl
end Go.Proofs.YtajmjkliblippaaGreatDoor.S41
namespace Go.Proofs.YtajmjkliblippaaGreatDoor.S41
open Go.RowKit Tr Sq
set_option maxHeartbeats 4000000
set_option maxRecDepth 100000
theorem rows_brg (s x y v b wt t cx cy bx b2 K D A B F:Int) (w:World) (hk:checkI s 3 x y v b wt t = 0) (hv:boxV cx cy bx b2 = true) (eK:radI cx cy bx b2 = K) (eD:distI x y cx cy = D)
 (hx:-2000000≤x∧x≤2000000) (hy:-2000000≤y∧y≤2000000) (hvv:0≤v∧v≤129599999) (hbb:0≤b∧b≤3600000)
 (K0:0≤K) (K1:K≤2828428) (D0:0≤D) (D1:D≤5656854) (eA:brgA v = A) (eB:brgB v = B) (eF:brgF b (D + 1 + K) = F) (hA:-256≤A∧A≤256) (hB:-256≤B∧B≤256) (hF:0≤F∧F≤4294967296) (pA:-512000000≤A * x∧A * x≤512000000) (pB:-512000000≤B * y∧B * y≤512000000)
 (hcv:-1073741824≤cosI v∧cosI v≤1073741824) (hsv:-1073741824≤sinI v∧sinI v≤1073741824) (hsb:0≤sinI b∧sinI b≤1073741824) (hG:0≤256 * (D + 1 + K) * (sinI b + 2)∧256 * (D + 1 + K) * (sinI b + 2) < 9223372036854775808) :
 Calls Tryz.prog 20 #[.agg #[.int .i64 s,.int .u8 3,.int .i64 x,.int .i64 y,.int .i64 v,.int .i64 b,.int .i64 wt,.int .i64 t],.agg #[.int .i64 cx,.int .i64 cy,.int .i64 bx,.int .i64 b2]] w fun e w'=>∃ u,e = .returned (.tuple #[u,.int .i64 0])∧RowsIs w [⟨s,A,B,A * x + B * y,D + 1 + K + F,wt⟩] u w'∧Below w.heap.size w w':=by
 obtain ⟨x0,x1⟩:=hx
 obtain ⟨y0,y1⟩:=hy
 obtain ⟨v0,v1⟩:=hvv
 obtain ⟨b0,b1⟩:=hbb
 obtain ⟨A0,A1⟩:=hA
 obtain ⟨B0,B1⟩:=hB
 obtain ⟨F0,F1⟩:=hF
 obtain ⟨pA0,pA1⟩:=pA
 obtain ⟨pB0,pB1⟩:=pB
 obtain ⟨cv0,cv1⟩:=hcv
 obtain ⟨sv0,sv1⟩:=hsv
 obtain ⟨sb0,sb1⟩:=hsb
 obtain ⟨G0,G1⟩:=hG
 have C1:=fun w=>check_any s 3 x y v b wt t w (by decide) (by decide)
 have V1:=fun w=>boxv_any cx cy bx b2 w
 have R1:=fun w=>radius_any cx cy bx b2 w
 have D1':=fun w=>dist_any x y cx cy w
 rw [hk] at C1
 rw [hv] at V1
 rw [eK] at R1
 rw [eD] at D1'
 have C1:=Lib.hid C1
 have V1:=Lib.hid V1
 have R1:=Lib.hid R1
 have DD:=Lib.hid D1'
 clear hk hv eK eD
 unfold brgA at eA
 unfold brgB at eB
 unfold brgF at eF
 have NV:=fun w=>cos_any v w (by omega) (by omega)
 have SV:=fun w=>sin_any v w (by omega) (by omega)
 have SB:=fun w=>sin_any b w (by omega) (by omega)
 generalize cosI v = cv at *
 generalize sinI v = sv at *
 generalize sinI b = sb at *
 have CA:=fun w=>round_any (256 * cv) 1073741824 w (by omega) (by omega) (by omega) (by omega)
 have CB:=fun w=>round_any (-256 * sv) 1073741824 w (by omega) (by omega) (by omega) (by omega)
 have CF:=fun w=>muldivup_any (256 * (D + 1 + K)) (sb + 2) 1073741824 w (by omega) (by omega) (by omega) (by omega) (by omega) (by omega) (by omega) (by omega)
 rw [eA] at CA
 rw [eB] at CB
 rw [eF] at CF
 have CA:=Lib.hid CA
 have CB:=Lib.hid CB
 have CF:=Lib.hid CF
 have NV:=Lib.hid NV
 have SV:=Lib.hid SV
 have SB:=Lib.hid SB
 clear eA eB eF G0 G1
 go_enter Tryz.func20,Tryz.ntmps20
 go_wp2_with fail
 refine (C1.out _).mono ?_
 rintro e w1 ⟨rfl,hb⟩
 obtain ⟨hc,hf⟩:=bcell hb
 have hz0:w.heap.size < w1.heap.size:=by have:=hb.size; simp at this; omega
 have hz1:w.heap.size + 1 < w1.heap.size:=by have:=hb.size; simp at this; omega
 have hA:Below w.heap.size w w1:=(((Below.refl _ _).alloc (Nat.le_refl _) _).alloc (by simp) _).trans (hb.mono (by simp; omega))
 go_wp2_with fail
 refine (V1.out _).mono ?_
 rintro e w2 ⟨rfl,hb2⟩
 obtain ⟨hc2,hf2⟩:=bcell hb2
 have hz2:w.heap.size < w2.heap.size:=Nat.lt_of_lt_of_le hz0 hb2.size
 have hz3:w.heap.size + 1 < w2.heap.size:=Nat.lt_of_lt_of_le hz1 hb2.size
 have hB:=Lib.hid (hA.trans (hb2.mono hA.size))
 go_upto_region 7 with fail
 have hR:RepIs (w2.alloc (.cells #[.int .i64 s,.int .i64 0,.int .i64 0,.int .i64 0,.int .i64 0,.int .i64 wt] 71)) w.heap.size s 3 x y v b wt t:=by unfold RepIs; refine ⟨?_,?_,?_,?_,?_,?_,?_,?_⟩ <;> go_simp
 have hX:BoxIs (w2.alloc (.cells #[.int .i64 s,.int .i64 0,.int .i64 0,.int .i64 0,.int .i64 0,.int .i64 wt] 71)) (w.heap.size + 1) cx cy bx b2:=by unfold BoxIs; refine ⟨?_,?_,?_,?_⟩ <;> go_simp
 have hS:Six (w2.alloc (.cells #[.int .i64 s,.int .i64 0,.int .i64 0,.int .i64 0,.int .i64 0,.int .i64 wt] 71)) w2.heap.size ⟨s,0,0,0,0,wt⟩:=by unfold Six; refine ⟨⟨?_,?_,?_,?_,?_,?_⟩,?_,?_,?_,?_,?_,?_⟩ <;> go_simp
 have hz4:w2.heap.size < (w2.alloc (.cells #[.int .i64 s,.int .i64 0,.int .i64 0,.int .i64 0,.int .i64 0,.int .i64 wt] 71)).heap.size:=by simp
 have hB3:=Lib.hid (hB.out.alloc hB.out.size (.cells #[.int .i64 s,.int .i64 0,.int .i64 0,.int .i64 0,.int .i64 0,.int .i64 wt] 71))
 have hw2:=hB.out.size
 clear hb hc hf hz0 hz1 hA hb2 hc2 hf2 hB
 generalize hW3:w2.alloc (.cells #[.int .i64 s,.int .i64 0,.int .i64 0,.int .i64 0,.int .i64 0,.int .i64 wt] 71) = w3 at *
 clear hW3
 generalize hg:w2.heap.size = g at *
 clear hg w2
 have hz5:w.heap.size < w3.heap.size:=by omega
 have hz6:w.heap.size + 1 < w3.heap.size:=by omega
 have HR:=Lib.hid hR
 have HS:=Lib.hid hS
 clear hR hS
 obtain ⟨p0,p1,p2,p3⟩:=hX
 go_cut [8,9] (Mid w3 K cx cy)
 case first =>
  go_region_with (go_simp; go_at_call 42; (refine (R1.out _).mono ?_); rintro e w4 ⟨rfl,hb4⟩; have d0:=(hb4.cell (p:=⟨w.heap.size + 1,0,none⟩) (by simp; omega)).trans (show _ = some (Value.int .i64 cx) by go_simp); have d1:=(hb4.cell (p:=⟨w.heap.size + 1,1,none⟩) (by simp; omega)).trans (show _ = some (Value.int .i64 cy) by go_simp); have hz7:w3.heap.size≤w4.heap.size:=(by have:=hb4.size; simp at this; omega); have hz8:w.heap.size + 1 < w4.heap.size:=(by omega); first | (have z:=Pair2.keep (pair_new w3 0 0 _) hb4 (lt_new w3 _); obtain ⟨z0,z1,z2,z3⟩:=z) | (have z:=Pair2.keep (pair_new w3 cx cy _) hb4 (lt_new w3 _); obtain ⟨z0,z1,z2,z3⟩:=z) | skip)
  all_goals
   have hW4:Below w3.heap.size w3 w4:=by first | exact (Below.refl _ w3).drew.trans hb4 | exact (((Below.refl _ w3).alloc (Nat.le_refl _) _).drew).trans (hb4.mono (by simp))
   go_wp2_with fail
   go_meet
   first
   | (with_reducible refine mid_b _ hW4 hz7)
   | (with_reducible refine mid_a hW4 (World.block_lt_of_cell? _ _ z0) z0 z1 z2 z3)
   | (with_reducible refine mid_c hW4 (World.block_lt_of_cell? _ _ z0) z0 z1)
   | (refine Mid.drew ?_; with_reducible refine mid_b _ hW4 hz7)
   | (refine Mid.drew ?_; with_reducible refine mid_a hW4 (World.block_lt_of_cell? _ _ z0) z0 z1 z2 z3)
 case rest =>
  obtain ⟨c,rfl,rfl,hc0,hc1,hcx,hcy,hbM⟩:=hcut
  have n1:g≠c:=by omega
  have n2:w.heap.size≠g:=by omega
  have n3:w.heap.size≠c:=by omega
  have n4:c≠g:=by omega
  have R2:=HR.out.keep hbM hz5
  have S2:=HS.out.keep hbM hz4
  have hBM:=Lib.hid (hB3.out.trans (hbM.mono (by have:=hB3.out.size; omega)))
  have z1:w.heap.size < wc.heap.size:=by have:=hbM.size; omega
  have z2:g < wc.heap.size:=by have:=hbM.size; omega
  clear p0 p1 p2 p3 hbM hB3 HR HS hz3 hz4 hz5 hz6 V1 R1 C1
  have HR:=Lib.hid R2
  have HS:=Lib.hid S2
  obtain ⟨r0,r1,r2,r3,r4,r5,r6,r7⟩:=R2
  clear S2
  go_wp2_with fail
  refine (DD.out _).mono ?_
  rintro e w5 ⟨rfl,hb5⟩
  have R2:=HR.out.keep hb5 z1
  have S2:=HS.out.keep hb5 z2
  have hB5:=Lib.hid (hBM.out.trans (hb5.mono (by have:=hBM.out.size; omega)))
  have y1:w.heap.size < w5.heap.size:=by have:=hb5.size; omega
  have y2:g < w5.heap.size:=by have:=hb5.size; omega
  have q0:=(hb5.cell (p:=⟨c,0,none⟩) hc1).trans hcx
  have q1:=(hb5.cell (p:=⟨c,1,none⟩) hc1).trans hcy
  clear r0 r1 r2 r3 r4 r5 r6 r7 HR HS hBM z1 z2 hb5 hcx hcy hc0 hc1
  have HR:=Lib.hid R2
  have HS:=Lib.hid S2
  obtain ⟨r0,r1,r2,r3,r4,r5,r6,r7⟩:=R2
  obtain ⟨⟨m0,m1,m2,m3,m4,m5⟩,f0,f1,f2,f3,f4,f5⟩:=S2
  go_wp2_with fail
  refine (NV.out _).mono ?_
  rintro e w6 ⟨rfl,rfl⟩
  go_wp2_with fail
  refine (CA.out _).mono ?_
  rintro e w6 ⟨rfl,ka,rfl⟩
  go_wp2_with fail
  refine (SV.out _).mono ?_
  rintro e w6 ⟨rfl,rfl⟩
  go_wp2_with fail
  refine (CB.out _).mono ?_
  rintro e w6 ⟨rfl,kb,rfl⟩
  go_wp2_with fail
  refine (SB.out _).mono ?_
  rintro e w6 ⟨rfl,rfl⟩
  go_wp2_with fail
  refine (CF.out _).mono ?_
  rintro e w6 ⟨rfl,kf,rfl⟩
  go_upto_region 31 with fail
  have S9:Six (((((((w5.drewN ka).setCell ⟨g,1,none⟩ (.int .i64 A)).drewN kb).setCell ⟨g,2,none⟩ (.int .i64 B)).setCell ⟨g,3,none⟩ (.int .i64 (A * x + B * y))).drewN kf).setCell ⟨g,4,none⟩ (.int .i64 (D + 1 + K + F))) g ⟨s,A,B,A * x + B * y,D + 1 + K + F,wt⟩:=by unfold Six; refine ⟨⟨?_,?_,?_,?_,?_,?_⟩,?_,?_,?_,?_,?_,?_⟩ <;> go_simp
  have hB9:=Lib.hid ((below_drewN (((below_drewN ((below_drewN hB5.out ka).setCell (p:=⟨g,1,none⟩) hw2 (.int .i64 A)) kb).setCell (p:=⟨g,2,none⟩) hw2 (.int .i64 B)).setCell (p:=⟨g,3,none⟩) hw2 (.int .i64 (A * x + B * y))) kf).setCell (p:=⟨g,4,none⟩) hw2 (.int .i64 (D + 1 + K + F)))
  clear r0 r1 r2 r3 r4 r5 r6 r7 m0 m1 m2 m3 m4 m5 f0 f1 f2 f3 f4 f5 HR HS hB5
  generalize ((((((w5.drewN ka).setCell ⟨g,1,none⟩ (.int .i64 A)).drewN kb).setCell ⟨g,2,none⟩ (.int .i64 B)).setCell ⟨g,3,none⟩ (.int .i64 (A * x + B * y))).drewN kf).setCell ⟨g,4,none⟩ (.int .i64 (D + 1 + K + F)) = w9 at *
  obtain ⟨⟨m0,m1,m2,m3,m4,m5⟩,-⟩:=S9
  go_wp2
  go_ret2
  refine ⟨_,rfl,.inr ⟨w9.heap.size,by simp,rfl,hB9.out.size,?_⟩,hB9.out.alloc hB9.out.size _⟩
  show (w9.heap.push _)[w9.heap.size]? = _
  rw [Array.getElem?_push_size]
  rfl
end Go.Proofs.YtajmjkliblippaaGreatDoor.S41
namespace Go.Proofs.YtajmjkliblippaaGreatDoor.S41
open Go.RowKit Tr Sq
theorem mul_bd {a x k c:Int} (a0:-k≤a) (a1:a≤k) (x0:-c≤x) (x1:x≤c):-(k * c)≤a * x∧a * x≤k * c:=by
 have hk:0≤k:=by omega
 have hc:0≤c:=by omega
 rcases Int.le_total 0 a with ha | ha
 ·have h1:=Int.mul_le_mul_of_nonneg_left x1 ha
  have h2:=Int.mul_le_mul_of_nonneg_left x0 ha
  have h3:=Int.mul_le_mul_of_nonneg_right a1 hc
  rw [Int.mul_neg] at h2
  omega
 ·have h1:=Int.mul_le_mul_of_nonneg_left x1 (show 0≤-a by omega)
  have h2:=Int.mul_le_mul_of_nonneg_left x0 (show 0≤-a by omega)
  have h3:=Int.mul_le_mul_of_nonneg_right (show -a≤k by omega) hc
  simp only [Int.neg_mul,Int.mul_neg,Int.neg_neg] at h1 h2 h3
  omega
theorem ceil_bd {p c m:Int} (hc:0 < c) (h0:0≤p) (h1:p≤m * c):0≤ceilI p c∧ceilI p c≤m:=by
 unfold ceilI
 constructor
 ·have:(-p) / c≤0:=by
   have:=Int.ediv_le_ediv hc (show -p≤0 by omega)
   rwa [Int.zero_ediv] at this
  omega
 ·have:-m≤(-p) / c:=by
   rw [Int.le_ediv_iff_mul_le hc,Int.neg_mul]
   omega
  omega
theorem K_bd {K:Int} (K0:0≤K) (K1:K≤2828428):0≤K * K∧K * K≤9000000000000:=by
 obtain ⟨a,b⟩:=sq_bd (x:=K) (k:=2828428) (by omega) K1
 omega
theorem rngF_bd {D K:Int} (K0:0≤K) (K1:K≤2828428) (h1:6000≤D) (h2:4 * K≤D):0≤rngF D K∧rngF D K≤500000:=by
 have hp:K * K≤500000 * (2 * (D - K)):=by
  have h3:K * K≤2828428 * K:=Int.mul_le_mul_of_nonneg_right K1 K0
  omega
 exact ceil_bd (by omega) (Sq.sq_nonneg K) hp
theorem rngAB_bd {x y cx cy D:Int} (hp:(pvB x y && pvB cx cy) = true) (eD:distI x y cx cy = D) (hD:0 < D):(-256≤rngA x cx D∧rngA x cx D≤256)∧(-256≤rngA y cy D∧rngA y cy D≤256):=by
 have h:=side_dist hp
 rw [eD] at h
 exact ⟨near_bd2 hD (by omega) (by omega),near_bd2 hD (by omega) (by omega)⟩
theorem sin_pos {b:Int} (h0:0≤b) (h1:b≤3600000):0≤sinI b∧sinI b≤1073741824:=by
 refine ⟨?_,(sinI_range b).2⟩
 rw [sinI_oct h0 (by omega)]
 exact (sineI_range h0 (by omega)).1
theorem brgG_bd {G s:Int} (G0:0≤G) (G1:G≤8485283) (s0:0≤s) (s1:s≤1073741824):0≤256 * G * (s + 2)∧256 * G * (s + 2)≤2172232453 * 1073741824:=by
 have a:0≤G * (s + 2):=Int.mul_nonneg G0 (by omega)
 have b:G * (s + 2)≤8485283 * (s + 2):=Int.mul_le_mul_of_nonneg_right G1 (by omega)
 have e:256 * G * (s + 2) = 256 * (G * (s + 2)):=Int.mul_assoc _ _ _
 rw [e]
 omega
theorem brgAB_bd (v:Int):(-256≤brgA v∧brgA v≤256)∧(-256≤brgB v∧brgB v≤256):=by
 have a:=cosI_range v
 have b:=sinI_range v
 exact ⟨near_bd2 (by decide) (by omega) (by omega),near_bd2 (by decide) (by omega) (by omega)⟩
theorem brgF_bd {b G:Int} (h0:0≤b) (h1:b≤3600000) (G0:0≤G) (G1:G≤8485283):0≤brgF b G∧brgF b G≤2172232453:=by
 obtain ⟨a,c⟩:=sin_pos h0 h1
 obtain ⟨d,e⟩:=brgG_bd G0 G1 a c
 exact ceil_bd (by decide) d e
def RowsE (w:World) (r:List Ms × Int) (e:Ending) (w':World):Prop:=∃ u,e = .returned (.tuple #[u,.int .i64 r.2])∧RowsIs w r.1 u w'∧Below w.heap.size w w'
set_option maxHeartbeats 2000000
set_option maxRecDepth 100000
theorem rows_err1 (s k x y v b wt t cx cy bx b2:Int) (w:World) (k0:0≤k) (k1:k≤255) (h:checkI s k x y v b wt t≠0) :
 Calls Tryz.prog 20 #[.agg #[.int .i64 s,.int .u8 k,.int .i64 x,.int .i64 y,.int .i64 v,.int .i64 b,.int .i64 wt,.int .i64 t],.agg #[.int .i64 cx,.int .i64 cy,.int .i64 bx,.int .i64 b2]] w (RowsE w ([],checkI s k x y v b wt t)):=by
 have C0:=fun w=>check_any s k x y v b wt t w k0 k1
 have g1:(checkI s k x y v b wt t == 0) = false:=by simpa using h
 have g1':(checkI s k x y v b wt t != 0) = true:=by simpa using h
 clear h
 generalize checkI s k x y v b wt t = en at *
 have C:=Lib.hid C0
 clear C0
 go_enter Tryz.func20,Tryz.ntmps20
 go_wp2_with fail
 refine (C.out _).mono ?_
 rintro e w1 ⟨rfl,hb⟩
 go_wp2
 go_ret2
 exact ⟨_,rfl,.inl ⟨rfl,rfl⟩,below_two hb⟩
theorem rows_err2 (s k x y v b wt t cx cy bx b2:Int) (w:World) (k0:0≤k) (k1:k≤255) (h:checkI s k x y v b wt t = 0) (hv:boxV cx cy bx b2 = false) :
 Calls Tryz.prog 20 #[.agg #[.int .i64 s,.int .u8 k,.int .i64 x,.int .i64 y,.int .i64 v,.int .i64 b,.int .i64 wt,.int .i64 t],.agg #[.int .i64 cx,.int .i64 cy,.int .i64 bx,.int .i64 b2]] w (RowsE w ([],1)):=by
 have C0:=fun w=>check_any s k x y v b wt t w k0 k1
 have V0:=fun w=>boxv_any cx cy bx b2 w
 rw [h] at C0
 rw [hv] at V0
 have C:=Lib.hid C0
 have V:=Lib.hid V0
 clear C0 V0 h hv
 go_enter Tryz.func20,Tryz.ntmps20
 go_wp2_with fail
 refine (C.out _).mono ?_
 rintro e w1 ⟨rfl,hb⟩
 obtain ⟨hc,hf⟩:=bcell hb
 have hz1:w.heap.size + 1 < w1.heap.size:=by have:=hb.size; simp at this; omega
 go_wp2_with fail
 refine (V.out _).mono ?_
 rintro e w2 ⟨rfl,hb2⟩
 have HB:=Lib.hid ((below_two hb).trans (hb2.mono (below_two hb).size))
 clear hb hb2 hc hf
 go_wp2
 go_ret2
 exact ⟨_,rfl,.inl ⟨rfl,rfl⟩,HB.out⟩
set_option maxHeartbeats 200000
set_option maxRecDepth 512
theorem rows_any (s k x y v b wt t cx cy bx b2:Int) (w:World) (k0:0≤k) (k1:k≤255) :
 Calls Tryz.prog 20 #[.agg #[.int .i64 s,.int .u8 k,.int .i64 x,.int .i64 y,.int .i64 v,.int .i64 b,.int .i64 wt,.int .i64 t],.agg #[.int .i64 cx,.int .i64 cy,.int .i64 bx,.int .i64 b2]] w (RowsE w (rowsF s k x y v b wt t cx cy bx b2)):=by
 by_cases h:checkI s k x y v b wt t = 0
 ·cases hv:boxV cx cy bx b2 with
  | false =>
   have e:rowsF s k x y v b wt t cx cy bx b2 = ([],1):=by unfold rowsF; rw [if_pos h,if_neg (by rw [hv]; decide)]
   rw [e]
   exact rows_err2 s k x y v b wt t cx cy bx b2 w k0 k1 h hv
  | true =>
   obtain ⟨-,hk,⟨x0,x1,y0,y1⟩,-,-,-,-⟩:=check_bd h
   obtain ⟨hA,hR⟩:=check_ok.1 h
   have hR':=okR_iff.1 hR
   have bx':=boxV_iff.1 hv
   have hp:(pvB x y && pvB cx cy) = true:=by
    rw [Bool.and_eq_true]; exact ⟨(okA_iff.1 hA).2.2.2.1 |> pvB_iff.2,pvB_iff.2 bx'.1⟩
   obtain ⟨K0,K1⟩:=rad_bd hv
   obtain ⟨D0,D1⟩:=dist_bd x y cx cy
   rcases hk with rfl | rfl | rfl
   ·have e:rowsF s 1 x y v b wt t cx cy bx b2 = ([⟨s,256,0,256 * x,256 * b,wt⟩,⟨s,0,256,256 * y,256 * b,wt⟩],0):=by unfold rowsF; rw [if_pos h,if_pos hv,if_pos rfl]
    rw [e]
    have hb':0≤b∧b≤600000:=hR'.2.1
    exact rows_pos s x y v b wt t cx cy bx b2 w h (by unfold wrap64; omega) (by unfold wrap64; omega) (by unfold wrap64; omega) hv
   ·by_cases hg:distI x y cx cy < 6000∨distI x y cx cy < 4 * radI cx cy bx b2
    ·have e:rowsF s 2 x y v b wt t cx cy bx b2 = ([],10):=by unfold rowsF; rw [if_pos h,if_pos hv,if_neg (by decide),if_pos rfl,if_pos hg]
     rw [e]
     exact rows_rng_no s x y v b wt t cx cy bx b2 _ _ w h hv rfl rfl ⟨x0,x1⟩ ⟨y0,y1⟩ (by omega) (by omega) hR'.2.2 hR'.2.1 K0 K1 D0 D1 hg
    ·have e:rowsF s 2 x y v b wt t cx cy bx b2 = ([rngM s x y v b wt cx cy (distI x y cx cy) (radI cx cy bx b2)],0):=by unfold rowsF; rw [if_pos h,if_pos hv,if_neg (by decide),if_pos rfl,if_neg hg]
     rw [e]
     obtain ⟨a,c⟩:=rngAB_bd hp rfl (by omega)
     obtain ⟨f0,f1⟩:=rngF_bd K0 K1 (show 6000≤distI x y cx cy by omega) (by omega)
     have pa:=mul_bd a.1 a.2 (show -2000000≤cx by omega) (by omega)
     have pb:=mul_bd c.1 c.2 (show -2000000≤cy by omega) (by omega)
     exact rows_rng_ok s x y v b wt t cx cy bx b2 _ _ _ _ _ w h hv rfl rfl ⟨x0,x1⟩ ⟨y0,y1⟩ (by omega) (by omega) hR'.2.2 hR'.2.1 K0 K1 D0 D1 (by omega) (by omega) rfl rfl rfl a c ⟨f0,by omega⟩ (by omega) (by omega) (K_bd K0 K1)
   ·have e:rowsF s 3 x y v b wt t cx cy bx b2 = ([brgM s x y v b wt (distI x y cx cy) (radI cx cy bx b2)],0):=by unfold rowsF; rw [if_pos h,if_pos hv,if_neg (by decide),if_neg (by decide)]
    rw [e]
    obtain ⟨a,c⟩:=brgAB_bd v
    have hb':0≤b∧b≤3600000:=hR'.2.1
    obtain ⟨f0,f1⟩:=brgF_bd hb'.1 hb'.2 (show 0≤distI x y cx cy + 1 + radI cx cy bx b2 by omega) (by omega)
    have pa:=mul_bd a.1 a.2 (show -2000000≤x by omega) (by omega)
    have pb:=mul_bd c.1 c.2 (show -2000000≤y by omega) (by omega)
    obtain ⟨g0,g1⟩:=brgG_bd (show 0≤distI x y cx cy + 1 + radI cx cy bx b2 by omega) (by omega) (sin_pos hb'.1 hb'.2).1 (sin_pos hb'.1 hb'.2).2
    exact rows_brg s x y v b wt t cx cy bx b2 _ _ _ _ _ w h hv rfl rfl ⟨x0,x1⟩ ⟨y0,y1⟩ hR'.2.2 hb' K0 K1 D0 D1 rfl rfl rfl a c ⟨f0,by omega⟩ (by omega) (by omega) (cosI_range v) (sinI_range v) (sin_pos hb'.1 hb'.2) ⟨g0,by omega⟩
 ·have e:rowsF s k x y v b wt t cx cy bx b2 = ([],checkI s k x y v b wt t):=by unfold rowsF; rw [if_neg h]
  rw [e]
  exact rows_err1 s k x y v b wt t cx cy bx b2 w k0 k1 h
end Go.Proofs.YtajmjkliblippaaGreatDoor.S41
namespace Go.Proofs.YtajmjkliblippaaGreatDoor.S41
open Tr Sq
def SmallM (m:Ms):Prop:=(-256≤m.a∧m.a≤256)∧(-256≤m.b∧m.b≤256)∧¬(m.a = 0∧m.b = 0)∧(-4294967296≤m.z∧m.z≤4294967296)∧0≤m.d∧m.d≤4294967296
theorem quarter_big {a:Int} (h0:16200000≤a) (h1:a≤32400000):759250125≤quarterI a:=by
 unfold quarterI
 split
 ·obtain rfl:a = 16200000:=by omega
  rw [sineI_E]; omega
 ·exact (cosineI_range (by omega) (by omega)).1
theorem sinB_big {b:Int} (h0:0≤b) (h1:b < 129600000) (h:(16200000≤b∧b≤48600000)∨(81000000≤b∧b≤113400000)):759250125≤sinB b∨sinB b≤-759250125:=by
 unfold sinB
 split
 ·left; exact quarter_big (by omega) (by omega)
 ·split
  ·left; exact quarter_big (by omega) (by omega)
  ·split
   ·right; have:=quarter_big (a:=b - 64800000) (by omega) (by omega); omega
   ·right; have:=quarter_big (a:=129600000 - b) (by omega) (by omega); omega
theorem sincos_big (v:Int):(759250125≤sinI v∨sinI v≤-759250125)∨(759250125≤cosI v∨cosI v≤-759250125):=by
 have hb:=normI_range v
 have hc:=normI_range (turnI v 32400000)
 have e:normI (turnI v 32400000) = (if normI v < 97200000 then normI v + 32400000 else normI v - 97200000):=by
  unfold turnI normI; split <;> omega
 unfold cosI sinI
 rw [e] at hc ⊢
 generalize normI v = b at *
 by_cases h:(16200000≤b∧b≤48600000)∨(81000000≤b∧b≤113400000)
 ·left; exact sinB_big (by omega) (by omega) h
 ·right
  split at hc <;> rename_i h2
  ·rw [if_pos h2]; exact sinB_big (by omega) (by omega) (by omega)
  ·rw [if_neg h2]; exact sinB_big (by omega) (by omega) (by omega)
theorem near_nz {p c:Int} (hc:0 < c) (h:c≤2 * p∨2 * p≤-(3 * c)):nearI2 p c≠0:=by
 unfold nearI2
 intro e
 have h1:=Int.ediv_mul_le (2 * p + c) (show 2 * c≠0 by omega)
 have h2:=Int.lt_ediv_add_one_mul_self (2 * p + c) (show 0 < 2 * c by omega)
 rw [e] at h1 h2
 omega
theorem brg_nz (v:Int):¬(brgA v = 0∧brgB v = 0):=by
 rintro ⟨h0,h1⟩
 unfold brgA at h0
 unfold brgB at h1
 rcases sincos_big v with h | h
 ·exact near_nz (by decide) (by omega) h1
 ·exact near_nz (by decide) (by omega) h0
theorem rng_nz {x y cx cy D:Int} (hp:(pvB x y && pvB cx cy) = true) (eD:distI x y cx cy = D) (hD:0 < D):¬(rngA x cx D = 0∧rngA y cy D = 0):=by
 rintro ⟨h0,h1⟩
 unfold rngA at h0 h1
 obtain ⟨d0,dm,-⟩:=d2_bd hp
 have hsq:D * D≤d2 x y cx cy:=by
  rw [← eD]
  unfold distI
  rw [if_pos hp]
  exact (isq_is d0 (by omega)).le
 have key:∀ u:Int,nearI2 (256 * u) D = 0→-D < 2 * u∧2 * u < D:=by
  intro u hu
  constructor
  ·refine Classical.byContradiction fun h=>near_nz hD ?_ hu
   omega
  ·refine Classical.byContradiction fun h=>near_nz hD ?_ hu
   omega
 obtain ⟨a0,a1⟩:=key _ h0
 obtain ⟨b0,b1⟩:=key _ h1
 have s1:∀ u:Int,-D < 2 * u→2 * u < D→4 * (u * u) < D * D:=by
  intro u h0 h1
  have hu:∃ t:Int,0≤t∧2 * t < D∧t * t = u * u:=by
   rcases Int.le_total 0 u with h | h
   ·exact ⟨u,h,h1,rfl⟩
   ·exact ⟨-u,by omega,by omega,Int.neg_mul_neg u u⟩
  obtain ⟨t,t0,t1,t2⟩:=hu
  have e1:(2 * t) * (2 * t)≤(D - 1) * (D - 1):=sq_le (by omega) (by omega)
  have e3:(D - 1) * (D - 1) = D * D - 2 * D + 1:=by grind
  have e2:(2 * t) * (2 * t) = 4 * (t * t):=by grind
  omega
 have c1:=s1 _ a0 a1
 have c2:=s1 _ b0 b1
 have p1:=Sq.sq_nonneg (cx - x)
 have p2:=Sq.sq_nonneg (cy - y)
 unfold d2 at hsq
 omega
theorem rows_small {s k x y v b wt t cx cy bx b2:Int}:((rowsF s k x y v b wt t cx cy bx b2).2≠0∧(rowsF s k x y v b wt t cx cy bx b2).1 = []) ∨
 ((rowsF s k x y v b wt t cx cy bx b2).2 = 0∧((∃ m,(rowsF s k x y v b wt t cx cy bx b2).1 = [m]∧SmallM m)∨(k = 1∧∃ m n,(rowsF s k x y v b wt t cx cy bx b2).1 = [m,n]∧SmallM m∧SmallM n))):=by
 by_cases h:checkI s k x y v b wt t = 0
 ·cases hv:boxV cx cy bx b2 with
  | false =>
   left
   unfold rowsF; rw [if_pos h,if_neg (by rw [hv]; decide)]
   exact ⟨by decide,rfl⟩
  | true =>
   obtain ⟨-,hk,⟨x0,x1,y0,y1⟩,-,-,-,-⟩:=check_bd h
   obtain ⟨hA,hR⟩:=check_ok.1 h
   have hR':=okR_iff.1 hR
   have bx':=boxV_iff.1 hv
   have hp:(pvB x y && pvB cx cy) = true:=by
    rw [Bool.and_eq_true]; exact ⟨(okA_iff.1 hA).2.2.2.1 |> pvB_iff.2,pvB_iff.2 bx'.1⟩
   obtain ⟨K0,K1⟩:=rad_bd hv
   obtain ⟨D0,D1⟩:=dist_bd x y cx cy
   rcases hk with rfl | rfl | rfl
   ·have hb':0≤b∧b≤600000:=hR'.2.1
    right
    unfold rowsF; rw [if_pos h,if_pos hv,if_pos rfl]
    refine ⟨rfl,.inr ⟨rfl,_,_,rfl,?_,?_⟩⟩ <;> (unfold SmallM; simp only; omega)
   ·have hb':0≤b∧b≤600000:=hR'.2.1
    have hv':0≤v∧v≤8000000:=hR'.2.2
    by_cases hg:distI x y cx cy < 6000∨distI x y cx cy < 4 * radI cx cy bx b2
    ·left
     unfold rowsF; rw [if_pos h,if_pos hv,if_neg (by decide),if_pos rfl,if_pos hg]
     exact ⟨by decide,rfl⟩
    ·right
     unfold rowsF; rw [if_pos h,if_pos hv,if_neg (by decide),if_pos rfl,if_neg hg]
     refine ⟨rfl,.inl ⟨_,rfl,?_⟩⟩
     obtain ⟨a,c⟩:=rngAB_bd hp rfl (by omega)
     obtain ⟨f0,f1⟩:=rngF_bd K0 K1 (show 6000≤distI x y cx cy by omega) (by omega)
     have pa:=mul_bd a.1 a.2 (show -2000000≤cx by omega) (by omega)
     have pb:=mul_bd c.1 c.2 (show -2000000≤cy by omega) (by omega)
     have nz:=rng_nz hp rfl (show 0 < distI x y cx cy by omega)
     unfold SmallM rngM
     simp only
     exact ⟨a,c,nz,by omega,by omega⟩
   ·have hb':0≤b∧b≤3600000:=hR'.2.1
    right
    unfold rowsF; rw [if_pos h,if_pos hv,if_neg (by decide),if_neg (by decide)]
    refine ⟨rfl,.inl ⟨_,rfl,?_⟩⟩
    obtain ⟨a,c⟩:=brgAB_bd v
    obtain ⟨f0,f1⟩:=brgF_bd hb'.1 hb'.2 (show 0≤distI x y cx cy + 1 + radI cx cy bx b2 by omega) (by omega)
    have pa:=mul_bd a.1 a.2 (show -2000000≤x by omega) (by omega)
    have pb:=mul_bd c.1 c.2 (show -2000000≤y by omega) (by omega)
    unfold SmallM brgM
    simp only
    exact ⟨a,c,brg_nz v,by omega,by omega⟩
 ·left
  unfold rowsF; rw [if_neg h]
  exact ⟨h,rfl⟩
end Go.Proofs.YtajmjkliblippaaGreatDoor.S41
