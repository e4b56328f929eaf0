/-
  Walks and laws of the layers below, gathered from several texts.
-/
import Derived.Laws.OwnMore
import Derived.Lib.Hide
import Derived.Test.YtajmjkliblippaaGreatDoorShelfQ
import Derived.WalkKit
import Derived.WalkSpells
import Derived.IntWalk
import Derived.BigQuiet
import Derived.Deep.QuietTactic
import Derived.Deep.LoopGhost
import Derived.LoopTactic
import Derived.Deep.Cut
import Derived.Maps.AppendAt
import Derived.OwnWalk
import Derived.OneCell
import Derived.Lib.SmallJoins
import Derived.Deep.Onto
import Derived.Test.YtajmjkliblippaaGreatDoorQ9
import Derived.Test.YtajmjkliblippaaGreatDoorQ18
import Derived.Test.YtajmjkliblippaaGreatDoorQ19
import Derived.Test.YtajmjkliblippaaGreatDoorQ21
import Derived.Test.YtajmjkliblippaaGreatDoorQ23
import Derived.Test.YtajmjkliblippaaGreatDoorQ24
import Derived.Test.YtajmjkliblippaaGreatDoorQ25
set_option linter.unusedVariables false
namespace Go.Proofs.YtajmjkliblippaaGreatDoor
open Go.RowKit
set_option maxHeartbeats 40000000
set_option maxRecDepth 100000
theorem fix_any (l:List Ms) (v:Value) (a:Bx4) (w:World) (h:LstAt l v w):Calls Tryz.prog 33 #[v,.agg #[.int .i64 a.cx,.int .i64 a.cy,.int .i64 a.x,.int .i64 a.y]] w fun e w'=>e = .returned (.tuple #[.agg #[.int .i64 (fixF l a).1.1.cx,.int .i64 (fixF l a).1.1.cy,.int .i64 (fixF l a).1.1.x,.int .i64 (fixF l a).1.1.y],.int .i64 (fixF l a).1.2,.bool (fixF l a).2])∧Below w.heap.size w w':=by
 have EV0:fixF l a = if (S44.fltF l).2 = 0 then (if (levF (woL l (S44.fltF l).1)).2 = 0 then (((mrgF a (toB (levF (woL l (S44.fltF l).1)).1)).1,(S44.fltF l).1),decide ((mrgF a (toB (levF (woL l (S44.fltF l).1)).1)).2 = 0)) else ((bx0,0),false)) else ((bx0,0),false):=rfl
 have FL:=Lib.hid fun w h=>S44.flt_any l v w h
 unfold S44.FlP at FL
 have WL:=Lib.hid fun (h:(S44.fltF l).2 = 0)=>show l.length≤18 from Nat.le_trans (okL_of (flt_chk2 h)).len (by omega)
 generalize fixF l a = q at *
 generalize S44.fltF l = R at *
 obtain ⟨k,e⟩:=R
 simp only at FL WL EV0
 have LV:=Lib.hid fun u w h=>lev_any (woL l k) u w h
 generalize levF (woL l k) = R at *
 obtain ⟨⟨c0,c1,c2,c3⟩,el⟩:=R
 unfold toB at EV0
 unfold boxV at LV
 simp only at LV EV0
 have MG:=Lib.hid fun w=>merge_any a ⟨c0,c1,c2,c3⟩ w
 have EV1:=Lib.hid EV0
 clear EV0
 have EV0:=EV1
 clear EV1
 obtain ⟨ax,ay,a1,a2⟩:=a
 simp only at MG
 obtain ⟨KP,KZ,HB⟩:=ent2 w #[.int .i64 ax,.int .i64 ay,.int .i64 a1,.int .i64 a2] 25 #[.int .i64 0,.int .i64 0,.int .i64 0,.int .i64 0] 25
 have HL:=Lib.hid (h.below (((Below.refl w.heap.size w).alloc (Nat.le_refl _) (.cells #[.int .i64 ax,.int .i64 ay,.int .i64 a1,.int .i64 a2] 25)).alloc (by simp) (.cells #[.int .i64 0,.int .i64 0,.int .i64 0,.int .i64 0] 25)))
 go_enter Tryz.func33,Tryz.ntmps33
 go_wp2_with fail
 generalize (w.alloc _).alloc _ = w0 at *
 refine (FL.out _ HL.out).mono ?_
 rintro e1 w1 ⟨rfl,hb1⟩
 refine up2 hb1 HB KP KZ ?_
 clear HB KP KZ
 intro HB KP KZ
 replace HL:=Lib.hid (HL.out.below hb1)
 clear hb1
 by_cases he:e = 0
 ·subst he
  have LN:=WL.out rfl
  replace EV0:=Lib.hid (EV0.out.trans (if_pos rfl))
  clear WL
  go_wp2_with fail
  refine (wo_any l k v _ HL.out LN).mono ?_
  rintro e34 w34 ⟨⟨u2,rfl,ho2⟩,hb34⟩
  refine up2 hb34 HB KP KZ ?_
  clear HB KP KZ
  intro HB KP KZ
  replace HL:=Lib.hid (HL.out.below hb34)
  clear hb34
  have OL2:=Lib.hid ho2.lst
  clear ho2 LN
  have LV2:=Lib.hid fun w h=>LV.out u2 w h
  clear LV
  go_wp2_with fail
  refine (LV2.out _ OL2.out).mono ?_
  rintro e35 w35 ⟨rfl,hb35⟩
  refine up2 hb35 HB KP KZ ?_
  clear HB KP KZ
  intro HB KP KZ
  replace OL2:=Lib.hid (OL2.out.below hb35)
  clear hb35
  clear LV2
  go_upto_region 5 with (fail)
  obtain ⟨KL,hb36⟩:=alB w35 #[.int .i64 c0,.int .i64 c1,.int .i64 c2,.int .i64 c3] 25
  have hnL:=HB.out.size
  have nzL_P:=KP.out.lt
  have nzL_Z:=KZ.out.lt
  refine up2 hb36 HB KP KZ ?_
  clear HB KP KZ
  intro HB KP KZ
  replace OL2:=Lib.hid (OL2.out.below hb36)
  clear hb36
  generalize w35.alloc _ = w36 at *
  generalize w35.heap.size = bL at *
  have neL_P:bL≠w.heap.size:=by omega
  have neL_Z:bL≠(w.heap.size + 1):=by omega
  clear nzL_P nzL_Z
  by_cases hl:el = 0
  ·subst hl
   replace EV0:=Lib.hid (EV0.out.trans (if_pos rfl))
   have MG2:=MG.out
   generalize mrgF ⟨ax,ay,a1,a2⟩ ⟨c0,c1,c2,c3⟩ = R at *
   obtain ⟨⟨d0,d1,d2,d3⟩,em⟩:=R
   simp only at MG2
   have MG3:=Lib.hid MG2
   clear MG MG2
   obtain ⟨yP0,yP1,yP2,yP3,yPz⟩:=blk4 KP
   obtain ⟨yL0,yL1,yL2,yL3,yLz⟩:=blk4 KL
   go_wp2_with fail
   refine (MG3.out _).mono ?_
   rintro e37 w37 ⟨rfl,hb37⟩
   refine up3 hb37 HB KP KZ KL ?_
   clear HB KP KZ KL
   intro HB KP KZ KL
   replace OL2:=Lib.hid (OL2.out.below hb37)
   clear yP0 yP1 yP2 yP3 yPz yL0 yL1 yL2 yL3 yLz
   clear hb37
   clear MG3
   go_upto_region 8 with (fail)
   obtain ⟨KC,hb38⟩:=alB w37 #[.int .i64 d0,.int .i64 d1,.int .i64 d2,.int .i64 d3] 25
   have hnC:=HB.out.size
   have nzC_P:=KP.out.lt
   have nzC_Z:=KZ.out.lt
   have nzC_L:=KL.out.lt
   refine up3 hb38 HB KP KZ KL ?_
   clear HB KP KZ KL
   intro HB KP KZ KL
   replace OL2:=Lib.hid (OL2.out.below hb38)
   clear hb38
   generalize w37.alloc _ = w38 at *
   generalize w37.heap.size = bC at *
   have neC_P:bC≠w.heap.size:=by omega
   have neC_Z:bC≠(w.heap.size + 1):=by omega
   have neC_L:bC≠bL:=by omega
   clear nzC_P nzC_Z nzC_L
   by_cases hm:em = 0
   ·subst hm
    have EV:=EV0
    clear EV0
    obtain ⟨yZ0,yZ1,yZ2,yZ3,yZz,yZf0,yZf1,yZf2,yZf3⟩:=blf4 KZ
    obtain ⟨yC0,yC1,yC2,yC3,yCz⟩:=blk4 KC
    go_wp2
    replace KZ:=kst (kst (kst (kst KZ 0 (.int .i64 d0)) 1 (.int .i64 d1)) 2 (.int .i64 d2)) 3 (.int .i64 d3)
    refine ot3 (st4 w38 (w.heap.size + 1) 0 (.int .i64 d0) 1 (.int .i64 d1) 2 (.int .i64 d2) 3 (.int .i64 d3)) HB KP KL KC (by omega) (by omega) (by omega) (by omega) ?_
    clear HB KP KL KC
    intro HB KP KL KC
    clear yZ0 yZ1 yZ2 yZ3 yZz yZf0 yZf1 yZf2 yZf3 yC0 yC1 yC2 yC3 yCz
    generalize (((w38.setCell _ _).setCell _ _).setCell _ _).setCell _ _ = w39 at *
    simp only [List.set] at KZ
    obtain ⟨yZ0,yZ1,yZ2,yZ3,yZz⟩:=blk4 KZ
    refine bodyPost_ret (v:=.tuple #[.agg #[.int .i64 d0,.int .i64 d1,.int .i64 d2,.int .i64 d3],.int .i64 k,.bool true]) (by simp [results,Tryz.results33,go_sem,yZ0,yZ1,yZ2,yZ3]) rfl ⟨by first | (rw [EV.out]; done) | (rw [EV.out]; rfl),HB.out⟩
   ·have gm:(em == 0) = false:=by simpa using hm
    have EV:=Lib.hid (EV0.out.trans (by rw [show decide (em = 0) = false by simpa using hm]))
    clear EV0 hm
    obtain ⟨yZ0,yZ1,yZ2,yZ3,yZz,yZf0,yZf1,yZf2,yZf3⟩:=blf4 KZ
    obtain ⟨yC0,yC1,yC2,yC3,yCz⟩:=blk4 KC
    go_wp2
    replace KZ:=kst (kst (kst (kst KZ 0 (.int .i64 d0)) 1 (.int .i64 d1)) 2 (.int .i64 d2)) 3 (.int .i64 d3)
    refine ot3 (st4 w38 (w.heap.size + 1) 0 (.int .i64 d0) 1 (.int .i64 d1) 2 (.int .i64 d2) 3 (.int .i64 d3)) HB KP KL KC (by omega) (by omega) (by omega) (by omega) ?_
    clear HB KP KL KC
    intro HB KP KL KC
    clear yZ0 yZ1 yZ2 yZ3 yZz yZf0 yZf1 yZf2 yZf3 yC0 yC1 yC2 yC3 yCz
    generalize (((w38.setCell _ _).setCell _ _).setCell _ _).setCell _ _ = w39 at *
    simp only [List.set] at KZ
    obtain ⟨yZ0,yZ1,yZ2,yZ3,yZz⟩:=blk4 KZ
    refine bodyPost_ret (v:=.tuple #[.agg #[.int .i64 d0,.int .i64 d1,.int .i64 d2,.int .i64 d3],.int .i64 k,.bool false]) (by simp [results,Tryz.results33,go_sem,yZ0,yZ1,yZ2,yZ3]) rfl ⟨by first | (rw [EV.out]; done) | (rw [EV.out]; rfl),HB.out⟩
  ·have EV:=Lib.hid (EV0.out.trans (if_neg hl))
   have gl:(el != 0) = true:=by simpa using hl
   clear EV0 hl MG
   obtain ⟨yZ0,yZ1,yZ2,yZ3,yZz,yZf0,yZf1,yZf2,yZf3⟩:=blf4 KZ
   go_wp2
   replace KZ:=kst (kst (kst (kst KZ 0 (.int .i64 0)) 1 (.int .i64 0)) 2 (.int .i64 0)) 3 (.int .i64 0)
   refine ot2 (st4 w36 (w.heap.size + 1) 0 (.int .i64 0) 1 (.int .i64 0) 2 (.int .i64 0) 3 (.int .i64 0)) HB KP KL (by omega) (by omega) (by omega) ?_
   clear HB KP KL
   intro HB KP KL
   clear yZ0 yZ1 yZ2 yZ3 yZz yZf0 yZf1 yZf2 yZf3
   generalize (((w36.setCell _ _).setCell _ _).setCell _ _).setCell _ _ = w37 at *
   simp only [List.set] at KZ
   obtain ⟨yZ0,yZ1,yZ2,yZ3,yZz⟩:=blk4 KZ
   refine bodyPost_ret (v:=.tuple #[.agg #[.int .i64 0,.int .i64 0,.int .i64 0,.int .i64 0],.int .i64 0,.bool false]) (by simp [results,Tryz.results33,go_sem,yZ0,yZ1,yZ2,yZ3]) rfl ⟨by rw [EV.out]; rfl,HB.out⟩
 ·have EV:=Lib.hid (EV0.out.trans (if_neg he))
  have ge:(e != 0) = true:=by simpa using he
  clear EV0 he WL LV
  obtain ⟨yZ0,yZ1,yZ2,yZ3,yZz,yZf0,yZf1,yZf2,yZf3⟩:=blf4 KZ
  go_wp2
  replace KZ:=kst (kst (kst (kst KZ 0 (.int .i64 0)) 1 (.int .i64 0)) 2 (.int .i64 0)) 3 (.int .i64 0)
  refine ot1 (st4 w1 (w.heap.size + 1) 0 (.int .i64 0) 1 (.int .i64 0) 2 (.int .i64 0) 3 (.int .i64 0)) HB KP (by omega) (by omega) ?_
  clear HB KP
  intro HB KP
  clear yZ0 yZ1 yZ2 yZ3 yZz yZf0 yZf1 yZf2 yZf3
  generalize (((w1.setCell _ _).setCell _ _).setCell _ _).setCell _ _ = w2 at *
  simp only [List.set] at KZ
  obtain ⟨yZ0,yZ1,yZ2,yZ3,yZz⟩:=blk4 KZ
  refine bodyPost_ret (v:=.tuple #[.agg #[.int .i64 0,.int .i64 0,.int .i64 0,.int .i64 0],.int .i64 0,.bool false]) (by simp [results,Tryz.results33,go_sem,yZ0,yZ1,yZ2,yZ3]) rfl ⟨by rw [EV.out]; rfl,HB.out⟩
end Go.Proofs.YtajmjkliblippaaGreatDoor
namespace Go.Proofs.YtajmjkliblippaaGreatDoor.S44
open Go.RowKit
set_option maxHeartbeats 4000000
theorem woref_some (l:List Ms) (s:Int) (b o cap:Nat) (w:World) (h:MsAt l b o w) (hc:l.length≤cap) (hm:cap≤9223372036854775807) (hl:l.length≤17) :
 Calls Tryz.prog 74 #[.slice (some ⟨b,o,none⟩) l.length cap,.int .i64 s] w fun e w'=>(∃ u,e = .returned u∧OM w.heap.size w' u (woL l s))∧Below w.heap.size w w':=by
 have H:=Lib.hid h
 have hlt:=h.lt
 clear h
 go_enter Tryz.func74,Tryz.ntmps74
 go_wp2
 go_loopw [5,11] (WoRr l s w) (fun _ i _=>l.length - (intOf i).toNat)
 case atStart=>exact ⟨0,rfl,Nat.zero_le _,Lib.hid ((Below.refl _ _).alloc (Nat.le_refl _) _),Lib.hid (World.ownsRow_lit w #[] 0 (Nat.le_refl _) (by decide) rfl)⟩
 case round =>
  obtain ⟨k,rfl,hk,HB,HO⟩:=hrel
  by_cases q:k < l.length
  ·have q':decide (k < l.length) = true:=by simpa using q
   have M:=H.out.keep HB.out hlt
   have c0:=M.c0 k q
   have c1:=M.c1 k q
   have c2:=M.c2 k q
   have c3:=M.c3 k q
   have c4:=M.c4 k q
   have c5:=M.c5 k q
   have WS:=Lib.hid (woL_succ (s:=s) q)
   have SZ:=Lib.hid (show (woL (l.take k) s).length≤100000 by have:=woL_len (l.take k) s; rw [List.length_take] at this; omega)
   have HS:=Lib.hid HB.out.size
   clear M
   generalize hp:nth l k = p at *
   clear hp
   by_cases e:p.s = s
   ·have g:(p.s != s) = false:=by simpa using e
    have E:=Lib.hid e
    clear e
    go_wp2
    go_roundw
    case rel =>
     have hb:=(Below.refl wr.heap.size wr).alloc (Nat.le_refl _) (.cells #[.int .i64 p.s,.int .i64 p.a,.int .i64 p.b,.int .i64 p.z,.int .i64 p.d,.int .i64 p.w] 71)
     exact ⟨k + 1,by go_num,by omega,HB.out.trans (hb.mono HS.out),by rw [WS.out,if_pos E.out]; exact HO.out.below hb⟩
    case measure=>simp [intOf]; omega
   ·have g:(p.s != s) = true:=by simpa using e
    have HA:=Lib.hid ((Below.refl wr.heap.size wr).alloc (Nat.le_refl _) (.cells #[.int .i64 p.s,.int .i64 p.a,.int .i64 p.b,.int .i64 p.z,.int .i64 p.d,.int .i64 p.w] 71))
    go_wp2_with (at_builtin; refine Halt.mk ?_)
    unfold Halt
    refine wpList_om rfl (.tmp 19) (.tmp 21) rfl w.heap.size u5 (woL (l.take k) s) rfl (wr.alloc (.cells #[.int .i64 p.s,.int .i64 p.a,.int .i64 p.b,.int .i64 p.z,.int .i64 p.d,.int .i64 p.w] 71)) (HO.out.below HA.out) _ p 1 (by rw [World.size_alloc]; rfl) SZ.out (by have:=HS.out; simp; omega) ?_
    intro u2 w5 ho5 hg5 hat5
    have HO5:Hid (OM w.heap.size w5 u2 (woL (l.take (k + 1)) s)):=Lib.hid (by rw [WS.out,if_neg e]; exact ho5)
    have HB5:Hid (Below w.heap.size w w5):=Lib.hid (below_grown ((HB.out.trans (HA.out.mono HS.out)).alloc (by simp; have:=HS.out; omega) _) hg5 (by simp; have:=HS.out; omega) (fun k hk=>(World.ownsRow.lt HO.out k hk).1))
    clear hg5 hat5 c0 c1 c2 c3 c4 c5
    obtain ⟨g5,cap5,hu2⟩:=Go.Joins.ownsRow_form ho5 (show 0 < (woL (l.take k) s ++ [p]).length by rw [List.length_append,List.length_singleton]; omega)
    obtain ⟨N5,hN5⟩:∃ N,(woL (l.take k) s ++ [p]).length = N:=⟨_,rfl⟩
    rw [hN5] at hu2
    clear ho5 hN5
    subst hu2
    go_wp2
    go_roundw
    case rel=>exact ⟨k + 1,by go_num,by omega,HB5,HO5⟩
    case measure=>simp [intOf]; omega
  ·obtain rfl:k = l.length:=by omega
   rw [List.take_length] at HO
   rcases om_cases HO.out with ⟨rfl,hz⟩ | ⟨g,cap',rfl,_⟩
   ·go_wp2
    go_ret
    exact ⟨⟨_,rfl,HO.out⟩,HB.out⟩
   ·go_wp2
    go_ret
    exact ⟨⟨_,rfl,HO.out⟩,HB.out⟩
set_option maxHeartbeats 200000
theorem woref_any (l:List Ms) (s:Int) (v:Value) (w:World) (h:LstAt l v w) (hl:l.length≤17) :
 Calls Tryz.prog 74 #[v,.int .i64 s] w fun e w'=>(∃ u,e = .returned u∧OM w.heap.size w' u (woL l s))∧Below w.heap.size w w':=by
 rcases h with ⟨rfl,rfl⟩ | ⟨b,o,cap,rfl,h2,h3,h4⟩
 ·exact woref_nil s w
 ·exact woref_some l s b o cap w h4 h2 h3 hl
end Go.Proofs.YtajmjkliblippaaGreatDoor.S44
