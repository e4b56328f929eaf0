/-
  Walks and laws of the layers below, gathered from several texts.
-/
import Derived.Deep.RegionHeld3
import Derived.Lib.QuietBelow
import Derived.Lib.Hide
import Derived.Test.YtajmjkliblippaaGreatDoorShelfQ
import Derived.WalkKit
import Derived.WalkSpells
import Derived.IntWalk
import Derived.BigQuiet
import Derived.Deep.QuietTactic
import Derived.Deep.LoopGhost
import Derived.LoopTactic
import Derived.Deep.Cut
import Derived.Laws.Bits64b
import Derived.Laws.Bits64
import Derived.Maps.AppendAt
import Derived.OwnWalk
import Derived.OneCell
import Derived.Deep.RegionHeld
import Derived.Lib.SmallJoins
import Derived.Deep.Onto
import Derived.Test.YtajmjkliblippaaGreatDoorProg
import Derived.Lib.Mul64
import Derived.Lib.Zigzag
import Derived.StillTactics
import Derived.Laws.OwnMore
import Derived.Test.YtajmjkliblippaaGreatDoorQ3
import Derived.Test.YtajmjkliblippaaGreatDoorQ9
import Derived.Test.YtajmjkliblippaaGreatDoorQ10
import Derived.Test.YtajmjkliblippaaGreatDoorQ11
import Derived.Test.YtajmjkliblippaaGreatDoorQ13
import Derived.Test.YtajmjkliblippaaGreatDoorQ14
import Derived.Test.YtajmjkliblippaaGreatDoorQ15
import Derived.Test.YtajmjkliblippaaGreatDoorQ16
import Derived.Test.YtajmjkliblippaaGreatDoorQ17
import Derived.Test.YtajmjkliblippaaGreatDoorQ18
set_option linter.unusedVariables false
namespace Go.Proofs.YtajmjkliblippaaGreatDoor.S44
open Go.RowKit
theorem MsAt.drop {l:List Ms} {b o:Nat} {w:World} (h:MsAt l b o w) (k:Nat):MsAt (l.drop k) b (o + k * 6) w:=by
 have e:∀ i,i < (l.drop k).length→k + i < l.length∧nth (l.drop k) i = nth l (k + i):=fun i hi=>by
  rw [List.length_drop] at hi
  refine ⟨by omega,?_⟩
  unfold nth
  rw [List.getD_eq_getElem?_getD,List.getD_eq_getElem?_getD,List.getElem?_drop]
 have a:∀ i,o + k * 6 + i * 6 = o + (k + i) * 6:=fun i=>by omega
 refine ⟨h.lt,fun i hi=>?_,fun i hi=>?_,fun i hi=>?_,fun i hi=>?_,fun i hi=>?_,fun i hi=>?_⟩ <;> rw [(e i hi).2,a]
 ·exact h.c0 _ (e i hi).1
 ·exact h.c1 _ (e i hi).1
 ·exact h.c2 _ (e i hi).1
 ·exact h.c3 _ (e i hi).1
 ·exact h.c4 _ (e i hi).1
 ·exact h.c5 _ (e i hi).1
end Go.Proofs.YtajmjkliblippaaGreatDoor.S44
namespace Go.Proofs.YtajmjkliblippaaGreatDoor.S44
open Go.RowKit
structure PtAt (x y:Int) (bp:Nat) (w:World):Prop where
 lt:bp < w.heap.size
 c0:w.cell? ⟨bp,0,none⟩ = some (.int .i64 x)
 c1:w.cell? ⟨bp,1,none⟩ = some (.int .i64 y)
theorem PtAt.below {x y:Int} {bp:Nat} {w w':World} (h:PtAt x y bp w) (hb:Below w.heap.size w w'):PtAt x y bp w':=
 ⟨Nat.lt_of_lt_of_le h.lt hb.size,(hb.cell (p:=⟨bp,0,none⟩) h.lt).trans h.c0,(hb.cell (p:=⟨bp,1,none⟩) h.lt).trans h.c1⟩
end Go.Proofs.YtajmjkliblippaaGreatDoor.S44
namespace Go.Proofs.YtajmjkliblippaaGreatDoor
def rowT (tk cx cy x y:Int) (r:Rp):List Ms:=if r.t = tk then (rowsN r cx cy x y).1 else []
def rowsT (tk cx cy x y:Int) (L:List Rp):List Ms:=L.flatMap (rowT tk cx cy x y)
theorem rowsT_len (tk cx cy x y:Int):∀ L:List Rp,(rowsT tk cx cy x y L).length≤2 * L.length
 | []=>by simp [rowsT]
 | r :: L=>by
  have ih:=rowsT_len tk cx cy x y L
  unfold rowsT at *
  rw [List.flatMap_cons,List.length_append,List.length_cons]
  have:(rowT tk cx cy x y r).length≤2:=by
   unfold rowT
   split
   ·exact rowsN_len r cx cy x y
   ·simp
  omega
theorem rowsT_succ (tk cx cy x y:Int) {L:List Rp} {k:Nat} (h:k < L.length):rowsT tk cx cy x y (L.take (k + 1)) = rowsT tk cx cy x y (L.take k) ++ rowT tk cx cy x y (nthR L k):=by
 have e:L.take (k + 1) = L.take k ++ [nthR L k]:=by
  rw [List.take_succ_eq_append_getElem h]
  congr 1
  unfold nthR
  rw [List.getD_eq_getElem?_getD,List.getElem?_eq_getElem h]
  rfl
 unfold rowsT
 rw [e,List.flatMap_append]
 simp
theorem rowT_other {tk cx cy x y:Int} {r:Rp} (h:r.t≠tk):rowT tk cx cy x y r = []:=if_neg h
theorem rowT_bad {tk cx cy x y:Int} {r:Rp} (h:(rowsN r cx cy x y).2≠0):rowT tk cx cy x y r = []:=by
 unfold rowT
 split
 ·exact rowsN_bad h
 ·rfl
theorem rowT_good {tk cx cy x y:Int} {r:Rp} (h:r.t = tk):rowT tk cx cy x y r = (rowsN r cx cy x y).1:=if_pos h
def ovL (a x b y:Int):Int:=max (a - x) (b - y)
def ovH (a x b y:Int):Int:=min (a + x) (b + y)
def ovM (a x b y:Int):Int:=(ovL a x b y + ovH a x b y) / 2
def mrgB (a b:Bx4):Bx4:=⟨ovM a.cx a.x b.cx b.x,ovM a.cy a.y b.cy b.y,ovH a.cx a.x b.cx b.x - ovM a.cx a.x b.cx b.x,ovH a.cy a.y b.cy b.y - ovM a.cy a.y b.cy b.y⟩
def mrgF (a b:Bx4):Bx4 × Int:=
 if bxV a = true then (if bxV b = true then (if ovL a.cx a.x b.cx b.x≤ovH a.cx a.x b.cx b.x∧ovL a.cy a.y b.cy b.y≤ovH a.cy a.y b.cy b.y then (mrgB a b,0) else (bx0,11)) else (bx0,1)) else (bx0,1)
def toB (b:BoxI):Bx4:=⟨b.cx,b.cy,b.x,b.y⟩
def fixL (l:List Ms):BoxI × Int:=levF (woL l (S44.fltF l).1)
def fixF (l:List Ms) (a:Bx4):(Bx4 × Int) × Bool:=
 if (S44.fltF l).2 = 0 then (if (fixL l).2 = 0 then (((mrgF a (toB (fixL l).1)).1,(S44.fltF l).1),decide ((mrgF a (toB (fixL l).1)).2 = 0)) else ((bx0,0),false)) else ((bx0,0),false)
structure Cyc where
 box:Bx4
 ms:Int
 ex:Int
def cycF (c:Bx4) (m:Int) (l:List Ms):Cyc:=if (fixF l c).2 = true then ⟨(fixF l c).1.1,0,(fixF l c).1.2⟩ else ⟨c,min (m + 1) 1000,0⟩
def stpC (b:Bx4) (t m tick ve vn dr:Int) (L:List Rp):Cyc:=
 cycF (movB b ve vn dr (tick - t)) m (rowsT tick (movB b ve vn dr (tick - t)).cx (movB b ve vn dr (tick - t)).cy (movB b ve vn dr (tick - t)).x (movB b ve vn dr (tick - t)).y L)
def stpE2 (b:Bx4) (t m tick ve vn dr rq:Int) (n:Nat):Int:=
 if chkS b t m≠0 then chkS b t m else if tick≤t then 16 else if 1099511627776 < tick∨rq < 0∨2000000 < rq then 2 else if 8 < n then 3 else (cstF b ve vn dr (tick - t)).2
theorem stp_ok2 {b:Bx4} {t m tick ve vn dr rq:Int} {n:Nat} (h:stpE2 b t m tick ve vn dr rq n = 0):chkS b t m = 0∧t < tick∧(tick≤1099511627776∧0≤rq∧rq≤2000000)∧n≤8∧(cstF b ve vn dr (tick - t)).2 = 0:=by
 unfold stpE2 at h
 split at h
 ·rename_i h1; exact absurd h h1
 ·rename_i h1
  split at h
  ·cases h
  ·rename_i h2
   split at h
   ·cases h
   ·rename_i h3
    split at h
    ·cases h
    ·rename_i h4
     exact ⟨Decidable.not_not.1 h1,by omega,by omega,by omega,h⟩
theorem flt_chk2 {l:List Ms} (h:(S44.fltF l).2 = 0):chkL l = 0:=by
 by_cases hc:chkL l = 0
 ·exact hc
 ·unfold S44.fltF at h
  rw [if_neg hc] at h
  exact absurd h hc
end Go.Proofs.YtajmjkliblippaaGreatDoor
namespace Go.Proofs.YtajmjkliblippaaGreatDoor.S44
open Go.RowKit
def Halt (p:Prop):Prop:=p
theorem Halt.mk {p:Prop} (h:Halt p):p:=h
theorem grown_of_below {W w':World} (hb:Below W.heap.size W w'):W.grownBy w' none:=⟨hb.os,hb.tape,hb.output,hb.size,fun k hk _=>hb.block k hk⟩
end Go.Proofs.YtajmjkliblippaaGreatDoor.S44
namespace Go.Proofs.YtajmjkliblippaaGreatDoor.S44
open Go.RowKit
def conF (l:List Ms):Bool × Int:=if chkL l = 0 then (if fullB l = true then (decide (0 < (corL l).length),0) else (false,14)) else (false,chkL l)
end Go.Proofs.YtajmjkliblippaaGreatDoor.S44
namespace Go.Proofs.YtajmjkliblippaaGreatDoor.S44
open Go.RowKit
theorem below_drew {B:Nat} {a w:World} (h:Below B a w):Below B a w.drew:=⟨h.os,h.tape,h.output,h.size,h.block⟩
theorem crossB_at (m n:Ms):crossB (m,n) = decide (detM m n≠0):=by
 cases h:crossB (m,n)
 ·exact (decide_eq_false fun q=>by rw [crossB_iff.2 q] at h; cases h).symm
 ·exact (decide_eq_true (crossB_iff.1 h)).symm
set_option maxHeartbeats 8000000
set_option maxRecDepth 100000
theorem crossing_ref (m n:Ms) (c e:Int) (w:World) (hm:EdM m) (hn:EdM n) (hc:SmC c) (he:SmC e) :
 Calls Tryz.prog 227 #[.agg #[.int .i64 m.s,.int .i64 m.a,.int .i64 m.b,.int .i64 m.z,.int .i64 m.d,.int .i64 m.w],.int .i64 c,.agg #[.int .i64 n.s,.int .i64 n.a,.int .i64 n.b,.int .i64 n.z,.int .i64 n.d,.int .i64 n.w],.int .i64 e] w
  fun r w'=>r = .returned (.tuple #[.agg #[.int .i64 (crossC m n c e).x,.int .i64 (crossC m n c e).y,.int .i64 (crossC m n c e).d],.bool (crossB (m,n))])∧Below w.heap.size w w':=by
 have ECB:=crossB_at m n
 have p1:=mul_abs (X:=12884901888) (Y:=256) hc.lo hc.hi hn.b0 hn.b1
 have p2:=mul_abs (X:=12884901888) (Y:=256) he.lo he.hi hm.b0 hm.b1
 have p3:=mul_abs (X:=256) (Y:=12884901888) hm.a0 hm.a1 he.lo he.hi
 have p4:=mul_abs (X:=256) (Y:=12884901888) hn.a0 hn.a1 hc.lo hc.hi
 have p5:=mul_abs (X:=256) (Y:=256) hm.a0 hm.a1 hn.b0 hn.b1
 have p6:=mul_abs (X:=256) (Y:=256) hn.a0 hn.a1 hm.b0 hm.b1
 have ED:detM m n = m.a * n.b - n.a * m.b:=rfl
 have EC:crossC m n c e = if detM m n < 0 then ⟨-(c * n.b - e * m.b),-(m.a * e - n.a * c),-detM m n⟩ else ⟨c * n.b - e * m.b,m.a * e - n.a * c,detM m n⟩:=rfl
 rw [ED] at EC ECB
 clear ED hm hn hc he
 generalize crossC m n c e = C at *
 obtain ⟨ms,a,b,mz,md,mw⟩:=m
 obtain ⟨ns,a',b',nz,nd,nw⟩:=n
 simp only at p1 p2 p3 p4 p5 p6 EC ECB ⊢
 obtain ⟨p10,p11⟩:=p1
 obtain ⟨p20,p21⟩:=p2
 obtain ⟨p30,p31⟩:=p3
 obtain ⟨p40,p41⟩:=p4
 obtain ⟨p50,p51⟩:=p5
 obtain ⟨p60,p61⟩:=p6
 have s1:IntKind.i64.wrap (c * b') = c * b':=IntWalk.i64_in _ (by omega)
 have s2:IntKind.i64.wrap (e * b) = e * b:=IntWalk.i64_in _ (by omega)
 have s3:IntKind.i64.wrap (a * e) = a * e:=IntWalk.i64_in _ (by omega)
 have s4:IntKind.i64.wrap (a' * c) = a' * c:=IntWalk.i64_in _ (by omega)
 have s5:IntKind.i64.wrap (c * b' - e * b) = c * b' - e * b:=IntWalk.i64_in _ (by omega)
 have s6:IntKind.i64.wrap (a * e - a' * c) = a * e - a' * c:=IntWalk.i64_in _ (by omega)
 by_cases hz:a * b' - a' * b = 0
 ·have g:decide (a * b' - a' * b < 0) = false:=by simpa using (show ¬ a * b' - a' * b < 0 by omega)
  have g2:decide (a' * b < a * b') = false:=by simp; omega
  have EE:=Lib.hid (EC.trans (if_neg (by omega)))
  have E2:=Lib.hid (ECB.trans (decide_eq_false (by omega)))
  clear hz EC ECB
  go_enter Tryz.func227,Tryz.ntmps227
  go_wp2
  go_region
  go_wp2
  refine bodyPost_ret (v:=.tuple #[.agg #[.int .i64 (c * b' - e * b),.int .i64 (a * e - a' * c),.int .i64 (a * b' - a' * b)],.bool false]) (by simp [results,Tryz.results227,go_sem]) rfl ⟨by rw [EE.out,E2.out],?_⟩
  exact below_drew (((((Below.refl _ _).alloc (Nat.le_refl _) _).alloc (by simp) _).alloc (by simp; try omega) _).alloc (by simp; try omega) _)
 ·by_cases hn:a * b' - a' * b < 0
  ·have g:decide (a * b' - a' * b < 0) = true:=by simpa using hn
   have g2:decide (0 < -(a * b' - a' * b)) = true:=by simp; omega
   have EE:=Lib.hid (EC.trans (if_pos hn))
   have E2:=Lib.hid (ECB.trans (decide_eq_true (by omega)))
   clear hz EC ECB hn
   go_enter Tryz.func227,Tryz.ntmps227
   go_wp2
   go_region
   go_wp2
   refine bodyPost_ret (v:=.tuple #[.agg #[.int .i64 (-(c * b' - e * b)),.int .i64 (-(a * e - a' * c)),.int .i64 (-(a * b' - a' * b))],.bool true]) (by simp [results,Tryz.results227,go_sem]) rfl ⟨by rw [EE.out,E2.out],?_⟩
   exact below_drew (((((Below.refl _ _).alloc (Nat.le_refl _) _).alloc (by simp) _).alloc (by simp; try omega) _).alloc (by simp; try omega) _)
  ·have g:decide (a * b' - a' * b < 0) = false:=by simpa using (show ¬ a * b' - a' * b < 0 by omega)
   have g2:decide (a' * b < a * b') = true:=by simp; omega
   have EE:=Lib.hid (EC.trans (if_neg hn))
   have E2:=Lib.hid (ECB.trans (decide_eq_true (by omega)))
   clear hz EC ECB hn
   go_enter Tryz.func227,Tryz.ntmps227
   go_wp2
   go_region
   go_wp2
   refine bodyPost_ret (v:=.tuple #[.agg #[.int .i64 (c * b' - e * b),.int .i64 (a * e - a' * c),.int .i64 (a * b' - a' * b)],.bool true]) (by simp [results,Tryz.results227,go_sem]) rfl ⟨by rw [EE.out,E2.out],?_⟩
   exact below_drew (((((Below.refl _ _).alloc (Nat.le_refl _) _).alloc (by simp) _).alloc (by simp; try omega) _).alloc (by simp; try omega) _)
set_option maxRecDepth 512
theorem meets_ref (m:Ms) (p:Cr) (w:World) (ed:EdM m) (hp:SmP p) :
 Calls Tryz.prog 228 #[.agg #[.int .i64 m.s,.int .i64 m.a,.int .i64 m.b,.int .i64 m.z,.int .i64 m.d,.int .i64 m.w],.agg #[.int .i64 p.x,.int .i64 p.y,.int .i64 p.d]] w fun e w'=>e = .returned (.bool (inB p m))∧Below w.heap.size w w':=by
 have EV:inB p m = decide (absI (m.a * p.x + m.b * p.y - m.z * p.d)≤m.d * p.d):=rfl
 obtain ⟨p10,p11⟩:=mul_abs (X:=256) (Y:=6597069766656) ed.a0 ed.a1 hp.x0 hp.x1
 obtain ⟨p20,p21⟩:=mul_abs (X:=256) (Y:=6597069766656) ed.b0 ed.b1 hp.y0 hp.y1
 have d0:=hp.d0
 have d1:=hp.d1
 obtain ⟨p30,p31⟩:=mul_abs (X:=4294967296) (Y:=131072) ed.z0 ed.z1 (by omega) d1
 have dd0:=ed.d0
 have dd1:=ed.d1
 obtain ⟨p40,p41⟩:=mul_abs (X:=8589934592) (Y:=131072) (x:=m.d) (by omega) dd1 (by omega) d1
 clear ed hp
 obtain ⟨ms,ma,mb,mz,md,mw⟩:=m
 obtain ⟨px,py,pd⟩:=p
 simp only at *
 have s1:IntKind.i64.wrap (ma * px) = ma * px:=IntWalk.i64_in _ (by omega)
 have s2:IntKind.i64.wrap (mb * py) = mb * py:=IntWalk.i64_in _ (by omega)
 have s3:IntKind.i64.wrap (mz * pd) = mz * pd:=IntWalk.i64_in _ (by omega)
 have s4:IntKind.i64.wrap (md * pd) = md * pd:=IntWalk.i64_in _ (by omega)
 have s5:IntKind.i64.wrap (ma * px + mb * py) = ma * px + mb * py:=IntWalk.i64_in _ (by omega)
 have s6:IntKind.i64.wrap (ma * px + mb * py - mz * pd) = ma * px + mb * py - mz * pd:=IntWalk.i64_in _ (by omega)
 have s7:IntKind.i64.wrap (-(ma * px + mb * py - mz * pd)) = -(ma * px + mb * py - mz * pd):=IntWalk.i64_in _ (by omega)
 have bb:=(((Below.refl w.heap.size w).alloc (Nat.le_refl _) (.cells #[.int .i64 ms,.int .i64 ma,.int .i64 mb,.int .i64 mz,.int .i64 md,.int .i64 mw] 71)).alloc (by simp) (.cells #[.int .i64 px,.int .i64 py,.int .i64 pd] 221))
 have HBB:=Lib.hid bb
 clear bb
 by_cases h1:ma * px + mb * py - mz * pd≤md * pd
 ·have g1:decide (ma * px + mb * py - mz * pd≤md * pd) = true:=by simpa using h1
  by_cases h2:-(ma * px + mb * py - mz * pd)≤md * pd
  ·have g2:decide (-(ma * px + mb * py - mz * pd)≤md * pd) = true:=by simpa using h2
   have E:=Lib.hid (EV.trans (decide_eq_true (by unfold absI; split <;> omega)))
   clear EV h1 h2 p10 p11 p20 p21 p30 p31 p40 p41
   go_enter Tryz.func228,Tryz.ntmps228
   go_wp2
   go_ret
   exact ⟨ret_b E.out.symm,HBB.out⟩
  ·have g2:decide (-(ma * px + mb * py - mz * pd)≤md * pd) = false:=by simpa using h2
   have E:=Lib.hid (EV.trans (decide_eq_false (by unfold absI; split <;> omega)))
   clear EV h1 h2 p10 p11 p20 p21 p30 p31 p40 p41
   go_enter Tryz.func228,Tryz.ntmps228
   go_wp2
   go_ret
   exact ⟨ret_b E.out.symm,HBB.out⟩
 ·have g1:decide (ma * px + mb * py - mz * pd≤md * pd) = false:=by simpa using h1
  have E:=Lib.hid (EV.trans (decide_eq_false (by unfold absI; split <;> omega)))
  clear EV h1 p10 p11 p20 p21 p30 p31 p40 p41
  go_enter Tryz.func228,Tryz.ntmps228
  go_wp2
  go_ret
  exact ⟨ret_b E.out.symm,HBB.out⟩
end Go.Proofs.YtajmjkliblippaaGreatDoor.S44
namespace Go.Proofs.YtajmjkliblippaaGreatDoor.S44
open Go.RowKit
def OV (B:Nat) (w:World) (v:Value) (l:List Cr):Prop:=w.ownsRow B 221 3 v l.length (crC l)
theorem infoVer:(Tryz.prog.info? 221).map (fun i=>(i.zero,i.size,i.bytes)) = some (some (.agg #[.int .i64 0,.int .i64 0,.int .i64 0]),3,24):=by kernel_rfl
theorem wpList_ov {ops:Array Oper} {rest:List Oper} {o:Oper} {a:Act} {Q:Exit→Act→World→Prop} (hgd:o.guard = none) (s x:Operand)
 (ho:o.op = .call { callee:=.builtin .append,args:=#[s,x],argTypes:=#[169,169] })
 (B:Nat) (v:Value) (l:List Cr) (hs:a.eval s = v) (w0:World) (h:OV B w0 v l) (T:TypeId) (p:Cr) (c:Nat)
 (hx:a.eval x = .slice (some ⟨w0.heap.size,0,none⟩) 1 c) (hl:l.length≤100000) (hB:B≤w0.heap.size)
 (H:∀ v' w',OV B w' v' (l ++ [p])→(w0.alloc (.cells #[.int .i64 p.x,.int .i64 p.y,.int .i64 p.d] T)).grownBy w' v.ownBlock→(v'.ownBlock = v.ownBlock∨v'.ownBlock = some (w0.heap.size + 1))→wpList Tryz.prog ops Q rest (a.put o.dst v') w') :
 wpList Tryz.prog ops Q (o :: rest) a (w0.alloc (.cells #[.int .i64 p.x,.int .i64 p.y,.int .i64 p.d] T)):=by
 obtain ⟨i0,hi,hz0,hz1,hz2⟩:=info_parts infoVer
 refine wpList_append_own_at _ hgd s x 169 ho B 221 i0 (.agg #[.int .i64 0,.int .i64 0,.int .i64 0]) 3 24 Tryz.underlying169 hi hz0 hz1 hz2 rfl (by decide) v l.length (crC l) hs (World.ownsRow.alloc h _) ⟨w0.heap.size,0,none⟩ 1 c (crC [p]) hx (by rw [crC_len]; rfl) ?_ ?_ (by unfold maxLen; omega) (by omega) (by simp; omega) ?_
 ·intro j u hu
  have hadd:(⟨w0.heap.size,0,none⟩:Addr).add j = ⟨w0.heap.size,j,none⟩:=by unfold Addr.add; split <;> simp_all
  rw [hadd,World.cell?_alloc_at _ _ _ _ (by rfl)]
  unfold crC at hu
  simpa using hu
 ·intro u hu
  unfold crC at hu
  simp only [List.flatMap_cons,List.flatMap_nil,List.append_nil,List.mem_cons,List.not_mem_nil,or_false] at hu
  rcases hu with rfl | rfl | rfl <;> rfl
 ·intro v' w' ho' hg _ hat
  refine H v' w' (by unfold OV; rw [List.length_append,crC_append]; exact ho') hg ?_
  simpa using hat
theorem OV.below {B:Nat} {w w':World} {v:Value} {l:List Cr} (h:OV B w v l) (hb:Below w.heap.size w w'):OV B w' v l:=by
 refine World.ownsRow.kept h (grown_of_below hb) ?_
 cases v.ownBlock <;> simp
def tagS (q:Nat):Bool:=decide (q % 2≠1)
def tagT (q:Nat):Bool:=decide (¬ 1 < q)
def vrn (R:List Ms) (m n:Ms) (k:Nat):List Cr:=(List.range k).flatMap fun q=>pickC R m n (tagS q) (tagT q)
theorem vrn_succ (R:List Ms) (m n:Ms) (k:Nat):vrn R m n (k + 1) = vrn R m n k ++ pickC R m n (tagS k) (tagT k):=by
 unfold vrn
 rw [List.range_succ,List.flatMap_append]
 simp
theorem vrn_len (R:List Ms) (m n:Ms) (k:Nat):(vrn R m n k).length≤k:=by
 induction k with
 | zero=>simp [vrn]
 | succ k ih =>
  rw [vrn_succ,List.length_append]
  have:=pick_len R m n (tagS k) (tagT k)
  omega
def verP (R:List Ms) (ps:List (Ms × Ms)):List Cr:=ps.flatMap fun p=>vrn R p.1 p.2 4
def verL (l:List Ms):List Cr:=verP l (pairsL l)
theorem verP_len (R:List Ms) (ps:List (Ms × Ms)):(verP R ps).length≤4 * ps.length:=by
 unfold verP
 induction ps with
 | nil=>simp
 | cons p r ih =>
  simp only [List.flatMap_cons,List.length_append,List.length_cons]
  have:=vrn_len R p.1 p.2 4
  omega
theorem mem_vrn {R:List Ms} {m n:Ms} {p:Cr}:p ∈ vrn R m n 4↔p ∈ crn R m n 4:=by
 have e:vrn R m n 4 = pickC R m n true true ++ pickC R m n false true ++ pickC R m n true false ++ pickC R m n false false:=by
  rw [vrn_succ,vrn_succ,vrn_succ,vrn_succ]
  rfl
 have e':crn R m n 4 = pickC R m n false false ++ pickC R m n false true ++ pickC R m n true false ++ pickC R m n true true:=by
  rw [crn_succ,crn_succ,crn_succ,crn_succ]
  rfl
 rw [e,e']
 simp only [List.mem_append]
 constructor
 ·rintro (((h | h) | h) | h)
  ·exact .inr h
  ·exact .inl (.inl (.inr h))
  ·exact .inl (.inr h)
  ·exact .inl (.inl (.inl h))
 ·rintro (((h | h) | h) | h)
  ·exact .inr h
  ·exact .inl (.inl (.inr h))
  ·exact .inl (.inr h)
  ·exact .inl (.inl (.inl h))
theorem mem_verL {l:List Ms} {p:Cr}:p ∈ verL l↔p ∈ corL l:=by
 unfold verL verP corL corP
 simp only [List.mem_flatMap,mem_vrn]
theorem verP_app (R:List Ms) (ps:List (Ms × Ms)) (m n:Ms):verP R (ps ++ [(m,n)]) = verP R ps ++ vrn R m n 4:=by
 unfold verP
 rw [List.flatMap_append]
 simp
theorem any_app (ps:List (Ms × Ms)) (m n:Ms):(ps ++ [(m,n)]).any crossB = (ps.any crossB || crossB (m,n)):=by
 rw [List.any_append]
 simp
theorem pick_all {R:List Ms} {m n:Ms} {s t:Bool} {p:Cr} {y:Bool} (hp:crossC m n (edgeC m s) (edgeC n t) = p) (hy:y = (crossB (m,n) && R.all (inB p))):pickC R m n s t = if y = true then [p] else []:=by
 unfold pickC
 rw [hp]
 by_cases h:detM m n = 0
 ·have hc:crossB (m,n) = false:=by rw [crossB_at]; exact decide_eq_false (fun q=>q h)
  rw [if_pos h,hy,hc]
  rfl
 ·have hc:crossB (m,n) = true:=crossB_iff.2 h
  rw [if_neg h,hy,hc,Bool.true_and]
  rfl
def VR1 (l:List Ms) (w:World) (v r s:Value) (wr:World):Prop:=∃ i:Nat,s = .int .i64 i∧i≤l.length∧∃ x:Bool,r = .bool x∧Hid (x = (pairsUpto l i).any crossB)∧Hid (Below w.heap.size w wr)∧Hid (OV w.heap.size wr v (verP l (pairsUpto l i)))
def VR2 (l:List Ms) (w:World) (i bm:Nat) (v r s:Value) (wr:World):Prop:=∃ j:Nat,s = .int .i64 j∧j≤i∧∃ x:Bool,r = .bool x∧Hid (x = (pairsAt l i j).any crossB)∧Hid (Below w.heap.size w wr)∧Hid (OV w.heap.size wr v (verP l (pairsAt l i j)))∧Hid (CopyAt (nth l i) bm wr)∧Hid (v.ownBlock≠some bm)
def VR3 (l:List Ms) (w:World) (m n:Ms) (bm bn:Nat) (x0:Bool) (C:List Cr) (v r s:Value) (wr:World):Prop:=∃ q:Nat,s = .int .i64 q∧q≤4∧∃ x:Bool,r = .bool x∧Hid (x = (x0 || (decide (0 < q) && crossB (m,n))))∧Hid (Below w.heap.size w wr)∧Hid (OV w.heap.size wr v (C ++ vrn l m n q))∧Hid (CopyAt m bm wr)∧Hid (CopyAt n bn wr)∧Hid (v.ownBlock≠some bm)∧Hid (v.ownBlock≠some bn)
def VR4 (l:List Ms) (w:World) (m n:Ms) (bm bn:Nat) (p:Cr) (bp:Nat) (c:Bool) (v:Value) (C:List Cr) (f s:Value) (wr:World):Prop:=∃ k:Nat,s = .int .i64 k∧k≤l.length∧∃ y:Bool,f = .bool y∧Hid (y = (c && (l.take k).all (inB p)))∧Hid (Below w.heap.size w wr)∧Hid (OV w.heap.size wr v C)∧Hid (CopyAt m bm wr)∧Hid (CopyAt n bn wr)∧Hid (CrAt p bp wr)
set_option maxHeartbeats 100000000
set_option maxRecDepth 100000
theorem vertices_some (l:List Ms) (b o cap:Nat) (w:World) (h:MsAt l b o w) (hc:l.length≤cap) (hm:cap≤9223372036854775807) (he:∀ m ∈ l,EdM m) (hl:l.length≤17) :
 Calls Tryz.prog 193 #[.slice (some ⟨b,o,none⟩) l.length cap] w fun e w'=>(∃ u,e = .returned (.tuple #[u,.bool (fullB l)])∧OV w.heap.size w' u (verL l))∧Below w.heap.size w w':=by
 have H:=Lib.hid h
 have hlt:=h.lt
 have HE:=Lib.hid he
 clear h he
 go_enter Tryz.func193,Tryz.ntmps193
 go_wp2_with fail
 go_loopw [4,5,20] (VR1 l w) (fun _ _ i _=>l.length - (intOf i).toNat)
 case atStart=>exact ⟨0,rfl,Nat.zero_le _,false,rfl,Lib.hid rfl,Lib.hid ((Below.refl _ _).alloc (Nat.le_refl _) _),Lib.hid (World.ownsRow_lit w #[] 0 (Nat.le_refl _) (by decide) rfl)⟩
 case round =>
  obtain ⟨i,rfl,hi,x1,rfl,HX,HB,HO⟩:=hrel
  by_cases q:i < l.length
  ·have q':decide (i < l.length) = true:=by simpa using q
   have M:=H.out.keep HB.out hlt
   have c0:=M.c0 i q
   have c1:=M.c1 i q
   have c2:=M.c2 i q
   have c3:=M.c3 i q
   have c4:=M.c4 i q
   have c5:=M.c5 i q
   have CO:=Lib.hid (copy_new (nth l i) wr 71)
   have HB1:=Lib.hid (HB.out.alloc HB.out.size (.cells #[.int .i64 (nth l i).s,.int .i64 (nth l i).a,.int .i64 (nth l i).b,.int .i64 (nth l i).z,.int .i64 (nth l i).d,.int .i64 (nth l i).w] 71))
   have HO1:=Lib.hid (HO.out.below ((Below.refl _ _).alloc (Nat.le_refl _) (.cells #[.int .i64 (nth l i).s,.int .i64 (nth l i).a,.int .i64 (nth l i).b,.int .i64 (nth l i).z,.int .i64 (nth l i).d,.int .i64 (nth l i).w] 71)))
   have NB:=Lib.hid (show u4.ownBlock≠some wr.heap.size from fun e=>by have:=(World.ownsRow.lt HO.out _ e).2; omega)
   have EM:=Lib.hid (HE.out _ (nth_mem q))
   have LE:=Lib.hid fun j=>pairsAt_len (l:=l) (i:=i) (j:=j) hl q
   have hic:i≤cap:=by omega
   clear M HB HO
   go_wp2_with fail
   generalize wr.heap.size = bm at *
   generalize wr.alloc _ = wo at *
   clear c0 c1 c2 c3 c4 c5
   go_loopw [4,5,29] (VR2 l w i bm) (fun _ _ j _=>i - (intOf j).toNat)
   case atStart=>exact ⟨0,rfl,Nat.zero_le _,x1,rfl,by rw [pairsAt_zero]; exact HX,HB1,by rw [pairsAt_zero]; exact HO1,CO,NB⟩
   case round =>
    obtain ⟨j,rfl,hj,x2,rfl,HX,HB,HO,HM,NM⟩:=hrel
    by_cases r:j < i
    ·have r':decide (j < i) = true:=by simpa using r
     have hjl:j < l.length:=by omega
     have M:=H.out.keep HB.out hlt
     have c0:=M.c0 j hjl
     have c1:=M.c1 j hjl
     have c2:=M.c2 j hjl
     have c3:=M.c3 j hjl
     have c4:=M.c4 j hjl
     have c5:=M.c5 j hjl
     have CO2:=Lib.hid (copy_new (nth l j) wr 71)
     have HB1:=Lib.hid (HB.out.alloc HB.out.size (.cells #[.int .i64 (nth l j).s,.int .i64 (nth l j).a,.int .i64 (nth l j).b,.int .i64 (nth l j).z,.int .i64 (nth l j).d,.int .i64 (nth l j).w] 71))
     have HO1:=Lib.hid (HO.out.below ((Below.refl _ _).alloc (Nat.le_refl _) (.cells #[.int .i64 (nth l j).s,.int .i64 (nth l j).a,.int .i64 (nth l j).b,.int .i64 (nth l j).z,.int .i64 (nth l j).d,.int .i64 (nth l j).w] 71)))
     have HM1:=Lib.hid (HM.out.below ((Below.refl _ _).alloc (Nat.le_refl _) (.cells #[.int .i64 (nth l j).s,.int .i64 (nth l j).a,.int .i64 (nth l j).b,.int .i64 (nth l j).z,.int .i64 (nth l j).d,.int .i64 (nth l j).w] 71)))
     have NB2:=Lib.hid (show u4.ownBlock≠some wr.heap.size from fun e=>by have:=(World.ownsRow.lt HO.out _ e).2; omega)
     have EN:=Lib.hid (HE.out _ (nth_mem hjl))
     have PS:=Lib.hid (pairsAt_succ (l:=l) (i:=i) hjl)
     have LN:=Lib.hid (show (verP l (pairsAt l i j)).length≤1300 by have:=verP_len l (pairsAt l i j); have:=LE.out j; omega)
     clear M HB HO HM
     go_wp2_with fail
     generalize wr.heap.size = bn at *
     generalize wr.alloc _ = wp at *
     clear c0 c1 c2 c3 c4 c5
     generalize hN:nth l j = n at *
     generalize hMM:nth l i = m at *
     have HNN:=Lib.hid hN
     have HMM:=Lib.hid hMM
     clear hN hMM
     go_loopw [4,5,10] (VR3 l w m n bm bn x2 (verP l (pairsAt l i j))) (fun _ _ q _=>4 - (intOf q).toNat)
     case atStart=>exact ⟨0,rfl,Nat.zero_le _,x2,rfl,Lib.hid (by simp),HB1,by rw [show vrn l m n 0 = [] from rfl,List.append_nil]; exact HO1,HM1,CO2,NM,NB2⟩
     case round =>
      obtain ⟨q,rfl,hq,x3,rfl,HX3,HB,HO,HM,HN,NM3,NN3⟩:=hrel
      by_cases t:q < 4
      ·have t':decide ((q:Int) < 4) = true:=by simpa using (show (q:Int) < 4 by omega)
       have xm:=HM.out
       have x0_:=xm.c0
       have x1_:=xm.c1
       have x2_:=xm.c2
       have x3_:=xm.c3
       have x4_:=xm.c4
       have x5_:=xm.c5
       have xmz:=xm.lt
       have yn:=HN.out
       have y0_:=yn.c0
       have y1_:=yn.c1
       have y2_:=yn.c2
       have y3_:=yn.c3
       have y4_:=yn.c4
       have y5_:=yn.c5
       have ynz:=yn.lt
       clear xm yn
       have em:=EM.out
       have en:=EN.out
       have d1:=em.d0
       have d2:=em.d1
       have d3:=em.z0
       have d4:=em.z1
       have d5:=en.d0
       have d6:=en.d1
       have d7:=en.z0
       have d8:=en.z1
       clear em en
       have s1:IntKind.i64.wrap (m.z + m.d) = m.z + m.d:=IntWalk.i64_in _ (by omega)
       have s2:IntKind.i64.wrap (n.z + n.d) = n.z + n.d:=IntWalk.i64_in _ (by omega)
       have s3:IntKind.i64.wrap (m.z - m.d) = m.z - m.d:=IntWalk.i64_in _ (by omega)
       have s4:IntKind.i64.wrap (n.z - n.d) = n.z - n.d:=IntWalk.i64_in _ (by omega)
       clear d1 d2 d3 d4 d5 d6 d7 d8
       have VS:=Lib.hid (vrn_succ l m n q)
       have VL:=Lib.hid (show (verP l (pairsAt l i j) ++ vrn l m n q).length≤100000 by have:=vrn_len l m n q; rw [List.length_append]; have:=LN.out; omega)
       have CX:=Lib.hid fun W=>crossing_ref m n (edgeC m (tagS q)) (edgeC n (tagT q)) W EM.out EN.out (edge_sm EM.out _) (edge_sm EN.out _)
       have SP:=cross_sm EM.out EN.out (edge_sm EM.out (tagS q)) (edge_sm EN.out (tagT q))
       have PK:=fun y=>pick_all (R:=l) (m:=m) (n:=n) (s:=tagS q) (t:=tagT q) (y:=y) rfl
       generalize crossC m n (edgeC m (tagS q)) (edgeC n (tagT q)) = p at *
       generalize hcB:crossB (m,n) = cB at *
       have HCB:=Lib.hid hcB
       clear hcB
       obtain ⟨c9,hc9⟩:∃ c9,cB = c9:=⟨_,rfl⟩
       have HC9:=Lib.hid hc9
       have PK9:∀ y,y = (c9 && l.all (inB p))→pickC l m n (tagS q) (tagT q) = if y = true then [p] else []:=by rw [← hc9]; exact PK
       have HP9:=Lib.hid PK9
       clear hc9 PK9
       have HSP:=Lib.hid SP
       clear SP PK
       have k1:(((q:Int) % 2 == 1) = true∧edgeC m (tagS q) = m.z - m.d)∨(((q:Int) % 2 == 1) = false∧edgeC m (tagS q) = m.z + m.d):=by
        by_cases z:q % 2 = 1
        ·left; refine ⟨by simpa using (show (q:Int) % 2 = 1 by omega),?_⟩; unfold edgeC tagS; simp [z]
        ·right; refine ⟨by simpa using (show ¬ (q:Int) % 2 = 1 by omega),?_⟩; unfold edgeC tagS; simp [z]
       have k2:(decide ((1:Int) < q) = true∧edgeC n (tagT q) = n.z - n.d)∨(decide ((1:Int) < q) = false∧edgeC n (tagT q) = n.z + n.d):=by
        by_cases z:1 < q
        ·left; refine ⟨by simpa using (show (1:Int) < q by omega),?_⟩; unfold edgeC tagT; simp [z]
        ·right; refine ⟨by simpa using (show ¬ (1:Int) < q by omega),?_⟩; unfold edgeC tagT; simp [z]
       rcases k1 with ⟨g1,e1⟩ | ⟨g1,e1⟩ <;> rcases k2 with ⟨g2,e2⟩ | ⟨g2,e2⟩
       all_goals
        rw [e1,e2] at CX
        clear e1 e2
        go_wp2_with fail
        go_quiet (fail)
        go_wp2_with fail
        refine (CX.out _).mono ?_
        rintro e w2 ⟨rfl,hb2⟩
        have hbr:Below wr.heap.size wr w2:=(below_drewN (Below.refl wr.heap.size wr) _).trans hb2
        have HBp:=Lib.hid (hbr.alloc hbr.size (.cells #[.int .i64 p.x,.int .i64 p.y,.int .i64 p.d] 221))
        have HB3:=Lib.hid (HB.out.trans (HBp.out.mono HB.out.size))
        have HO3:=Lib.hid (HO.out.below HBp.out)
        have HM3:=Lib.hid (HM.out.below HBp.out)
        have HN3:=Lib.hid (HN.out.below HBp.out)
        have HP3:=Lib.hid (cr_new p w2 221)
        clear s1 s2 s3 s4 hb2 hbr x0_ x1_ x2_ x3_ x4_ x5_ xmz y0_ y1_ y2_ y3_ y4_ y5_ ynz HB HO HM HN
        cases cB <;> cases x3
        all_goals
         go_wp2_with fail
         generalize w2.alloc _ = w3 at *
         generalize w2.heap.size = bp at *
         go_loopw [14,76] (VR4 l w m n bm bn p bp c9 u4 (verP l (pairsAt l i j) ++ vrn l m n q)) (fun _ k _=>l.length - (intOf k).toNat)
         case atStart=>exact ⟨0,rfl,Nat.zero_le _,_,rfl,Lib.hid (by rw [← HC9.out]; rfl),HB3,HO3,HM3,HN3,HP3⟩
         case round =>
          obtain ⟨k,rfl,hk,y,rfl,HY,HB4,HO4,HM4,HN4,HP4⟩:=hrel
          have vp:=HP4.out
          have z0:=vp.c0
          have z1:=vp.c1
          have z2:=vp.c2
          have zz:=vp.lt
          clear vp
          by_cases u:k < l.length
          ·have u':decide (k < l.length) = true:=by simpa using u
           have M:=H.out.keep HB4.out hlt
           have c0:=M.c0 k u
           have c1:=M.c1 k u
           have c2:=M.c2 k u
           have c3:=M.c3 k u
           have c4:=M.c4 k u
           have c5:=M.c5 k u
           have MT:=Lib.hid fun W=>meets_ref (nth l k) p W (HE.out _ (nth_mem u)) HSP.out
           have AL:=Lib.hid (show (l.take (k + 1)).all (inB p) = ((l.take k).all (inB p) && inB p (nth l k)) by rw [take_nth u,List.all_append]; simp)
           clear M
           cases y with
           | false =>
            have HK5:=Lib.hid ((Below.refl wr.heap.size wr).alloc (Nat.le_refl _) (.cells #[.int .i64 (nth l k).s,.int .i64 (nth l k).a,.int .i64 (nth l k).b,.int .i64 (nth l k).z,.int .i64 (nth l k).d,.int .i64 (nth l k).w] 71))
            go_wp2
            go_roundw
            case rel=>exact ⟨k + 1,by go_num,by omega,_,rfl,Lib.hid (by have h:=HY.out; rw [AL.out]; revert h; cases c9 <;> cases (l.take k).all (inB p) <;> simp),Lib.hid (HB4.out.trans (HK5.out.mono HB4.out.size)),Lib.hid (HO4.out.below HK5.out),Lib.hid (HM4.out.below HK5.out),Lib.hid (HN4.out.below HK5.out),Lib.hid (HP4.out.below HK5.out)⟩
            case measure=>simp [intOf]; omega
           | true =>
            go_wp2_with fail
            refine (MT.out _).mono ?_
            rintro e w5 ⟨rfl,hb5⟩
            have HK5:=Lib.hid (((Below.refl wr.heap.size wr).alloc (Nat.le_refl _) (.cells #[.int .i64 (nth l k).s,.int .i64 (nth l k).a,.int .i64 (nth l k).b,.int .i64 (nth l k).z,.int .i64 (nth l k).d,.int .i64 (nth l k).w] 71)).trans (hb5.mono (by simp)))
            generalize hib:inB p (nth l k) = ib at *
            have AL2:=Lib.hid AL.out
            clear hb5
            go_wp2
            go_roundw
            case rel=>exact ⟨k + 1,by go_num,by omega,_,rfl,Lib.hid (by have h:=HY.out; rw [AL2.out]; revert h; cases c9 <;> cases (l.take k).all (inB p) <;> cases ib <;> simp),Lib.hid (HB4.out.trans (HK5.out.mono HB4.out.size)),Lib.hid (HO4.out.below HK5.out),Lib.hid (HM4.out.below HK5.out),Lib.hid (HN4.out.below HK5.out),Lib.hid (HP4.out.below HK5.out)⟩
            case measure=>simp [intOf]; omega
          ·obtain rfl:k = l.length:=by omega
           have FY:=Lib.hid (show y = (c9 && l.all (inB p)) by have h:=HY.out; rwa [List.take_length] at h)
           have PKY:=HP9.out y
           cases y with
           | false =>
            have PE:=Lib.hid (PKY FY.out)
            clear PKY
            go_wp2
            go_roundw
            case rel=>exact ⟨q + 1,by go_num,by omega,_,rfl,Lib.hid (by have h:=HX3.out; have c:=HCB.out; rw [c]; revert h; cases x2 <;> simp),HB4,by rw [VS.out,PE.out]; simpa using HO4,HM4,HN4,NM3,NN3⟩
            case measure=>simp [intOf]; omega
           | true =>
            have PE:=Lib.hid (PKY FY.out)
            clear PKY
            go_wp2_with (at_builtin; refine Halt.mk ?_)
            unfold Halt
            refine wpList_ov rfl (.tmp 88) (.tmp 90) rfl w.heap.size u4 (verP l (pairsAt l i j) ++ vrn l m n q) rfl wr HO4.out _ p 1 rfl VL.out HB4.out.size ?_
            intro u2 w5 ho5 hg5 hat5
            have HBa:=Lib.hid ((Below.refl wr.heap.size wr).alloc (Nat.le_refl _) (.cells #[.int .i64 p.x,.int .i64 p.y,.int .i64 p.d] 221))
            have HB5:Hid (Below w.heap.size w w5):=Lib.hid (below_grown (HB4.out.trans (HBa.out.mono HB4.out.size)) hg5 (by simp; have:=HB4.out.size; omega) (fun k hk=>(World.ownsRow.lt HO4.out k hk).1))
            have HM5:Hid (CopyAt m bm w5):=Lib.hid ((HM4.out.below HBa.out).same (hg5.block bm (by rw [World.size_alloc]; have:=HM4.out.lt; omega) (fun e=>NM3.out e.symm)) hg5.size)
            have HN5:Hid (CopyAt n bn w5):=Lib.hid ((HN4.out.below HBa.out).same (hg5.block bn (by rw [World.size_alloc]; have:=HN4.out.lt; omega) (fun e=>NN3.out e.symm)) hg5.size)
            have NM5:Hid (u2.ownBlock≠some bm):=Lib.hid (by rcases hat5 with h | h <;> rw [h]; exact NM3.out; intro e; injection e with e; have:=HM4.out.lt; omega)
            have NN5:Hid (u2.ownBlock≠some bn):=Lib.hid (by rcases hat5 with h | h <;> rw [h]; exact NN3.out; intro e; injection e with e; have:=HN4.out.lt; omega)
            have HO5:Hid (OV w.heap.size w5 u2 (verP l (pairsAt l i j) ++ vrn l m n (q + 1))):=Lib.hid (by rw [VS.out,PE.out,← List.append_assoc]; exact ho5)
            obtain ⟨g5,cap5,hu2⟩:=Go.Joins.ownsRow_form ho5 (show 0 < ((verP l (pairsAt l i j) ++ vrn l m n q) ++ [p]).length by rw [List.length_append,List.length_singleton]; omega)
            obtain ⟨N5,hN5⟩:∃ N,((verP l (pairsAt l i j) ++ vrn l m n q) ++ [p]).length = N:=⟨_,rfl⟩
            rw [hN5] at hu2
            clear hg5 hat5 ho5 hN5 z0 z1 z2 zz
            subst hu2
            go_wp2
            go_roundw
            case rel=>exact ⟨q + 1,by go_num,by omega,_,rfl,Lib.hid (by have h:=HX3.out; have c:=HCB.out; rw [c]; revert h; cases x2 <;> simp),HB5,HO5,HM5,HN5,NM5,NN5⟩
            case measure=>simp [intOf]; omega
      ·obtain rfl:q = 4:=by omega
       have hm:=HMM.out
       have hn:=HNN.out
       clear HMM HNN
       subst hm
       subst hn
       have VA:=Lib.hid (verP_app l (pairsAt l i j) (nth l i) (nth l j))
       have AA:=Lib.hid (any_app (pairsAt l i j) (nth l i) (nth l j))
       go_wp2
       go_roundw
       case rel=>exact ⟨j + 1,by go_num,by omega,_,rfl,Lib.hid (by have h:=HX3.out; rw [PS.out,AA.out,← HX.out]; revert h; simp),HB,by rw [PS.out,VA.out]; exact HO,HM,NM3⟩
       case measure=>simp [intOf]; omega
    ·obtain rfl:j = i:=by omega
     have PF:=Lib.hid (pairsAt_full l j)
     go_wp2
     go_roundw
     case rel=>exact ⟨j + 1,by go_num,by omega,_,rfl,by rw [← PF.out]; exact HX,HB,by rw [← PF.out]; exact HO⟩
     case measure=>simp [intOf]; omega
  ·obtain rfl:i = l.length:=by omega
   go_wp2
   go_ret2
   exact ⟨⟨_,by rw [HX.out]; rfl,HO.out⟩,HB.out⟩
end Go.Proofs.YtajmjkliblippaaGreatDoor.S44
namespace Go.Proofs.YtajmjkliblippaaGreatDoor.S44
open Go.RowKit
theorem ov_cases {B:Nat} {w:World} {v:Value} {l:List Cr} (h:OV B w v l):(v = .slice none 0 0∧l = [])∨∃ g cap,v = .slice (some ⟨g,0,none⟩) l.length cap∧l.length≤cap∧cap≤9223372036854775807∧CrsAt l g w:=by
 obtain ⟨h1,h2⟩:=h
 rcases h2 with ⟨rfl,hn⟩ | ⟨g,cap,cur,rfl,hb,hg,hc,hm,hs,ht⟩
 ·exact .inl ⟨rfl,List.eq_nil_of_length_eq_zero hn⟩
 ·have hlt:g < w.heap.size:=(Array.getElem?_eq_some_iff.1 hg).1
  have hget:∀ j,j < l.length * 3→w.cell? ⟨g,j,none⟩ = (crC l)[j]?:=fun j hj=>by
   rw [← ht,List.getElem?_take,if_pos hj]
   unfold World.cell?
   rw [hg]
   simp
  unfold maxLen at hm
  refine .inr ⟨g,cap,rfl,hc,hm,hlt,fun i hi=>?_,fun i hi=>?_,fun i hi=>?_⟩
  ·rw [hget _ (by omega),nthC_eq hi]; exact (crC_get l i hi).1
  ·rw [hget _ (by omega),nthC_eq hi]; exact (crC_get l i hi).2.1
  ·rw [hget _ (by omega),nthC_eq hi]; exact (crC_get l i hi).2.2
theorem vertices_nil (w:World) :
 Calls Tryz.prog 193 #[.slice none 0 0] w fun e w'=>(∃ u,e = .returned (.tuple #[u,.bool false])∧OV w.heap.size w' u (verL []))∧Below w.heap.size w w':=by
 go_enter Tryz.func193,Tryz.ntmps193
 go_wp2
 go_loop [4,5,20] (fun u x v=>u = .slice (some ⟨w.heap.size,0,none⟩) 0 0∧x = .bool false∧v = .int .i64 0) (fun _ _ _=>0)
 case atStart=>exact ⟨rfl,rfl,rfl⟩
 case round =>
  obtain ⟨rfl,rfl,rfl⟩:=hrel
  go_wp2
  go_ret2
  exact ⟨⟨_,rfl,World.ownsRow_lit w #[] 0 (Nat.le_refl _) (by decide) rfl⟩,(Below.refl _ _).alloc (Nat.le_refl _) _⟩
theorem vertices_any (l:List Ms) (v:Value) (w:World) (h:LstAt l v w) (he:∀ m ∈ l,EdM m) (hl:l.length≤17) :
 Calls Tryz.prog 193 #[v] w fun e w'=>(∃ u,e = .returned (.tuple #[u,.bool (fullB l)])∧OV w.heap.size w' u (verL l))∧Below w.heap.size w w':=by
 rcases h with ⟨rfl,rfl⟩ | ⟨b,o,cap,rfl,h2,h3,h4⟩
 ·exact vertices_nil w
 ·exact vertices_some l b o cap w h4 h2 h3 he hl
theorem ov_len {B:Nat} {w:World} {v:Value} {l:List Cr} (h:OV B w v l):∃ p cap,v = .slice p l.length cap:=by
 rcases ov_cases h with ⟨rfl,rfl⟩ | ⟨g,cap,rfl,_⟩
 ·exact ⟨_,_,rfl⟩
 ·exact ⟨_,_,rfl⟩
def regE (l:List Ms):Int:=if chkL l = 0 then 14 else chkL l
def RegP (l:List Ms) (w:World) (e:Ending) (w':World):Prop:=
 ((chkL l = 0∧fullB l = true∧∃ u,e = .returned (.tuple #[u,.int .i64 0])∧OV w.heap.size w' u (verL l))∨(¬ (chkL l = 0∧fullB l = true)∧e = .returned (.tuple #[.slice none 0 0,.int .i64 (regE l)])))∧Below w.heap.size w w'
set_option maxHeartbeats 2000000
theorem region_any (l:List Ms) (v:Value) (w:World) (h:LstAt l v w) :
 Calls Tryz.prog 153 #[v] w (RegP l w):=by
 have CH:=fun w hv=>chkref_any l v w hv
 have H:=Lib.hid h
 clear h
 by_cases hc:chkL l = 0
 ·obtain ⟨he,hl⟩:=ed_of hc
  rw [hc] at CH
  have HCH:=Lib.hid CH
  have VE:=fun w hv=>vertices_any l v w hv he hl
  have HC:=Lib.hid hc
  have E0:=Lib.hid (show regE l = 14 by unfold regE; rw [if_pos hc])
  clear CH hc he
  cases hf:fullB l with
  | false =>
   rw [hf] at VE
   have HVE:=Lib.hid VE
   have HF:=Lib.hid hf
   clear VE hf
   go_enter Tryz.func153,Tryz.ntmps153
   go_wp2_with fail
   refine (HCH.out _ H.out).mono ?_
   rintro e w1 ⟨rfl,hb1⟩
   have HB1:=Lib.hid hb1
   clear hb1
   go_wp2_with fail
   refine (HVE.out _ (H.out.below HB1.out)).mono ?_
   rintro e w2 ⟨⟨u,rfl,ho⟩,hb2⟩
   have HB2:=Lib.hid (HB1.out.trans (hb2.mono HB1.out.size))
   clear hb2 ho
   go_wp2
   go_ret2
   exact ⟨.inr ⟨fun q=>(by rw [HF.out] at q; cases q.2),by rw [E0.out]; rfl⟩,HB2.out⟩
  | true =>
   rw [hf] at VE
   have HVE:=Lib.hid VE
   have HF:=Lib.hid hf
   clear VE hf
   go_enter Tryz.func153,Tryz.ntmps153
   go_wp2_with fail
   refine (HCH.out _ H.out).mono ?_
   rintro e w1 ⟨rfl,hb1⟩
   have HB1:=Lib.hid hb1
   clear hb1
   go_wp2_with fail
   refine (HVE.out _ (H.out.below HB1.out)).mono ?_
   rintro e w2 ⟨⟨u,rfl,ho⟩,hb2⟩
   have HB2:=Lib.hid (HB1.out.trans (hb2.mono HB1.out.size))
   have HO:=Lib.hid (World.ownsRow.mono ho HB1.out.size)
   obtain ⟨p,cap,rfl⟩:=ov_len ho
   clear hb2 ho
   go_wp2
   go_ret2
   exact ⟨.inl ⟨HC.out,HF.out,_,rfl,HO.out⟩,HB2.out⟩
 ·have g:(chkL l != 0) = true:=by simpa using hc
  have HCH:=Lib.hid CH
  have HC:=Lib.hid hc
  have E:=Lib.hid (show regE l = chkL l by unfold regE; rw [if_neg hc])
  clear CH hc
  obtain ⟨c,hcc⟩:∃ c,chkL l = c:=⟨_,rfl⟩
  rw [hcc] at g HCH E
  clear hcc
  go_enter Tryz.func153,Tryz.ntmps153
  go_wp2_with (go_at_call 192; refine (HCH.out _ H.out).mono ?_; rintro e w1 ⟨rfl,hb1⟩)
  go_ret2
  exact ⟨.inr ⟨fun q=>HC.out q.1,by rw [E.out]; rfl⟩,hb1⟩
set_option maxHeartbeats 200000
theorem ver_pos {l:List Ms}:(0 < (verL l).length)↔0 < (corL l).length:=by
 constructor
 ·intro h
  obtain ⟨p,hp⟩:=List.exists_mem_of_length_pos h
  exact List.length_pos_of_mem (mem_verL.1 hp)
 ·intro h
  obtain ⟨p,hp⟩:=List.exists_mem_of_length_pos h
  exact List.length_pos_of_mem (mem_verL.2 hp)
set_option maxHeartbeats 1000000
theorem conref_any (l:List Ms) (v:Value) (w:World) (h:LstAt l v w) :
 Calls Tryz.prog 109 #[v] w fun e w'=>e = .returned (.tuple #[.bool (conF l).1,.int .i64 (conF l).2])∧Below w.heap.size w w':=by
 have RG:=Lib.hid (region_any l v w h)
 clear h
 go_enter Tryz.func109,Tryz.ntmps109
 go_wp2_with fail
 refine RG.out.mono ?_
 rintro e w1 ⟨⟨h1,h2,u,rfl,ho⟩ | ⟨h1,rfl⟩,hb1⟩
 ·have E:=Lib.hid (show conF l = (decide (0 < (verL l).length),0) by unfold conF; rw [if_pos h1,if_pos h2]; simp only [ver_pos])
  have HB:=Lib.hid hb1
  obtain ⟨p,cap,rfl⟩:=ov_len ho
  clear h1 h2 ho hb1
  go_wp2
  go_ret2
  exact ⟨by rw [E.out]; simp,HB.out⟩
 ·have E:=Lib.hid (show conF l = (false,regE l) by
   unfold conF regE
   by_cases hc:chkL l = 0
   ·rw [if_pos hc,if_pos hc,if_neg (fun q=>h1 ⟨hc,q⟩)]
   ·rw [if_neg hc,if_neg hc])
  have HB:=Lib.hid hb1
  clear h1 hb1
  go_wp2
  go_ret2
  exact ⟨by rw [E.out]; rfl,HB.out⟩
end Go.Proofs.YtajmjkliblippaaGreatDoor.S44
