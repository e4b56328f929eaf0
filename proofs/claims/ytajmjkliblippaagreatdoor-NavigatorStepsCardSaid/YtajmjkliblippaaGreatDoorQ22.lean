/-
  Walks and laws of the layers below, gathered from several texts.
-/
import Derived.Lib.Hide
import Derived.Test.YtajmjkliblippaaGreatDoorShelfQ
import Derived.WalkKit
import Derived.WalkSpells
import Derived.IntWalk
import Derived.BigQuiet
import Derived.Deep.QuietTactic
import Derived.Deep.LoopGhost
import Derived.LoopTactic
import Derived.Deep.Cut
import Derived.Deep.RegionHeld3
import Derived.Laws.Bits64b
import Derived.Laws.Bits64
import Derived.Lib.QuietBelow
import Derived.Laws.OwnMore
import Derived.Maps.AppendAt
import Derived.OwnWalk
import Derived.OneCell
import Derived.Lib.SmallJoins
import Derived.Deep.Onto
import Derived.Lib.SlicesCompact
import Derived.Lib.RowBridge
import Derived.Test.YtajmjkliblippaaGreatDoorQ3
import Derived.Test.YtajmjkliblippaaGreatDoorQ9
import Derived.Test.YtajmjkliblippaaGreatDoorQ10
import Derived.Test.YtajmjkliblippaaGreatDoorQ14
import Derived.Test.YtajmjkliblippaaGreatDoorQ15
import Derived.Test.YtajmjkliblippaaGreatDoorQ16
import Derived.Test.YtajmjkliblippaaGreatDoorQ17
set_option linter.unusedVariables false
namespace Go.Proofs.YtajmjkliblippaaGreatDoor
open Go.RowKit
structure NStep (l:List Ms) (k:Nat) (m:Ms):Prop where
 wa:IntKind.i64.wrap (m.w * m.a) = m.w * m.a
 wb:IntKind.i64.wrap (m.w * m.b) = m.w * m.b
 waa:IntKind.i64.wrap (m.w * m.a * m.a) = m.w * m.a * m.a
 wab:IntKind.i64.wrap (m.w * m.a * m.b) = m.w * m.a * m.b
 wbb:IntKind.i64.wrap (m.w * m.b * m.b) = m.w * m.b * m.b
 waz:IntKind.i64.wrap (m.w * m.a * m.z) = m.w * m.a * m.z
 wbz:IntKind.i64.wrap (m.w * m.b * m.z) = m.w * m.b * m.z
 xx:IntKind.i64.wrap (nXX (l.take k) + m.w * m.a * m.a) = nXX (l.take (k + 1))
 xy:IntKind.i64.wrap (nXY (l.take k) + m.w * m.a * m.b) = nXY (l.take (k + 1))
 yy:IntKind.i64.wrap (nYY (l.take k) + m.w * m.b * m.b) = nYY (l.take (k + 1))
 xz:IntKind.i64.wrap (nXZ (l.take k) + m.w * m.a * m.z) = nXZ (l.take (k + 1))
 yz:IntKind.i64.wrap (nYZ (l.take k) + m.w * m.b * m.z) = nYZ (l.take (k + 1))
theorem nstep {l:List Ms} (h:OkL l) {k:Nat} (q:k < l.length):NStep l k (nth l k):=by
 have o:=h.ok _ (nth_mem q)
 have B:=nrm_bd (h.take (k + 1))
 have xx0:nXX (l.take (k + 1)) = nXX (l.take k) + (nth l k).w * (nth l k).a * (nth l k).a:=sum_take _ q
 have xy0:nXY (l.take (k + 1)) = nXY (l.take k) + (nth l k).w * (nth l k).a * (nth l k).b:=sum_take _ q
 have yy0:nYY (l.take (k + 1)) = nYY (l.take k) + (nth l k).w * (nth l k).b * (nth l k).b:=sum_take _ q
 have xz0:nXZ (l.take (k + 1)) = nXZ (l.take k) + (nth l k).w * (nth l k).a * (nth l k).z:=sum_take _ q
 have yz0:nYZ (l.take (k + 1)) = nYZ (l.take k) + (nth l k).w * (nth l k).b * (nth l k).z:=sum_take _ q
 generalize nth l k = m at *
 have p1:=mulb (X:=16) (Y:=256) (x:=m.w) (y:=m.a) (by omega) (by have:=o.w0; omega) o.w1 o.a0 o.a1
 have p2:=mulb (X:=16) (Y:=256) (x:=m.w) (y:=m.b) (by omega) (by have:=o.w0; omega) o.w1 o.b0 o.b1
 have t1:=term2 (A:=256) (B:=256) (by omega) o.w0 o.w1 o.a0 o.a1 o.a0 o.a1
 have t2:=term2 (A:=256) (B:=256) (by omega) o.w0 o.w1 o.a0 o.a1 o.b0 o.b1
 have t3:=term2 (A:=256) (B:=256) (by omega) o.w0 o.w1 o.b0 o.b1 o.b0 o.b1
 have t4:=term2 (A:=256) (B:=4294967296) (by omega) o.w0 o.w1 o.a0 o.a1 o.z0 o.z1
 have t5:=term2 (A:=256) (B:=4294967296) (by omega) o.w0 o.w1 o.b0 o.b1 o.z0 o.z1
 obtain ⟨⟨a0,a1⟩,⟨b0,b1⟩,⟨c0,c1⟩,⟨d0,d1⟩,⟨e0,e1⟩⟩:=B
 exact ⟨IntWalk.i64_in _ (by omega),IntWalk.i64_in _ (by omega),IntWalk.i64_in _ (by omega),IntWalk.i64_in _ (by omega),IntWalk.i64_in _ (by omega),IntWalk.i64_in _ (by omega),IntWalk.i64_in _ (by omega),
  by rw [← xx0]; exact IntWalk.i64_in _ (by omega),by rw [← xy0]; exact IntWalk.i64_in _ (by omega),by rw [← yy0]; exact IntWalk.i64_in _ (by omega),by rw [← xz0]; exact IntWalk.i64_in _ (by omega),by rw [← yz0]; exact IntWalk.i64_in _ (by omega)⟩
def NrR (l:List Ms) (p:Option Addr) (cap:Nat) (w:World) (bn:Nat) (u:Value) (wr:World):Prop:=∃ k:Nat,u = .int .i64 k∧k≤l.length∧Hid (Below w.heap.size w wr)∧Hid (Blk [.int .i64 (nXX (l.take k)),.int .i64 (nXY (l.take k)),.int .i64 (nYY (l.take k)),.int .i64 (nXZ (l.take k)),.int .i64 (nYZ (l.take k))] bn wr)∧Hid (Blk [.int .i64 0,.int .i64 0,.int .i64 0,.int .i64 0,.int .i64 0] w.heap.size wr)
set_option maxHeartbeats 8000000
set_option maxRecDepth 100000
theorem normal_any (l:List Ms) (v:Value) (w:World) (h:LstAt l v w) (hc:chkL l = 0) :
 Calls Tryz.prog 140 #[v] w fun e w'=>e = .returned (.tuple #[.agg #[.int .i64 (nXX l),.int .i64 (nXY l),.int .i64 (nYY l),.int .i64 (nXZ l),.int .i64 (nYZ l)],.int .i64 0])∧Below w.heap.size w w':=by
 obtain ⟨p,cap,rfl⟩:=lst_form h
 have OL:=Lib.hid (okL_of hc)
 have CH:=Lib.hid fun w h=>check_any l (.slice p l.length cap) w h
 rw [hc] at CH
 clear hc
 have H0:=Lib.hid h
 obtain ⟨KZ,HB⟩:=ent1 w #[.int .i64 0,.int .i64 0,.int .i64 0,.int .i64 0,.int .i64 0] 160
 go_enter Tryz.func140,Tryz.ntmps140
 clear h
 go_wp2_with fail
 generalize w.alloc _ = w0 at *
 refine (CH.out _ (H0.out.below HB.out)).mono ?_
 rintro e1 w1 ⟨rfl,hb1⟩
 replace HB:=hT HB hb1
 replace KZ:=hK KZ hb1
 clear hb1
 go_wp2
 obtain ⟨KN,hb2⟩:=alB w1 #[.int .i64 0,.int .i64 0,.int .i64 0,.int .i64 0,.int .i64 0] 160
 have hnN:=HB.out.size
 have nzN_Z:=KZ.out.lt
 replace HB:=hT HB hb2
 replace KZ:=hK KZ hb2
 clear hb2
 generalize w1.alloc _ = w2 at *
 generalize w1.heap.size = bN at *
 have neN_Z:bN≠w.heap.size:=by omega
 clear nzN_Z
 go_loopw [16] (NrR l p cap w bN) (fun i _=>l.length - (intOf i).toNat)
 case atStart=>exact ⟨0,rfl,Nat.zero_le _,HB,KN,KZ⟩
 case round =>
  clear HB KN KZ
  obtain ⟨k,rfl,hk,HB,KN,KZ⟩:=hrel
  by_cases q:k < l.length
  ·have q':decide (k < l.length) = true:=by simpa using q
   obtain ⟨b,o,rfl,hcap,hmax,MM⟩:=lst_at (H0.out.below HB.out) q
   have c0:=MM.c0 k q
   have c1:=MM.c1 k q
   have c2:=MM.c2 k q
   have c3:=MM.c3 k q
   have c4:=MM.c4 k q
   have c5:=MM.c5 k q
   have clt:=MM.lt
   have NS:=nstep OL.out q
   obtain ⟨s0,s1,s2,s3,s4,s5,s6,s7,s8,s9,s10,s11⟩:=NS
   clear MM
   generalize nth l k = m at *
   generalize nXX (l.take k) = A at *
   generalize nXY (l.take k) = B at *
   generalize nYY (l.take k) = C at *
   generalize nXZ (l.take k) = D at *
   generalize nYZ (l.take k) = E at *
   obtain ⟨A1,EA⟩:∃ x,nXX (l.take (k + 1)) = x:=⟨_,rfl⟩
   obtain ⟨B1,EB⟩:∃ x,nXY (l.take (k + 1)) = x:=⟨_,rfl⟩
   obtain ⟨C1,EC⟩:∃ x,nYY (l.take (k + 1)) = x:=⟨_,rfl⟩
   obtain ⟨D1,ED⟩:∃ x,nXZ (l.take (k + 1)) = x:=⟨_,rfl⟩
   obtain ⟨E1,EE⟩:∃ x,nYZ (l.take (k + 1)) = x:=⟨_,rfl⟩
   rw [EA] at s7
   rw [EB] at s8
   rw [EC] at s9
   rw [ED] at s10
   rw [EE] at s11
   have HA:=Lib.hid EA
   have HBB:=Lib.hid EB
   have HC:=Lib.hid EC
   have HD:=Lib.hid ED
   have HE:=Lib.hid EE
   clear EA EB EC ED EE
   obtain ⟨yN0,yN1,yN2,yN3,yN4,yNz,yNf0,yNf1,yNf2,yNf3,yNf4⟩:=blf5 KN
   obtain ⟨yN0,yN1,yN2,yN3,yN4,yNz,yNf0,yNf1,yNf2,yNf3,yNf4⟩:=blf5 KN
   go_wp2
   replace KN:=kst (kst (kst (kst (kst KN 0 (.int .i64 A1)) 1 (.int .i64 B1)) 2 (.int .i64 C1)) 3 (.int .i64 D1)) 4 (.int .i64 E1)
   refine ot1 (st5 wr bN 0 (.int .i64 A1) 1 (.int .i64 B1) 2 (.int .i64 C1) 3 (.int .i64 D1) 4 (.int .i64 E1)) HB KZ (by omega) (by omega) ?_
   clear HB KZ
   intro HB KZ
   clear yN0 yN1 yN2 yN3 yN4 yNz yNf0 yNf1 yNf2 yNf3 yNf4
   generalize ((((wr.setCell _ _).setCell _ _).setCell _ _).setCell _ _).setCell _ _ = w51 at *
   simp only [List.set] at KN
   obtain ⟨KM,hb52⟩:=alB w51 #[.int .i64 m.s,.int .i64 m.a,.int .i64 m.b,.int .i64 m.z,.int .i64 m.d,.int .i64 m.w] 71
   have hnM:=HB.out.size
   have nzM_Z:=KZ.out.lt
   have nzM_N:=KN.out.lt
   refine up2 hb52 HB KZ KN ?_
   clear hb52 HB KZ KN
   intro HB KZ KN
   generalize w51.alloc _ = w52 at *
   generalize w51.heap.size = bM at *
   have neM_Z:bM≠w.heap.size:=by omega
   have neM_N:bM≠bN:=by omega
   clear nzM_Z nzM_N
   exact ⟨⟨k + 1,by go_num,by omega,HB,by rw [HA.out,HBB.out,HC.out,HD.out,HE.out]; exact KN,KZ⟩,by simp [intOf]; omega⟩
  ·obtain rfl:k = l.length:=by omega
   rw [List.take_length] at KN
   obtain ⟨A,EA⟩:∃ x,nXX l = x:=⟨_,rfl⟩
   rw [EA] at KN
   have HA:=Lib.hid EA
   clear EA
   obtain ⟨B,EB⟩:∃ x,nXY l = x:=⟨_,rfl⟩
   rw [EB] at KN
   have HBB:=Lib.hid EB
   clear EB
   obtain ⟨C,EC⟩:∃ x,nYY l = x:=⟨_,rfl⟩
   rw [EC] at KN
   have HC:=Lib.hid EC
   clear EC
   obtain ⟨D,ED⟩:∃ x,nXZ l = x:=⟨_,rfl⟩
   rw [ED] at KN
   have HD:=Lib.hid ED
   clear ED
   obtain ⟨E,EE⟩:∃ x,nYZ l = x:=⟨_,rfl⟩
   rw [EE] at KN
   have HE:=Lib.hid EE
   clear EE
   obtain ⟨yZ0,yZ1,yZ2,yZ3,yZ4,yZz,yZf0,yZf1,yZf2,yZf3,yZf4⟩:=blf5 KZ
   obtain ⟨yN0,yN1,yN2,yN3,yN4,yNz⟩:=blk5 KN
   go_wp2
   replace KZ:=kst (kst (kst (kst (kst KZ 0 (.int .i64 A)) 1 (.int .i64 B)) 2 (.int .i64 C)) 3 (.int .i64 D)) 4 (.int .i64 E)
   refine ot1 (st5 wr w.heap.size 0 (.int .i64 A) 1 (.int .i64 B) 2 (.int .i64 C) 3 (.int .i64 D) 4 (.int .i64 E)) HB KN (by omega) (by omega) ?_
   clear HB KN
   intro HB KN
   clear yZ0 yZ1 yZ2 yZ3 yZ4 yZz yZf0 yZf1 yZf2 yZf3 yZf4 yN0 yN1 yN2 yN3 yN4 yNz
   generalize ((((wr.setCell _ _).setCell _ _).setCell _ _).setCell _ _).setCell _ _ = w51 at *
   simp only [List.set] at KZ
   obtain ⟨yZ0,yZ1,yZ2,yZ3,yZ4,yZz⟩:=blk5 KZ
   refine bodyPost_ret (v:=.tuple #[.agg #[.int .i64 A,.int .i64 B,.int .i64 C,.int .i64 D,.int .i64 E],.int .i64 0]) (by simp [results,Tryz.results140,go_sem,yZ0,yZ1,yZ2,yZ3,yZ4]) rfl ⟨by rw [HA.out,HBB.out,HC.out,HD.out,HE.out],HB.out⟩
theorem normal_bad (l:List Ms) (v:Value) (w:World) (h:LstAt l v w) (hc:chkL l≠0) :
 Calls Tryz.prog 140 #[v] w fun e w'=>e = .returned (.tuple #[.agg #[.int .i64 0,.int .i64 0,.int .i64 0,.int .i64 0,.int .i64 0],.int .i64 (chkL l)])∧Below w.heap.size w w':=by
 obtain ⟨p,cap,rfl⟩:=lst_form h
 have CH:=Lib.hid fun w h=>check_any l (.slice p l.length cap) w h
 have g:(chkL l != 0) = true:=by simpa using hc
 have g':(chkL l == 0) = false:=by simpa using hc
 clear hc
 generalize chkL l = c at *
 have H0:=Lib.hid h
 obtain ⟨KZ,HB⟩:=ent1 w #[.int .i64 0,.int .i64 0,.int .i64 0,.int .i64 0,.int .i64 0] 160
 go_enter Tryz.func140,Tryz.ntmps140
 clear h
 go_wp2_with fail
 generalize w.alloc _ = w0 at *
 refine (CH.out _ (H0.out.below HB.out)).mono ?_
 rintro e1 w1 ⟨rfl,hb1⟩
 replace HB:=hT HB hb1
 replace KZ:=hK KZ hb1
 clear hb1
 obtain ⟨yZ0,yZ1,yZ2,yZ3,yZ4,yZz,yZf0,yZf1,yZf2,yZf3,yZf4⟩:=blf5 KZ
 go_wp2
 have hs:=st5 w1 w.heap.size 0 (.int .i64 0) 1 (.int .i64 0) 2 (.int .i64 0) 3 (.int .i64 0) 4 (.int .i64 0)
 replace KZ:=kst (kst (kst (kst (kst KZ 0 (.int .i64 0)) 1 (.int .i64 0)) 2 (.int .i64 0)) 3 (.int .i64 0)) 4 (.int .i64 0)
 replace HB:=oH hs HB (by omega)
 clear hs
 clear yZ0 yZ1 yZ2 yZ3 yZ4 yZz yZf0 yZf1 yZf2 yZf3 yZf4
 generalize ((((w1.setCell _ _).setCell _ _).setCell _ _).setCell _ _).setCell _ _ = w2 at *
 simp only [List.set] at KZ
 obtain ⟨yZ0,yZ1,yZ2,yZ3,yZ4,yZz⟩:=blk5 KZ
 refine bodyPost_ret (v:=.tuple #[.agg #[.int .i64 0,.int .i64 0,.int .i64 0,.int .i64 0,.int .i64 0],.int .i64 c]) (by simp [results,Tryz.results140,go_sem,yZ0,yZ1,yZ2,yZ3,yZ4]) rfl ⟨rfl,HB.out⟩
end Go.Proofs.YtajmjkliblippaaGreatDoor
namespace Go.Proofs.YtajmjkliblippaaGreatDoor
open Go.RowKit
structure ReachB (cx cy X Y NX NY D:Int):Prop where
 c:-2000000≤cx∧cx≤2000000∧-2000000≤cy∧cy≤2000000
 x:-9444732965739290427392≤X∧X≤9444732965739290427392
 y:-9444732965739290427392≤Y∧Y≤9444732965739290427392
 nx:0≤NX∧NX≤9444732965739290427392
 ny:0≤NY∧NY≤9444732965739290427392
 d:0 < D∧D≤562949953421312
set_option maxHeartbeats 8000000
set_option maxRecDepth 100000
theorem sizes_any (x y d:Int) (w:World) (hx0:0≤x) (hx:x < 85070591730234615865843651857942052864) (hy0:0≤y) (hy:y < 85070591730234615865843651857942052864) (hd:0 < d) (hd1:d≤9223372036854775807) :
 Calls Tryz.prog 146 #[wv x,wv y,.int .i64 d] w fun e w'=>e = .returned (.tuple #[.int .i64 (pairF x y d).1.1,.int .i64 (pairF x y d).1.2,.int .i64 (pairF x y d).2])∧Below w.heap.size w w':=by
 have SX:=Lib.hid fun w=>size_any x d w hx0 hx hd hd1
 have SY:=Lib.hid fun w=>size_any y d w hy0 hy hd hd1
 have E0:pairF x y d = if ceilI x d≤8000000∧ceilI y d≤8000000 then ((ceilI x d,ceilI y d),0) else ((0,0),2):=rfl
 clear hx0 hx hy0 hy hd hd1
 generalize pairF x y d = P at *
 generalize ceilI x d = u at *
 generalize ceilI y d = v at *
 unfold wv at *
 by_cases h:u≤8000000
 ·rw [if_pos h] at SX
  by_cases k:v≤8000000
  ·rw [if_pos k] at SY
   have E:=Lib.hid (E0.trans (if_pos ⟨h,k⟩))
   clear E0 h k
   obtain ⟨KX,KY,HB⟩:=ent2 w #[.int .i64 (hiW x),.int .u64 (loW x)] 112 #[.int .i64 (hiW y),.int .u64 (loW y)] 112
   go_enter Tryz.func146,Tryz.ntmps146
   go_wp2_with fail
   generalize (w.alloc _).alloc _ = w0 at *
   refine (SX.out _).mono ?_
   rintro e1 w1 ⟨rfl,hb1⟩
   refine up2 hb1 HB KX KY ?_
   clear hb1 HB KX KY
   intro HB KX KY
   obtain ⟨yY0,yY1,yYz⟩:=blk2 KY
   go_wp2_with fail
   refine (SY.out _).mono ?_
   rintro e2 w2 ⟨rfl,hb2⟩
   refine up2 hb2 HB KX KY ?_
   clear hb2 yY0 yY1 yYz HB KX KY
   intro HB KX KY
   go_wp2
   refine bodyPost_ret (v:=.tuple #[.int .i64 u,.int .i64 v,.int .i64 0]) (by simp [results,Tryz.results146,go_sem]) rfl ⟨by rw [E.out],HB.out⟩
  ·rw [if_neg k] at SY
   have E:=Lib.hid (E0.trans (if_neg fun q=>k q.2))
   clear E0 h k
   obtain ⟨KX,KY,HB⟩:=ent2 w #[.int .i64 (hiW x),.int .u64 (loW x)] 112 #[.int .i64 (hiW y),.int .u64 (loW y)] 112
   go_enter Tryz.func146,Tryz.ntmps146
   go_wp2_with fail
   generalize (w.alloc _).alloc _ = w0 at *
   refine (SX.out _).mono ?_
   rintro e1 w1 ⟨rfl,hb1⟩
   refine up2 hb1 HB KX KY ?_
   clear hb1 HB KX KY
   intro HB KX KY
   obtain ⟨yY0,yY1,yYz⟩:=blk2 KY
   go_wp2_with fail
   refine (SY.out _).mono ?_
   rintro e2 w2 ⟨rfl,hb2⟩
   refine up2 hb2 HB KX KY ?_
   clear hb2 yY0 yY1 yYz HB KX KY
   intro HB KX KY
   go_wp2
   refine bodyPost_ret (v:=.tuple #[.int .i64 0,.int .i64 0,.int .i64 2]) (by simp [results,Tryz.results146,go_sem]) rfl ⟨by rw [E.out],HB.out⟩
 ·rw [if_neg h] at SX
  by_cases k:v≤8000000
  ·rw [if_pos k] at SY
   have E:=Lib.hid (E0.trans (if_neg fun q=>h q.1))
   clear E0 h k
   obtain ⟨KX,KY,HB⟩:=ent2 w #[.int .i64 (hiW x),.int .u64 (loW x)] 112 #[.int .i64 (hiW y),.int .u64 (loW y)] 112
   go_enter Tryz.func146,Tryz.ntmps146
   go_wp2_with fail
   generalize (w.alloc _).alloc _ = w0 at *
   refine (SX.out _).mono ?_
   rintro e1 w1 ⟨rfl,hb1⟩
   refine up2 hb1 HB KX KY ?_
   clear hb1 HB KX KY
   intro HB KX KY
   obtain ⟨yY0,yY1,yYz⟩:=blk2 KY
   go_wp2_with fail
   refine (SY.out _).mono ?_
   rintro e2 w2 ⟨rfl,hb2⟩
   refine up2 hb2 HB KX KY ?_
   clear hb2 yY0 yY1 yYz HB KX KY
   intro HB KX KY
   go_wp2
   refine bodyPost_ret (v:=.tuple #[.int .i64 0,.int .i64 0,.int .i64 2]) (by simp [results,Tryz.results146,go_sem]) rfl ⟨by rw [E.out],HB.out⟩
  ·rw [if_neg k] at SY
   have E:=Lib.hid (E0.trans (if_neg fun q=>h q.1))
   clear E0 h k
   obtain ⟨KX,KY,HB⟩:=ent2 w #[.int .i64 (hiW x),.int .u64 (loW x)] 112 #[.int .i64 (hiW y),.int .u64 (loW y)] 112
   go_enter Tryz.func146,Tryz.ntmps146
   go_wp2_with fail
   generalize (w.alloc _).alloc _ = w0 at *
   refine (SX.out _).mono ?_
   rintro e1 w1 ⟨rfl,hb1⟩
   refine up2 hb1 HB KX KY ?_
   clear hb1 HB KX KY
   intro HB KX KY
   obtain ⟨yY0,yY1,yYz⟩:=blk2 KY
   go_wp2_with fail
   refine (SY.out _).mono ?_
   rintro e2 w2 ⟨rfl,hb2⟩
   refine up2 hb2 HB KX KY ?_
   clear hb2 yY0 yY1 yYz HB KX KY
   intro HB KX KY
   go_wp2
   refine bodyPost_ret (v:=.tuple #[.int .i64 0,.int .i64 0,.int .i64 2]) (by simp [results,Tryz.results146,go_sem]) rfl ⟨by rw [E.out],HB.out⟩
set_option maxHeartbeats 200000
set_option maxRecDepth 512
theorem apart_bd {p d x:Int} (hp0:-2000000≤p) (hp:p≤2000000) (hd0:0 < d) (hd:d≤562949953421312) (hx0:-9444732965739290427392≤x) (hx:x≤9444732965739290427392) :
 -10570632872582575427392≤p * d - x∧p * d - x≤10570632872582575427392∧0≤absZ (p * d - x)∧absZ (p * d - x)≤10570632872582575427392:=by
 have h:=mulb (X:=2000000) (Y:=562949953421312) (x:=p) (y:=d) (by omega) hp0 hp (by omega) hd
 have h1:-10570632872582575427392≤p * d - x:=by omega
 have h2:p * d - x≤10570632872582575427392:=by omega
 exact ⟨h1,h2,absZ_ge _,absZ_le h1 h2⟩
set_option maxHeartbeats 8000000
set_option maxRecDepth 100000
theorem reach_any (cx cy X Y NX NY D:Int) (w:World) (h:ReachB cx cy X Y NX NY D) :
 Calls Tryz.prog 98 #[.agg #[.int .i64 cx,.int .i64 cy],.agg #[.int .i64 (hiW X),.int .u64 (loW X),.int .i64 (hiW Y),.int .u64 (loW Y),.int .i64 (hiW NX),.int .u64 (loW NX),.int .i64 (hiW NY),.int .u64 (loW NY),.int .i64 D]] w fun e w'=>e = .returned (.tuple #[.int .i64 (pairF (apartI cx X D + NX) (apartI cy Y D + NY) D).1.1,.int .i64 (pairF (apartI cx X D + NX) (apartI cy Y D + NY) D).1.2,.int .i64 (pairF (apartI cx X D + NX) (apartI cy Y D + NY) D).2])∧Below w.heap.size w w':=by
 obtain ⟨⟨c0,c1,c2,c3⟩,⟨x0,x1⟩,⟨y0,y1⟩,⟨nx0,nx1⟩,⟨ny0,ny1⟩,d0,d1⟩:=h
 obtain ⟨a0,a1,a2,a3⟩:=apart_bd c0 c1 d0 d1 x0 x1
 obtain ⟨b0,b1,b2,b3⟩:=apart_bd c2 c3 d0 d1 y0 y1
 have AX:=Lib.hid fun w=>apart_any cx X D w ⟨by omega,by omega⟩ ⟨by omega,by omega⟩ ⟨by omega,by omega⟩ ⟨by omega,by omega⟩ ⟨by omega,by omega⟩
 have AY:=Lib.hid fun w=>apart_any cy Y D w ⟨by omega,by omega⟩ ⟨by omega,by omega⟩ ⟨by omega,by omega⟩ ⟨by omega,by omega⟩ ⟨by omega,by omega⟩
 unfold apartI
 generalize absZ (cx * D - X) = u at *
 generalize absZ (cy * D - Y) = v at *
 have PX:=Lib.hid fun w=>plus_any u NX w ⟨by omega,by omega⟩ ⟨by omega,by omega⟩ ⟨by omega,by omega⟩
 have PY:=Lib.hid fun w=>plus_any v NY w ⟨by omega,by omega⟩ ⟨by omega,by omega⟩ ⟨by omega,by omega⟩
 have SZ:=Lib.hid fun w=>sizes_any (u + NX) (v + NY) D w (by omega) (by omega) (by omega) (by omega) d0 (by omega)
 generalize pairF (u + NX) (v + NY) D = q at *
 generalize u + NX = s at *
 generalize v + NY = t at *
 unfold wv at *
 clear c0 c1 c2 c3 x0 x1 y0 y1 nx0 nx1 ny0 ny1 d0 d1 a0 a1 a2 a3 b0 b1 b2 b3
 obtain ⟨KP,KS,HB⟩:=ent2 w #[.int .i64 cx,.int .i64 cy] 23 #[.int .i64 (hiW X),.int .u64 (loW X),.int .i64 (hiW Y),.int .u64 (loW Y),.int .i64 (hiW NX),.int .u64 (loW NX),.int .i64 (hiW NY),.int .u64 (loW NY),.int .i64 D] 119
 go_enter Tryz.func98,Tryz.ntmps98
 go_wp2_with fail
 generalize (w.alloc _).alloc _ = w0 at *
 have gP_0:=fun d os=>cell_regrown (KP.out.c 0 _ rfl) d os
 have gP_1:=fun d os=>cell_regrown (KP.out.c 1 _ rfl) d os
 have gS_0:=fun d os=>cell_regrown (KS.out.c 0 _ rfl) d os
 have gS_1:=fun d os=>cell_regrown (KS.out.c 1 _ rfl) d os
 have gS_2:=fun d os=>cell_regrown (KS.out.c 2 _ rfl) d os
 have gS_3:=fun d os=>cell_regrown (KS.out.c 3 _ rfl) d os
 have gS_4:=fun d os=>cell_regrown (KS.out.c 4 _ rfl) d os
 have gS_5:=fun d os=>cell_regrown (KS.out.c 5 _ rfl) d os
 have gS_6:=fun d os=>cell_regrown (KS.out.c 6 _ rfl) d os
 have gS_7:=fun d os=>cell_regrown (KS.out.c 7 _ rfl) d os
 have gS_8:=fun d os=>cell_regrown (KS.out.c 8 _ rfl) d os
 have rv0:=Lib.hid (fun d os=>Calls.regrown_of (AX.out (Go.Sort.grow (redrawn w0 d) os)))
 have rv1:=Lib.hid (fun d os=>Calls.regrown_of (AY.out (Go.Sort.grow (redrawn w0 d) os)))
 have rv2:=Lib.hid (fun d os=>Calls.regrown_of (PX.out (Go.Sort.grow (redrawn w0 d) os)))
 have rv3:=Lib.hid (fun d os=>Calls.regrown_of (PY.out (Go.Sort.grow (redrawn w0 d) os)))
 have rv4:=Lib.hid (fun d os=>Calls.regrown_of (SZ.out (Go.Sort.grow (redrawn w0 d) os)))
 refine wp_region_quiet_below (by kernel_rfl) (by kernel_rfl) ?_
 repeat (quiet_step (first | with_reducible exact rv0.out _ _ | with_reducible exact rv1.out _ _ | with_reducible exact rv2.out _ _ | with_reducible exact rv3.out _ _ | with_reducible exact rv4.out _ _))
 refine wpQuiet_nil ?_
 intro w1 hw1
 have hb1:Below w0.heap.size w0 w1:=by
  obtain ⟨⟨dq,osq⟩,hw2⟩:=hw1
  rw [hw2]; exact below_regrown _ dq osq
 clear gP_0 gP_1 gS_0 gS_1 gS_2 gS_3 gS_4 gS_5 gS_6 gS_7 gS_8 rv0 rv1 rv2 rv3 rv4 hw1
 refine up2 hb1 HB KP KS ?_
 clear hb1 HB KP KS
 intro HB KP KS
 go_wp2
 refine bodyPost_ret (v:=.tuple #[.int .i64 q.1.1,.int .i64 q.1.2,.int .i64 q.2]) (by simp [results,Tryz.results98,go_sem]) rfl ⟨rfl,HB.out⟩
end Go.Proofs.YtajmjkliblippaaGreatDoor
namespace Go.Proofs.YtajmjkliblippaaGreatDoor
open Go.RowKit
theorem far9 {m b c:Nat} {W:World} (h:m≤c) (hb:b < m) {v0 v1 v2 v3 v4 v5 v6 v7 v8:Value} (i:Nat):(((((((((W.setCell ⟨c,0,none⟩ v0).setCell ⟨c,1,none⟩ v1).setCell ⟨c,2,none⟩ v2).setCell ⟨c,3,none⟩ v3).setCell ⟨c,4,none⟩ v4).setCell ⟨c,5,none⟩ v5).setCell ⟨c,6,none⟩ v6).setCell ⟨c,7,none⟩ v7).setCell ⟨c,8,none⟩ v8).cell? ⟨b,i,none⟩ = W.cell? ⟨b,i,none⟩:=
 have hne:c≠b:=by omega
 (((((((((World.cell?_setCell_far _ _ _ _ hne).trans (World.cell?_setCell_far _ _ _ _ hne)).trans (World.cell?_setCell_far _ _ _ _ hne)).trans (World.cell?_setCell_far _ _ _ _ hne)).trans (World.cell?_setCell_far _ _ _ _ hne)).trans (World.cell?_setCell_far _ _ _ _ hne)).trans (World.cell?_setCell_far _ _ _ _ hne)).trans (World.cell?_setCell_far _ _ _ _ hne)).trans (World.cell?_setCell_far _ _ _ _ hne))
def OnlyN (R:Act→World→Prop):Exit→Act→World→Prop
 | .normal,a,w=>R a w
 | _,_,_=>False
theorem OnlyN.mk {R:Act→World→Prop} {a:Act} {w:World} (h:R a w):OnlyN R .normal a w:=h
theorem OnlyN.imp {R:Act→World→Prop} {Q:Exit→Act→World→Prop} (k:∀ a w,R a w→Q .normal a w):∀ (e:Exit) (a:Act) (w:World),OnlyN R e a w→Q e a w:=fun e a w h=>by
 cases e <;> first | exact k a w h | exact (h:False).elim
theorem wp_join {P:Program} {c:Code} {Q:Exit→Act→World→Prop} {a:Act} {w:World} {F:Nat→Act} {R:Nat→World→Prop} (h:c.wp P (OnlyN fun a' w'=>∃ b,a' = F b∧R b w') a w) (k:∀ b w',R b w'→Q .normal (F b) w'):c.wp P Q a w:=
 Code.wp_mono (OnlyN.imp fun a' w' ⟨b,ha,hr⟩=>by subst ha; exact k b w' hr) h
theorem wp_join0 {P:Program} {c:Code} {Q:Exit→Act→World→Prop} {a:Act} {w:World} {A:Act} {R:World→Prop} (h:c.wp P (OnlyN fun a' w'=>a' = A∧R w') a w) (k:∀ w',R w'→Q .normal A w'):c.wp P Q a w:=
 Code.wp_mono (OnlyN.imp fun a' w' ⟨ha,hr⟩=>by subst ha; exact k w' hr) h
theorem abs_anyZ (x:Int) (w:World) (h0:-9223372036854775807≤x) (h1:x≤9223372036854775807) :
 Calls Tryz.prog 86 #[.int .i64 x] w fun e w'=>e = .returned (.int .i64 (absZ x))∧Below w.heap.size w w':=regrown_drewN (B:=0) (w':=w) (abs_any x w h0 h1)
def nxF (l:List Ms) (m:Ms):Int:=m.w * absZ (nYY l * m.a - nXY l * m.b) * m.d
def nyF (l:List Ms) (m:Ms):Int:=m.w * absZ (nXX l * m.b - nXY l * m.a) * m.d
theorem noiX_is (l:List Ms):noiX l = sumL (nxF l) l:=rfl
theorem noiY_is (l:List Ms):noiY l = sumL (nyF l) l:=rfl
structure SvHalf (u v a b:Int) (m:Ms) (U U1:Int):Prop where
 s1:IntKind.i64.wrap (u * a) = u * a
 s2:IntKind.i64.wrap (v * b) = v * b
 s3:IntKind.i64.wrap (u * a - v * b) = u * a - v * b
 s4:IntKind.i64.wrap (m.w * absZ (u * a - v * b)) = m.w * absZ (u * a - v * b)
 ab:∀ w,Calls Tryz.prog 86 #[.int .i64 (u * a - v * b)] w fun e w'=>e = .returned (.int .i64 (absZ (u * a - v * b)))∧Below w.heap.size w w'
 mu:∀ w,Calls Tryz.prog 145 #[.int .i64 (m.w * absZ (u * a - v * b)),.int .i64 m.d] w fun e w'=>e = .returned (wv (m.w * absZ (u * a - v * b) * m.d))∧Below w.heap.size w w'
 pl:∀ w,Calls Tryz.prog 144 #[wv U,wv (m.w * absZ (u * a - v * b) * m.d)] w fun e w'=>e = .returned (wv U1)∧Below w.heap.size w w'
theorem sv_half {m:Ms} (o:OkM m) {u v a b U U1:Int} (hu0:-16777216≤u) (hu:u≤16777216) (hv0:-16777216≤v) (hv:v≤16777216) (ha0:-256≤a) (ha:a≤256) (hb0:-256≤b) (hb:b≤256)
 (hU0:0≤U) (hU:U≤9444732965739290427392) (e:U1 = U + m.w * absZ (u * a - v * b) * m.d):SvHalf u v a b m U U1:=by
 obtain ⟨t0,t1,t2,t3,t4,t5⟩:=noi_term o hu0 hu hv0 hv ha0 ha hb0 hb
 have p1:=mulb (X:=16777216) (Y:=256) (by omega) hu0 hu ha0 ha
 have p2:=mulb (X:=16777216) (Y:=256) (by omega) hv0 hv hb0 hb
 have d0:=o.d0
 have d1:=o.d1
 refine ⟨IntWalk.i64_in _ (by omega),IntWalk.i64_in _ (by omega),IntWalk.i64_in _ (by omega),IntWalk.i64_in _ (by omega),fun w=>abs_anyZ _ w (by omega) (by omega),fun w=>wmul_any _ _ w (by omega) (by omega) (by omega) (by omega),fun w=>?_⟩
 rw [e]
 exact plus_any _ _ w ⟨by omega,by omega⟩ ⟨by omega,by omega⟩ ⟨by omega,by omega⟩
theorem noi_part {l:List Ms} (h:OkL l) (k:Nat):(0≤sumL (nxF l) (l.take k)∧sumL (nxF l) (l.take k)≤9444732965739290427392)∧0≤sumL (nyF l) (l.take k)∧sumL (nyF l) (l.take k)≤9444732965739290427392:=by
 obtain ⟨⟨a0,a1⟩,⟨b0,b1⟩,⟨c0,c1⟩,_,_⟩:=nrm_bd h
 have o:=h.take k
 have f1:∀ m ∈ l.take k,0≤nxF l m∧nxF l m≤590295810358705651712:=fun m hm=>by
  have q:=o.ok m hm
  obtain ⟨_,_,_,_,t4,t5⟩:=noi_term q c0 c1 b0 b1 q.a0 q.a1 q.b0 q.b1
  exact ⟨t4,t5⟩
 have f2:∀ m ∈ l.take k,0≤nyF l m∧nyF l m≤590295810358705651712:=fun m hm=>by
  have q:=o.ok m hm
  obtain ⟨_,_,_,_,t4,t5⟩:=noi_term q a0 a1 b0 b1 q.b0 q.b1 q.a0 q.a1
  exact ⟨t4,t5⟩
 have s1:=o.sum (nxF l) 590295810358705651712 (by omega) fun m hm=>by have:=f1 m hm; omega
 have s2:=o.sum (nyF l) 590295810358705651712 (by omega) fun m hm=>by have:=f2 m hm; omega
 have n1:=sum_nonneg (nxF l) (l.take k) fun m hm=>(f1 m hm).1
 have n2:=sum_nonneg (nyF l) (l.take k) fun m hm=>(f2 m hm).1
 omega
theorem noi_bd {l:List Ms} (h:OkL l):(0≤noiX l∧noiX l≤9444732965739290427392)∧0≤noiY l∧noiY l≤9444732965739290427392:=by
 have:=noi_part h l.length
 rw [List.take_length] at this
 exact this
theorem sv_step {l:List Ms} (h:OkL l) {k:Nat} (q:k < l.length) :
 SvHalf (nYY l) (nXY l) (nth l k).a (nth l k).b (nth l k) (sumL (nxF l) (l.take k)) (sumL (nxF l) (l.take (k + 1)))∧SvHalf (nXX l) (nXY l) (nth l k).b (nth l k).a (nth l k) (sumL (nyF l) (l.take k)) (sumL (nyF l) (l.take (k + 1))):=by
 obtain ⟨⟨a0,a1⟩,⟨b0,b1⟩,⟨c0,c1⟩,_,_⟩:=nrm_bd h
 have o:=h.ok _ (nth_mem q)
 have N:=noi_part h k
 exact ⟨sv_half o c0 c1 b0 b1 o.a0 o.a1 o.b0 o.b1 N.1.1 N.1.2 (sum_take _ q),sv_half o a0 a1 b0 b1 o.b0 o.b1 o.a0 o.a1 N.2.1 N.2.2 (sum_take _ q)⟩
def SvR (l:List Ms) (p:Option Addr) (cap:Nat) (w:World) (bn bs:Nat) (u:Value) (wr:World):Prop:=∃ k:Nat,u = .int .i64 k∧k≤l.length∧Hid (Below w.heap.size w wr)∧Hid (Blk [.int .i64 (nXX l),.int .i64 (nXY l),.int .i64 (nYY l),.int .i64 (nXZ l),.int .i64 (nYZ l)] bn wr)∧Hid (Blk [.int .i64 (hiW (solX l)),.int .u64 (loW (solX l)),.int .i64 (hiW (solY l)),.int .u64 (loW (solY l)),.int .i64 (hiW (sumL (nxF l) (l.take k))),.int .u64 (loW (sumL (nxF l) (l.take k))),.int .i64 (hiW (sumL (nyF l) (l.take k))),.int .u64 (loW (sumL (nyF l) (l.take k))),.int .i64 ((detN l))] bs wr)∧Hid (Blk [.int .i64 0,.int .u64 0,.int .i64 0,.int .u64 0,.int .i64 0,.int .u64 0,.int .i64 0,.int .u64 0,.int .i64 0] w.heap.size wr)
set_option maxHeartbeats 40000000
set_option maxRecDepth 100000
theorem solve_any (l:List Ms) (v:Value) (w:World) (h:LstAt l v w) (hc:chkL l = 0) :
 Calls Tryz.prog 97 #[v] w fun e w'=>e = .returned (.agg #[.int .i64 (hiW (solX l)),.int .u64 (loW (solX l)),.int .i64 (hiW (solY l)),.int .u64 (loW (solY l)),.int .i64 (hiW (noiX l)),.int .u64 (loW (noiX l)),.int .i64 (hiW (noiY l)),.int .u64 (loW (noiY l)),.int .i64 ((detN l))])∧Below w.heap.size w w':=by
 obtain ⟨p,cap,rfl⟩:=lst_form h
 have OL:=Lib.hid (okL_of hc)
 obtain ⟨⟨a0,a1⟩,⟨b0,b1⟩,⟨c0,c1⟩,⟨d0,d1⟩,⟨e0,e1⟩⟩:=nrm_bd OL.out
 obtain ⟨⟨dt0,dt1⟩,⟨sx0,sx1⟩,⟨sy0,sy1⟩⟩:=sol_bd (nrm_bd OL.out)
 have NO:=Lib.hid fun w h=>normal_any l (.slice p l.length cap) w h hc
 have P1:=mulb (X:=16777216) (Y:=16777216) (by omega) a0 a1 c0 c1
 have P2:=mulb (X:=16777216) (Y:=16777216) (by omega) b0 b1 b0 b1
 have LX:=Lib.hid fun w=>integrity_less (nYY l) (nXZ l) (nXY l) (nYZ l) w ⟨by omega,by omega⟩ ⟨by omega,by omega⟩ ⟨by omega,by omega⟩ ⟨by omega,by omega⟩ (show FitW (solX l) from ⟨by omega,by omega⟩)
 have LY:=Lib.hid fun w=>integrity_less (nXX l) (nYZ l) (nXY l) (nXZ l) w ⟨by omega,by omega⟩ ⟨by omega,by omega⟩ ⟨by omega,by omega⟩ ⟨by omega,by omega⟩ (show FitW (solY l) from ⟨by omega,by omega⟩)
 have q1:IntKind.i64.wrap (nXX l * nYY l) = nXX l * nYY l:=IntWalk.i64_in _ (by omega)
 have q2:IntKind.i64.wrap (nXY l * nXY l) = nXY l * nXY l:=IntWalk.i64_in _ (by omega)
 have q3:IntKind.i64.wrap (nXX l * nYY l - nXY l * nXY l) = detN l:=IntWalk.i64_in _ (by unfold detN at dt0 dt1; omega)
 have HX:Hid (solX l = nYY l * nXZ l - nXY l * nYZ l):=Lib.hid rfl
 have HY:Hid (solY l = nXX l * nYZ l - nXY l * nXZ l):=Lib.hid rfl
 rw [← HX.out] at LX
 rw [← HY.out] at LY
 clear hc a0 a1 b0 b1 c0 c1 d0 d1 e0 e1 dt0 dt1 sx0 sx1 sy0 sy1 P1 P2 HX HY
 obtain ⟨A,EA⟩:∃ x,nXX l = x:=⟨_,rfl⟩
 obtain ⟨B,EB⟩:∃ x,nXY l = x:=⟨_,rfl⟩
 obtain ⟨C,EC⟩:∃ x,nYY l = x:=⟨_,rfl⟩
 obtain ⟨D,ED⟩:∃ x,nXZ l = x:=⟨_,rfl⟩
 obtain ⟨E,EE⟩:∃ x,nYZ l = x:=⟨_,rfl⟩
 obtain ⟨X,EX⟩:∃ x,solX l = x:=⟨_,rfl⟩
 obtain ⟨Y,EY⟩:∃ x,solY l = x:=⟨_,rfl⟩
 obtain ⟨T,ET⟩:∃ x,detN l = x:=⟨_,rfl⟩
 rw [EA,EB,EC,ED,EE] at NO
 rw [EC,ED,EB,EE,EX] at LX
 rw [EA,EE,EB,ED,EY] at LY
 rw [EA,EC] at q1
 rw [EB] at q2
 rw [EA,EB,EC,ET] at q3
 have HA:=Lib.hid EA
 have HBB:=Lib.hid EB
 have HC:=Lib.hid EC
 have HD:=Lib.hid ED
 have HE:=Lib.hid EE
 have HX:=Lib.hid EX
 have HY:=Lib.hid EY
 have HT:=Lib.hid ET
 clear EA EB EC ED EE EX EY ET
 unfold wv at LX LY
 have H0:=Lib.hid h
 obtain ⟨KZ,HB⟩:=ent1 w #[.int .i64 0,.int .u64 0,.int .i64 0,.int .u64 0,.int .i64 0,.int .u64 0,.int .i64 0,.int .u64 0,.int .i64 0] 119
 go_enter Tryz.func97,Tryz.ntmps97
 clear h
 go_wp2_with fail
 generalize w.alloc _ = w0 at *
 refine (NO.out _ (H0.out.below HB.out)).mono ?_
 rintro e1 w1 ⟨rfl,hb1⟩
 replace HB:=hT HB hb1
 replace KZ:=hK KZ hb1
 clear hb1
 go_wp2_with fail
 obtain ⟨KN,hb2⟩:=alB w1 #[.int .i64 A,.int .i64 B,.int .i64 C,.int .i64 D,.int .i64 E] 160
 have hnN:=HB.out.size
 have nzN_Z:=KZ.out.lt
 replace HB:=hT HB hb2
 replace KZ:=hK KZ hb2
 clear hb2
 generalize w1.alloc _ = w2 at *
 generalize w1.heap.size = bN at *
 have neN_Z:bN≠w.heap.size:=by omega
 clear nzN_Z
 have BD:=Lib.hid (show Below w2.heap.size w2 w2.drew from ⟨rfl,rfl,rfl,Nat.le_refl _,fun _ _=>rfl⟩)
 have BD2:=Lib.hid (below_drew_alloc w2 (.cells #[.int .i64 0,.int .u64 0,.int .i64 0,.int .u64 0,.int .i64 0,.int .u64 0,.int .i64 0,.int .u64 0,.int .i64 0] 119))
 have DLX:=Lib.hid fun W (h:Below w2.heap.size w2 W)=>(LX.out W).mono fun e w' ⟨h1,h2⟩=>show _∧Below w2.heap.size w2 w'∧Below W.heap.size W w' from ⟨h1,h.trans (h2.mono h.size),h2⟩
 have DLY:=Lib.hid fun W (h:Below w2.heap.size w2 W)=>(LY.out W).mono fun e w' ⟨h1,h2⟩=>show _∧Below w2.heap.size w2 w'∧Below W.heap.size W w' from ⟨h1,h.trans (h2.mono h.size),h2⟩
 obtain ⟨yN0,yN1,yN2,yN3,yN4,yNz⟩:=blk5 KN
 apply wp_join (R:=fun b w'=>w.heap.size≤b∧b≠w.heap.size∧b≠bN∧Hid (Below w.heap.size w w')∧Hid (Blk [.int .i64 (hiW X),.int .u64 (loW X),.int .i64 (hiW Y),.int .u64 (loW Y),.int .i64 0,.int .u64 0,.int .i64 0,.int .u64 0,.int .i64 T] b w')∧Hid (Blk [.int .i64 0,.int .u64 0,.int .i64 0,.int .u64 0,.int .i64 0,.int .u64 0,.int .i64 0,.int .u64 0,.int .i64 0] w.heap.size w')∧Hid (Blk [.int .i64 A,.int .i64 B,.int .i64 C,.int .i64 D,.int .i64 E] bN w'))
 ·go_region_held3 (fun w'=>w'.cell? ⟨bN,0,none⟩ = some (.int .i64 A)∧w'.cell? ⟨bN,1,none⟩ = some (.int .i64 B)∧w'.cell? ⟨bN,2,none⟩ = some (.int .i64 C)∧w'.cell? ⟨bN,3,none⟩ = some (.int .i64 D)∧w'.cell? ⟨bN,4,none⟩ = some (.int .i64 E)) (first | (refine ⟨?_,?_,?_,?_,?_⟩ <;> first | with_reducible assumption | (rw [far9 KV.out.1 yNz]; with_reducible assumption)) | go_keep)
   (first
    | (go_at_call 143; with_reducible refine Calls.mono (DLX.out _ (by first | with_reducible exact BD.out | with_reducible exact BD2.out | with_reducible exact HX.out | with_reducible exact HX.out.alloc HX.out.size _)) ?_; rintro e9 w9 ⟨rfl,hb9,hc9⟩; have pN:=KN.out.below hb9; have qN0:=pN.c 0 _ rfl; have qN1:=pN.c 1 _ rfl; have qN2:=pN.c 2 _ rfl; have qN3:=pN.c 3 _ rfl; have qN4:=pN.c 4 _ rfl; clear pN; (first | (with_reducible have KV:=Lib.hid (kv_drew (vs:=#[.int .i64 0,.int .u64 0,.int .i64 0,.int .u64 0,.int .i64 0,.int .u64 0,.int .i64 0,.int .u64 0,.int .i64 0]) (t:=119) hc9); have pV:=KV.out.2; have v0:=pV.c 0 _ rfl; have vf0:=pV.f 0 _ rfl; have v1:=pV.c 1 _ rfl; have vf1:=pV.f 1 _ rfl; have v2:=pV.c 2 _ rfl; have vf2:=pV.f 2 _ rfl; have v3:=pV.c 3 _ rfl; have vf3:=pV.f 3 _ rfl; have v4:=pV.c 4 _ rfl; have vf4:=pV.f 4 _ rfl; have v5:=pV.c 5 _ rfl; have vf5:=pV.f 5 _ rfl; have v6:=pV.c 6 _ rfl; have vf6:=pV.f 6 _ rfl; have v7:=pV.c 7 _ rfl; have vf7:=pV.f 7 _ rfl; have v8:=pV.c 8 _ rfl; have vf8:=pV.f 8 _ rfl; have v9:=pV.lt; clear pV) | (with_reducible have KV:=Lib.hid (kv_new (vs:=#[.int .i64 0,.int .u64 0,.int .i64 0,.int .u64 0,.int .i64 0,.int .u64 0,.int .i64 0,.int .u64 0,.int .i64 0]) (t:=119) HX.out hc9); have pV:=KV.out.2; have v0:=pV.c 0 _ rfl; have vf0:=pV.f 0 _ rfl; have v1:=pV.c 1 _ rfl; have vf1:=pV.f 1 _ rfl; have v2:=pV.c 2 _ rfl; have vf2:=pV.f 2 _ rfl; have v3:=pV.c 3 _ rfl; have vf3:=pV.f 3 _ rfl; have v4:=pV.c 4 _ rfl; have vf4:=pV.f 4 _ rfl; have v5:=pV.c 5 _ rfl; have vf5:=pV.f 5 _ rfl; have v6:=pV.c 6 _ rfl; have vf6:=pV.f 6 _ rfl; have v7:=pV.c 7 _ rfl; have vf7:=pV.f 7 _ rfl; have v8:=pV.c 8 _ rfl; have vf8:=pV.f 8 _ rfl; have v9:=pV.lt; clear pV) | (with_reducible have KV:=Lib.hid (kv_old KV.out hc9); have pV:=KV.out.2; have v0:=pV.c 0 _ rfl; have vf0:=pV.f 0 _ rfl; have v1:=pV.c 1 _ rfl; have vf1:=pV.f 1 _ rfl; have v2:=pV.c 2 _ rfl; have vf2:=pV.f 2 _ rfl; have v3:=pV.c 3 _ rfl; have vf3:=pV.f 3 _ rfl; have v4:=pV.c 4 _ rfl; have vf4:=pV.f 4 _ rfl; have v5:=pV.c 5 _ rfl; have vf5:=pV.f 5 _ rfl; have v6:=pV.c 6 _ rfl; have vf6:=pV.f 6 _ rfl; have v7:=pV.c 7 _ rfl; have vf7:=pV.f 7 _ rfl; have v8:=pV.c 8 _ rfl; have vf8:=pV.f 8 _ rfl; have v9:=pV.lt; clear pV) | skip); have HX:=Lib.hid hb9; clear hb9 hc9)
    | (go_at_call 143; with_reducible refine Calls.mono (DLY.out _ (by first | with_reducible exact BD.out | with_reducible exact BD2.out | with_reducible exact HX.out | with_reducible exact HX.out.alloc HX.out.size _)) ?_; rintro e9 w9 ⟨rfl,hb9,hc9⟩; have pN:=KN.out.below hb9; have qN0:=pN.c 0 _ rfl; have qN1:=pN.c 1 _ rfl; have qN2:=pN.c 2 _ rfl; have qN3:=pN.c 3 _ rfl; have qN4:=pN.c 4 _ rfl; clear pN; (first | (with_reducible have KV:=Lib.hid (kv_drew (vs:=#[.int .i64 0,.int .u64 0,.int .i64 0,.int .u64 0,.int .i64 0,.int .u64 0,.int .i64 0,.int .u64 0,.int .i64 0]) (t:=119) hc9); have pV:=KV.out.2; have v0:=pV.c 0 _ rfl; have vf0:=pV.f 0 _ rfl; have v1:=pV.c 1 _ rfl; have vf1:=pV.f 1 _ rfl; have v2:=pV.c 2 _ rfl; have vf2:=pV.f 2 _ rfl; have v3:=pV.c 3 _ rfl; have vf3:=pV.f 3 _ rfl; have v4:=pV.c 4 _ rfl; have vf4:=pV.f 4 _ rfl; have v5:=pV.c 5 _ rfl; have vf5:=pV.f 5 _ rfl; have v6:=pV.c 6 _ rfl; have vf6:=pV.f 6 _ rfl; have v7:=pV.c 7 _ rfl; have vf7:=pV.f 7 _ rfl; have v8:=pV.c 8 _ rfl; have vf8:=pV.f 8 _ rfl; have v9:=pV.lt; clear pV) | (with_reducible have KV:=Lib.hid (kv_new (vs:=#[.int .i64 0,.int .u64 0,.int .i64 0,.int .u64 0,.int .i64 0,.int .u64 0,.int .i64 0,.int .u64 0,.int .i64 0]) (t:=119) HX.out hc9); have pV:=KV.out.2; have v0:=pV.c 0 _ rfl; have vf0:=pV.f 0 _ rfl; have v1:=pV.c 1 _ rfl; have vf1:=pV.f 1 _ rfl; have v2:=pV.c 2 _ rfl; have vf2:=pV.f 2 _ rfl; have v3:=pV.c 3 _ rfl; have vf3:=pV.f 3 _ rfl; have v4:=pV.c 4 _ rfl; have vf4:=pV.f 4 _ rfl; have v5:=pV.c 5 _ rfl; have vf5:=pV.f 5 _ rfl; have v6:=pV.c 6 _ rfl; have vf6:=pV.f 6 _ rfl; have v7:=pV.c 7 _ rfl; have vf7:=pV.f 7 _ rfl; have v8:=pV.c 8 _ rfl; have vf8:=pV.f 8 _ rfl; have v9:=pV.lt; clear pV) | (with_reducible have KV:=Lib.hid (kv_old KV.out hc9); have pV:=KV.out.2; have v0:=pV.c 0 _ rfl; have vf0:=pV.f 0 _ rfl; have v1:=pV.c 1 _ rfl; have vf1:=pV.f 1 _ rfl; have v2:=pV.c 2 _ rfl; have vf2:=pV.f 2 _ rfl; have v3:=pV.c 3 _ rfl; have vf3:=pV.f 3 _ rfl; have v4:=pV.c 4 _ rfl; have vf4:=pV.f 4 _ rfl; have v5:=pV.c 5 _ rfl; have vf5:=pV.f 5 _ rfl; have v6:=pV.c 6 _ rfl; have vf6:=pV.f 6 _ rfl; have v7:=pV.c 7 _ rfl; have vf7:=pV.f 7 _ rfl; have v8:=pV.c 8 _ rfl; have vf8:=pV.f 8 _ rfl; have v9:=pV.lt; clear pV) | skip); have HX:=Lib.hid hb9; clear hb9 hc9))
  all_goals
   first
    | (have FN:=kv_set9 (.int .i64 (hiW X)) (.int .u64 (loW X)) (.int .i64 (hiW Y)) (.int .u64 (loW Y)) (.int .i64 0) (.int .u64 0) (.int .i64 0) (.int .u64 0) (.int .i64 T) KV.out HX.out; have FB:=Lib.hid FN.1; have KS:=Lib.hid FN.2.1; have n0S:=FN.2.2; clear FN; generalize World.setCell (World.setCell (World.setCell (World.setCell (World.setCell (World.setCell (World.setCell (World.setCell (World.setCell _ _ (.int .i64 (hiW X))) _ (.int .u64 (loW X))) _ (.int .i64 (hiW Y))) _ (.int .u64 (loW Y))) _ (.int .i64 0)) _ (.int .u64 0)) _ (.int .i64 0)) _ (.int .u64 0)) _ (.int .i64 T) = w3 at *)
    | (have FN:=kv_putn (vs:=#[.int .i64 (hiW X),.int .u64 (loW X),.int .i64 (hiW Y),.int .u64 (loW Y),.int .i64 0,.int .u64 0,.int .i64 0,.int .u64 0,.int .i64 T]) (t:=119) HX.out; have FB:=Lib.hid FN.1; have KS:=Lib.hid FN.2.1; have n0S:=FN.2.2; clear FN; generalize (World.alloc _ (.cells #[.int .i64 (hiW X),.int .u64 (loW X),.int .i64 (hiW Y),.int .u64 (loW Y),.int .i64 0,.int .u64 0,.int .i64 0,.int .u64 0,.int .i64 T] 119)) = w3 at *)
   have nS:=Nat.le_trans HB.out.size n0S
   have neS_Z:=Nat.ne_of_gt (Nat.lt_of_lt_of_le KZ.out.lt n0S)
   have neS_N:=Nat.ne_of_gt (Nat.lt_of_lt_of_le KN.out.lt n0S)
   replace HB:=Lib.hid (HB.out.trans (FB.out.mono HB.out.size))
   replace KZ:=Lib.hid (KZ.out.below FB.out)
   replace KN:=Lib.hid (KN.out.below FB.out)
   obtain ⟨bS,hbS⟩:=ex_blk KS
   rw [← hbS] at KS nS neS_Z neS_N ⊢
   refine OnlyN.mk ⟨bS,rfl,?_⟩
   with_reducible exact ⟨nS,neS_Z,neS_N,HB,KS,KZ,KN⟩
 clear BD BD2 DLX DLY yN0 yN1 yN2 yN3 yN4 yNz
 rintro bS w3 ⟨nS,neS_Z,neS_N,HB2,KS,KZ2,KN2⟩
 replace HB:=HB2
 clear HB2
 replace KZ:=KZ2
 clear KZ2
 replace KN:=KN2
 clear KN2
 go_wp2
 go_loopw [47] (SvR l p cap w bN bS) (fun i _=>l.length - (intOf i).toNat)
 case atStart=>exact ⟨0,rfl,Nat.zero_le _,HB,by rw [HA.out,HBB.out,HC.out,HD.out,HE.out]; exact KN,by rw [List.take_zero,HX.out,HY.out,HT.out]; exact KS,KZ⟩
 case round =>
  clear HB KN KS KZ
  obtain ⟨k,rfl,hk,HB,KN,KS,KZ⟩:=hrel
  rw [HA.out,HBB.out,HC.out,HD.out,HE.out] at KN
  rw [HX.out,HY.out,HT.out] at KS
  by_cases q:k < l.length
  ·have q':decide (k < l.length) = true:=by simpa using q
   obtain ⟨b,o,rfl,hcap,hmax,MM⟩:=lst_at (H0.out.below HB.out) q
   have c0:=MM.c0 k q
   have c1:=MM.c1 k q
   have c2:=MM.c2 k q
   have c3:=MM.c3 k q
   have c4:=MM.c4 k q
   have c5:=MM.c5 k q
   have clt:=MM.lt
   obtain ⟨S1,S2⟩:=sv_step OL.out q
   clear MM
   rw [HC.out,HBB.out] at S1
   rw [HA.out,HBB.out] at S2
   generalize nth l k = m at *
   generalize sumL (nxF l) (l.take k) = U at *
   generalize sumL (nyF l) (l.take k) = V at *
   obtain ⟨U1,EU⟩:∃ x,sumL (nxF l) (l.take (k + 1)) = x:=⟨_,rfl⟩
   obtain ⟨V1,EV⟩:∃ x,sumL (nyF l) (l.take (k + 1)) = x:=⟨_,rfl⟩
   rw [EU] at S1
   rw [EV] at S2
   have HU:=Lib.hid EU
   have HV:=Lib.hid EV
   obtain ⟨s1,s2,s3,s4,ab1,mu1,pl1⟩:=S1
   obtain ⟨t1,t2,t3,t4,ab2,mu2,pl2⟩:=S2
   clear EU EV
   unfold wv at mu1 pl1 mu2 pl2
   have AB1:=Lib.hid ab1
   have MU1:=Lib.hid mu1
   have PL1:=Lib.hid pl1
   have AB2:=Lib.hid ab2
   have MU2:=Lib.hid mu2
   have PL2:=Lib.hid pl2
   clear ab1 mu1 pl1 ab2 mu2 pl2
   generalize m.w * absZ (C * m.a - B * m.b) * m.d = p1 at *
   generalize m.w * absZ (A * m.b - B * m.a) * m.d = p2 at *
   go_wp2_with fail
   obtain ⟨KC,hb51⟩:=alB wr #[.int .i64 m.s,.int .i64 m.a,.int .i64 m.b,.int .i64 m.z,.int .i64 m.d,.int .i64 m.w] 71
   have hnC:=HB.out.size
   have nzC_Z:=KZ.out.lt
   have nzC_N:=KN.out.lt
   have nzC_S:=KS.out.lt
   refine up3 hb51 HB KZ KN KS ?_
   clear hb51 HB KZ KN KS
   intro HB KZ KN KS
   generalize wr.alloc _ = w51 at *
   generalize wr.heap.size = bC at *
   have neC_Z:bC≠w.heap.size:=by omega
   have neC_N:bC≠bN:=by omega
   have neC_S:bC≠bS:=by omega
   clear nzC_Z nzC_N nzC_S
   clear c0 c1 c2 c3 c4 c5 clt
   have gC_5:=fun d os=>cell_regrown (KC.out.c 5 _ rfl) d os
   have gC_1:=fun d os=>cell_regrown (KC.out.c 1 _ rfl) d os
   have gC_2:=fun d os=>cell_regrown (KC.out.c 2 _ rfl) d os
   have gN_2:=fun d os=>cell_regrown (KN.out.c 2 _ rfl) d os
   have gN_1:=fun d os=>cell_regrown (KN.out.c 1 _ rfl) d os
   have rv0:=Lib.hid (fun d os=>Calls.regrown_of (AB1.out (Go.Sort.grow (redrawn w51 d) os)))
   refine wp_region_quiet_below (by kernel_rfl) (by kernel_rfl) ?_
   repeat (quiet_step (first | with_reducible exact rv0.out _ _))
   refine wpQuiet_nil ?_
   intro w52 hw52
   have hb52:Below w51.heap.size w51 w52:=by
    obtain ⟨⟨dq,osq⟩,hw2⟩:=hw52
    rw [hw2]; exact below_regrown _ dq osq
   clear gC_5 gC_1 gC_2 gN_2 gN_1 rv0 hw52
   refine up4 hb52 HB KZ KN KS KC ?_
   clear hb52 HB KZ KN KS KC
   intro HB KZ KN KS KC
   clear s1 s2 s3 AB1
   generalize absZ (C * m.a - B * m.b) = x1 at *
   go_wp2_with fail
   have gC_5:=fun d os=>cell_regrown (KC.out.c 5 _ rfl) d os
   have gC_1:=fun d os=>cell_regrown (KC.out.c 1 _ rfl) d os
   have gC_2:=fun d os=>cell_regrown (KC.out.c 2 _ rfl) d os
   have gN_0:=fun d os=>cell_regrown (KN.out.c 0 _ rfl) d os
   have gN_1:=fun d os=>cell_regrown (KN.out.c 1 _ rfl) d os
   have rv0:=Lib.hid (fun d os=>Calls.regrown_of (AB2.out (Go.Sort.grow (redrawn w52 d) os)))
   refine wp_region_quiet_below (by kernel_rfl) (by kernel_rfl) ?_
   repeat (quiet_step (first | with_reducible exact rv0.out _ _))
   refine wpQuiet_nil ?_
   intro w53 hw53
   have hb53:Below w52.heap.size w52 w53:=by
    obtain ⟨⟨dq,osq⟩,hw2⟩:=hw53
    rw [hw2]; exact below_regrown _ dq osq
   clear gC_5 gC_1 gC_2 gN_0 gN_1 rv0 hw53
   refine up4 hb53 HB KZ KN KS KC ?_
   clear hb53 HB KZ KN KS KC
   intro HB KZ KN KS KC
   clear t1 t2 t3 AB2
   generalize absZ (A * m.b - B * m.a) = x2 at *
   generalize m.w * x1 = g1 at *
   generalize m.w * x2 = g2 at *
   go_wp2_with fail
   apply wp_join0 (R:=fun w'=>Hid (Below w.heap.size w w')∧Hid (Blk [.int .i64 0,.int .u64 0,.int .i64 0,.int .u64 0,.int .i64 0,.int .u64 0,.int .i64 0,.int .u64 0,.int .i64 0] w.heap.size w')∧Hid (Blk [.int .i64 A,.int .i64 B,.int .i64 C,.int .i64 D,.int .i64 E] bN w')∧Hid (Blk [.int .i64 (hiW X),.int .u64 (loW X),.int .i64 (hiW Y),.int .u64 (loW Y),.int .i64 (hiW U1),.int .u64 (loW U1),.int .i64 (hiW V),.int .u64 (loW V),.int .i64 T] bS w')∧Hid (Blk [.int .i64 m.s,.int .i64 m.a,.int .i64 m.b,.int .i64 m.z,.int .i64 m.d,.int .i64 m.w] bC w'))
   ·have HB0:=Lib.hid (below_drew1 HB.out)
    have KZ0:=Lib.hid (blk_drew1 KZ.out)
    have KN0:=Lib.hid (blk_drew1 KN.out)
    have KS0:=Lib.hid (blk_drew1 KS.out)
    have KC0:=Lib.hid (blk_drew1 KC.out)
    have p0S:=KS0.out
    have q0S_4:=p0S.c 4 _ rfl
    have q0S_5:=p0S.c 5 _ rfl
    have r0S_4:=p0S.f 4 _ rfl
    have r0S_5:=p0S.f 5 _ rfl
    have z0S:=p0S.lt
    clear p0S
    have p0C:=KC0.out
    have q0C_4:=p0C.c 4 _ rfl
    have z0C:=p0C.lt
    clear p0C
    go_region_with (first
     | ((try go_simp); go_at_call 145; (refine (MU1.out _).mono ?_); rintro e1 v1 ⟨rfl,hb1⟩; have HB1:=Lib.hid (HB0.out.trans (hb1.mono HB0.out.size)); have KZ1:=Lib.hid (KZ0.out.below hb1); have KN1:=Lib.hid (KN0.out.below hb1); have KS1:=Lib.hid (KS0.out.below hb1); have KC1:=Lib.hid (KC0.out.below hb1); have p1S:=KS1.out; have q1S_4:=p1S.c 4 _ rfl; have q1S_5:=p1S.c 5 _ rfl; have r1S_4:=p1S.f 4 _ rfl; have r1S_5:=p1S.f 5 _ rfl; have z1S:=p1S.lt; clear p1S; have p1C:=KC1.out; have q1C_4:=p1C.c 4 _ rfl; have z1C:=p1C.lt; clear p1C; clear hb1)
     | ((try go_simp); go_at_call 144; (refine (PL1.out _).mono ?_); rintro e2 v2 ⟨rfl,hb2⟩; have HB2:=Lib.hid (HB1.out.trans (hb2.mono HB1.out.size)); have KZ2:=Lib.hid (KZ1.out.below hb2); have KN2:=Lib.hid (KN1.out.below hb2); have KS2:=Lib.hid (KS1.out.below hb2); have KC2:=Lib.hid (KC1.out.below hb2); have p2S:=KS2.out; have q2S_4:=p2S.c 4 _ rfl; have q2S_5:=p2S.c 5 _ rfl; have r2S_4:=p2S.f 4 _ rfl; have r2S_5:=p2S.f 5 _ rfl; have z2S:=p2S.lt; clear p2S; have p2C:=KC2.out; have q2C_4:=p2C.c 4 _ rfl; have z2C:=p2C.lt; clear p2C; clear hb2))
    all_goals
     refine OnlyN.mk ⟨rfl,?_⟩
     exact ⟨Lib.hid ((HB2.out.setCell (p:=⟨bS,4,none⟩) (show w.heap.size≤bS by omega) (.int .i64 (hiW U1))).setCell (p:=⟨bS,5,none⟩) (show w.heap.size≤bS by omega) (.int .u64 (loW U1))),Lib.hid (blk_other (b:=w.heap.size) (n:=bS) (j:=5) (blk_other (b:=w.heap.size) (n:=bS) (j:=4) KZ2.out (by omega) (.int .i64 (hiW U1))) (by omega) (.int .u64 (loW U1))),Lib.hid (blk_other (b:=bN) (n:=bS) (j:=5) (blk_other (b:=bN) (n:=bS) (j:=4) KN2.out (by omega) (.int .i64 (hiW U1))) (by omega) (.int .u64 (loW U1))),Lib.hid (blk_set (blk_set KS2.out (j:=4) (by simp) (.int .i64 (hiW U1))) (j:=5) (by simp) (.int .u64 (loW U1))),Lib.hid (blk_other (b:=bC) (n:=bS) (j:=5) (blk_other (b:=bC) (n:=bS) (j:=4) KC2.out (by omega) (.int .i64 (hiW U1))) (by omega) (.int .u64 (loW U1)))⟩
   rintro w54 ⟨HB2,KZ2,KN2,KS2,KC2⟩
   replace HB:=HB2
   clear HB2
   replace KZ:=KZ2
   clear KZ2
   replace KN:=KN2
   clear KN2
   replace KS:=KS2
   clear KS2
   replace KC:=KC2
   clear KC2
   go_wp2_with fail
   apply wp_join0 (R:=fun w'=>Hid (Below w.heap.size w w')∧Hid (Blk [.int .i64 0,.int .u64 0,.int .i64 0,.int .u64 0,.int .i64 0,.int .u64 0,.int .i64 0,.int .u64 0,.int .i64 0] w.heap.size w')∧Hid (Blk [.int .i64 A,.int .i64 B,.int .i64 C,.int .i64 D,.int .i64 E] bN w')∧Hid (Blk [.int .i64 (hiW X),.int .u64 (loW X),.int .i64 (hiW Y),.int .u64 (loW Y),.int .i64 (hiW U1),.int .u64 (loW U1),.int .i64 (hiW V1),.int .u64 (loW V1),.int .i64 T] bS w')∧Hid (Blk [.int .i64 m.s,.int .i64 m.a,.int .i64 m.b,.int .i64 m.z,.int .i64 m.d,.int .i64 m.w] bC w'))
   ·have HB0:=Lib.hid (below_drew1 HB.out)
    have KZ0:=Lib.hid (blk_drew1 KZ.out)
    have KN0:=Lib.hid (blk_drew1 KN.out)
    have KS0:=Lib.hid (blk_drew1 KS.out)
    have KC0:=Lib.hid (blk_drew1 KC.out)
    have p0S:=KS0.out
    have q0S_6:=p0S.c 6 _ rfl
    have q0S_7:=p0S.c 7 _ rfl
    have r0S_6:=p0S.f 6 _ rfl
    have r0S_7:=p0S.f 7 _ rfl
    have z0S:=p0S.lt
    clear p0S
    have p0C:=KC0.out
    have q0C_4:=p0C.c 4 _ rfl
    have z0C:=p0C.lt
    clear p0C
    go_region_with (first
     | ((try go_simp); go_at_call 145; (refine (MU2.out _).mono ?_); rintro e1 v1 ⟨rfl,hb1⟩; have HB1:=Lib.hid (HB0.out.trans (hb1.mono HB0.out.size)); have KZ1:=Lib.hid (KZ0.out.below hb1); have KN1:=Lib.hid (KN0.out.below hb1); have KS1:=Lib.hid (KS0.out.below hb1); have KC1:=Lib.hid (KC0.out.below hb1); have p1S:=KS1.out; have q1S_6:=p1S.c 6 _ rfl; have q1S_7:=p1S.c 7 _ rfl; have r1S_6:=p1S.f 6 _ rfl; have r1S_7:=p1S.f 7 _ rfl; have z1S:=p1S.lt; clear p1S; have p1C:=KC1.out; have q1C_4:=p1C.c 4 _ rfl; have z1C:=p1C.lt; clear p1C; clear hb1)
     | ((try go_simp); go_at_call 144; (refine (PL2.out _).mono ?_); rintro e2 v2 ⟨rfl,hb2⟩; have HB2:=Lib.hid (HB1.out.trans (hb2.mono HB1.out.size)); have KZ2:=Lib.hid (KZ1.out.below hb2); have KN2:=Lib.hid (KN1.out.below hb2); have KS2:=Lib.hid (KS1.out.below hb2); have KC2:=Lib.hid (KC1.out.below hb2); have p2S:=KS2.out; have q2S_6:=p2S.c 6 _ rfl; have q2S_7:=p2S.c 7 _ rfl; have r2S_6:=p2S.f 6 _ rfl; have r2S_7:=p2S.f 7 _ rfl; have z2S:=p2S.lt; clear p2S; have p2C:=KC2.out; have q2C_4:=p2C.c 4 _ rfl; have z2C:=p2C.lt; clear p2C; clear hb2))
    all_goals
     refine OnlyN.mk ⟨rfl,?_⟩
     exact ⟨Lib.hid ((HB2.out.setCell (p:=⟨bS,6,none⟩) (show w.heap.size≤bS by omega) (.int .i64 (hiW V1))).setCell (p:=⟨bS,7,none⟩) (show w.heap.size≤bS by omega) (.int .u64 (loW V1))),Lib.hid (blk_other (b:=w.heap.size) (n:=bS) (j:=7) (blk_other (b:=w.heap.size) (n:=bS) (j:=6) KZ2.out (by omega) (.int .i64 (hiW V1))) (by omega) (.int .u64 (loW V1))),Lib.hid (blk_other (b:=bN) (n:=bS) (j:=7) (blk_other (b:=bN) (n:=bS) (j:=6) KN2.out (by omega) (.int .i64 (hiW V1))) (by omega) (.int .u64 (loW V1))),Lib.hid (blk_set (blk_set KS2.out (j:=6) (by simp) (.int .i64 (hiW V1))) (j:=7) (by simp) (.int .u64 (loW V1))),Lib.hid (blk_other (b:=bC) (n:=bS) (j:=7) (blk_other (b:=bC) (n:=bS) (j:=6) KC2.out (by omega) (.int .i64 (hiW V1))) (by omega) (.int .u64 (loW V1)))⟩
   rintro w55 ⟨HB2,KZ2,KN2,KS2,KC2⟩
   replace HB:=HB2
   clear HB2
   replace KZ:=KZ2
   clear KZ2
   replace KN:=KN2
   clear KN2
   replace KS:=KS2
   clear KS2
   replace KC:=KC2
   clear KC2
   go_wp2
   exact ⟨⟨k + 1,by go_num,by omega,HB,by rw [HA.out,HBB.out,HC.out,HD.out,HE.out]; exact KN,by rw [HX.out,HY.out,HT.out,HU.out,HV.out]; exact KS,KZ⟩,by simp [intOf]; omega⟩
  ·obtain rfl:k = l.length:=by omega
   rw [List.take_length,← noiX_is,← noiY_is] at KS
   obtain ⟨U,EU⟩:∃ x,noiX l = x:=⟨_,rfl⟩
   obtain ⟨V,EV⟩:∃ x,noiY l = x:=⟨_,rfl⟩
   rw [EU,EV] at KS
   have HU:=Lib.hid EU
   have HV:=Lib.hid EV
   clear EU EV
   obtain ⟨yZ0,yZ1,yZ2,yZ3,yZ4,yZ5,yZ6,yZ7,yZ8,yZz,yZf0,yZf1,yZf2,yZf3,yZf4,yZf5,yZf6,yZf7,yZf8⟩:=blf9 KZ
   obtain ⟨yS0,yS1,yS2,yS3,yS4,yS5,yS6,yS7,yS8,ySz⟩:=blk9 KS
   go_wp2
   replace KZ:=kst (kst (kst (kst (kst (kst (kst (kst (kst KZ 0 (.int .i64 (hiW X))) 1 (.int .u64 (loW X))) 2 (.int .i64 (hiW Y))) 3 (.int .u64 (loW Y))) 4 (.int .i64 (hiW U))) 5 (.int .u64 (loW U))) 6 (.int .i64 (hiW V))) 7 (.int .u64 (loW V))) 8 (.int .i64 T)
   refine ot2 (st9 wr w.heap.size 0 (.int .i64 (hiW X)) 1 (.int .u64 (loW X)) 2 (.int .i64 (hiW Y)) 3 (.int .u64 (loW Y)) 4 (.int .i64 (hiW U)) 5 (.int .u64 (loW U)) 6 (.int .i64 (hiW V)) 7 (.int .u64 (loW V)) 8 (.int .i64 T)) HB KN KS (by omega) (by omega) (by omega) ?_
   clear HB KN KS
   intro HB KN KS
   clear yZ0 yZ1 yZ2 yZ3 yZ4 yZ5 yZ6 yZ7 yZ8 yZz yZf0 yZf1 yZf2 yZf3 yZf4 yZf5 yZf6 yZf7 yZf8 yS0 yS1 yS2 yS3 yS4 yS5 yS6 yS7 yS8 ySz
   generalize ((((((((wr.setCell _ _).setCell _ _).setCell _ _).setCell _ _).setCell _ _).setCell _ _).setCell _ _).setCell _ _).setCell _ _ = w51 at *
   simp only [List.set] at KZ
   obtain ⟨yZ0,yZ1,yZ2,yZ3,yZ4,yZ5,yZ6,yZ7,yZ8,yZz⟩:=blk9 KZ
   refine bodyPost_ret (v:=.agg #[.int .i64 (hiW X),.int .u64 (loW X),.int .i64 (hiW Y),.int .u64 (loW Y),.int .i64 (hiW U),.int .u64 (loW U),.int .i64 (hiW V),.int .u64 (loW V),.int .i64 T]) (by simp [results,Tryz.results97,go_sem,yZ0,yZ1,yZ2,yZ3,yZ4,yZ5,yZ6,yZ7,yZ8]) rfl ⟨by rw [HX.out,HY.out,HT.out,HU.out,HV.out],HB.out⟩
end Go.Proofs.YtajmjkliblippaaGreatDoor
namespace Go.Proofs.YtajmjkliblippaaGreatDoor
open Go.RowKit
set_option maxHeartbeats 8000000
set_option maxRecDepth 100000
theorem rnormal_any (l:List Ms) (v:Value) (w:World) (h:LstAt l v w) (hc:chkL l = 0) :
 Calls Tryz.prog 155 #[v] w fun e w'=>e = .returned (.tuple #[.agg #[.int .i64 (nXX l),.int .i64 (nXY l),.int .i64 (nYY l),.int .i64 (nXZ l),.int .i64 (nYZ l)],.int .i64 0])∧Below w.heap.size w w':=by
 obtain ⟨p,cap,rfl⟩:=lst_form h
 have OL:=Lib.hid (okL_of hc)
 have CH:=Lib.hid fun w h=>chkref_any l (.slice p l.length cap) w h
 rw [hc] at CH
 clear hc
 have H0:=Lib.hid h
 obtain ⟨KZ,HB⟩:=ent1 w #[.int .i64 0,.int .i64 0,.int .i64 0,.int .i64 0,.int .i64 0] 160
 go_enter Tryz.func155,Tryz.ntmps155
 clear h
 go_wp2_with fail
 generalize w.alloc _ = w0 at *
 refine (CH.out _ (H0.out.below HB.out)).mono ?_
 rintro e1 w1 ⟨rfl,hb1⟩
 replace HB:=hT HB hb1
 replace KZ:=hK KZ hb1
 clear hb1
 go_wp2
 obtain ⟨KN,hb2⟩:=alB w1 #[.int .i64 0,.int .i64 0,.int .i64 0,.int .i64 0,.int .i64 0] 160
 have hnN:=HB.out.size
 have nzN_Z:=KZ.out.lt
 replace HB:=hT HB hb2
 replace KZ:=hK KZ hb2
 clear hb2
 generalize w1.alloc _ = w2 at *
 generalize w1.heap.size = bN at *
 have neN_Z:bN≠w.heap.size:=by omega
 clear nzN_Z
 go_loopw [17] (NrR l p cap w bN) (fun i _=>l.length - (intOf i).toNat)
 case atStart=>exact ⟨0,rfl,Nat.zero_le _,HB,KN,KZ⟩
 case round =>
  clear HB KN KZ
  obtain ⟨k,rfl,hk,HB,KN,KZ⟩:=hrel
  by_cases q:k < l.length
  ·have q':decide (k < l.length) = true:=by simpa using q
   obtain ⟨b,o,rfl,hcap,hmax,MM⟩:=lst_at (H0.out.below HB.out) q
   have c0:=MM.c0 k q
   have c1:=MM.c1 k q
   have c2:=MM.c2 k q
   have c3:=MM.c3 k q
   have c4:=MM.c4 k q
   have c5:=MM.c5 k q
   have clt:=MM.lt
   have NS:=nstep OL.out q
   obtain ⟨s0,s1,s2,s3,s4,s5,s6,s7,s8,s9,s10,s11⟩:=NS
   clear MM
   generalize nth l k = m at *
   generalize nXX (l.take k) = A at *
   generalize nXY (l.take k) = B at *
   generalize nYY (l.take k) = C at *
   generalize nXZ (l.take k) = D at *
   generalize nYZ (l.take k) = E at *
   obtain ⟨A1,EA⟩:∃ x,nXX (l.take (k + 1)) = x:=⟨_,rfl⟩
   obtain ⟨B1,EB⟩:∃ x,nXY (l.take (k + 1)) = x:=⟨_,rfl⟩
   obtain ⟨C1,EC⟩:∃ x,nYY (l.take (k + 1)) = x:=⟨_,rfl⟩
   obtain ⟨D1,ED⟩:∃ x,nXZ (l.take (k + 1)) = x:=⟨_,rfl⟩
   obtain ⟨E1,EE⟩:∃ x,nYZ (l.take (k + 1)) = x:=⟨_,rfl⟩
   rw [EA] at s7
   rw [EB] at s8
   rw [EC] at s9
   rw [ED] at s10
   rw [EE] at s11
   have HA:=Lib.hid EA
   have HBB:=Lib.hid EB
   have HC:=Lib.hid EC
   have HD:=Lib.hid ED
   have HE:=Lib.hid EE
   clear EA EB EC ED EE
   obtain ⟨yN0,yN1,yN2,yN3,yN4,yNz,yNf0,yNf1,yNf2,yNf3,yNf4⟩:=blf5 KN
   obtain ⟨yN0,yN1,yN2,yN3,yN4,yNz,yNf0,yNf1,yNf2,yNf3,yNf4⟩:=blf5 KN
   go_wp2
   replace KN:=kst (kst (kst (kst (kst KN 0 (.int .i64 A1)) 1 (.int .i64 B1)) 2 (.int .i64 C1)) 3 (.int .i64 D1)) 4 (.int .i64 E1)
   refine ot1 (st5 wr bN 0 (.int .i64 A1) 1 (.int .i64 B1) 2 (.int .i64 C1) 3 (.int .i64 D1) 4 (.int .i64 E1)) HB KZ (by omega) (by omega) ?_
   clear HB KZ
   intro HB KZ
   clear yN0 yN1 yN2 yN3 yN4 yNz yNf0 yNf1 yNf2 yNf3 yNf4
   generalize ((((wr.setCell _ _).setCell _ _).setCell _ _).setCell _ _).setCell _ _ = w51 at *
   simp only [List.set] at KN
   obtain ⟨KM,hb52⟩:=alB w51 #[.int .i64 m.s,.int .i64 m.a,.int .i64 m.b,.int .i64 m.z,.int .i64 m.d,.int .i64 m.w] 71
   have hnM:=HB.out.size
   have nzM_Z:=KZ.out.lt
   have nzM_N:=KN.out.lt
   refine up2 hb52 HB KZ KN ?_
   clear hb52 HB KZ KN
   intro HB KZ KN
   generalize w51.alloc _ = w52 at *
   generalize w51.heap.size = bM at *
   have neM_Z:bM≠w.heap.size:=by omega
   have neM_N:bM≠bN:=by omega
   clear nzM_Z nzM_N
   exact ⟨⟨k + 1,by go_num,by omega,HB,by rw [HA.out,HBB.out,HC.out,HD.out,HE.out]; exact KN,KZ⟩,by simp [intOf]; omega⟩
  ·obtain rfl:k = l.length:=by omega
   rw [List.take_length] at KN
   obtain ⟨A,EA⟩:∃ x,nXX l = x:=⟨_,rfl⟩
   rw [EA] at KN
   have HA:=Lib.hid EA
   clear EA
   obtain ⟨B,EB⟩:∃ x,nXY l = x:=⟨_,rfl⟩
   rw [EB] at KN
   have HBB:=Lib.hid EB
   clear EB
   obtain ⟨C,EC⟩:∃ x,nYY l = x:=⟨_,rfl⟩
   rw [EC] at KN
   have HC:=Lib.hid EC
   clear EC
   obtain ⟨D,ED⟩:∃ x,nXZ l = x:=⟨_,rfl⟩
   rw [ED] at KN
   have HD:=Lib.hid ED
   clear ED
   obtain ⟨E,EE⟩:∃ x,nYZ l = x:=⟨_,rfl⟩
   rw [EE] at KN
   have HE:=Lib.hid EE
   clear EE
   obtain ⟨yZ0,yZ1,yZ2,yZ3,yZ4,yZz,yZf0,yZf1,yZf2,yZf3,yZf4⟩:=blf5 KZ
   obtain ⟨yN0,yN1,yN2,yN3,yN4,yNz⟩:=blk5 KN
   go_wp2
   replace KZ:=kst (kst (kst (kst (kst KZ 0 (.int .i64 A)) 1 (.int .i64 B)) 2 (.int .i64 C)) 3 (.int .i64 D)) 4 (.int .i64 E)
   refine ot1 (st5 wr w.heap.size 0 (.int .i64 A) 1 (.int .i64 B) 2 (.int .i64 C) 3 (.int .i64 D) 4 (.int .i64 E)) HB KN (by omega) (by omega) ?_
   clear HB KN
   intro HB KN
   clear yZ0 yZ1 yZ2 yZ3 yZ4 yZz yZf0 yZf1 yZf2 yZf3 yZf4 yN0 yN1 yN2 yN3 yN4 yNz
   generalize ((((wr.setCell _ _).setCell _ _).setCell _ _).setCell _ _).setCell _ _ = w51 at *
   simp only [List.set] at KZ
   obtain ⟨yZ0,yZ1,yZ2,yZ3,yZ4,yZz⟩:=blk5 KZ
   refine bodyPost_ret (v:=.tuple #[.agg #[.int .i64 A,.int .i64 B,.int .i64 C,.int .i64 D,.int .i64 E],.int .i64 0]) (by simp [results,Tryz.results155,go_sem,yZ0,yZ1,yZ2,yZ3,yZ4]) rfl ⟨by rw [HA.out,HBB.out,HC.out,HD.out,HE.out],HB.out⟩
theorem rnormal_bad (l:List Ms) (v:Value) (w:World) (h:LstAt l v w) (hc:chkL l≠0) :
 Calls Tryz.prog 155 #[v] w fun e w'=>e = .returned (.tuple #[.agg #[.int .i64 0,.int .i64 0,.int .i64 0,.int .i64 0,.int .i64 0],.int .i64 (chkL l)])∧Below w.heap.size w w':=by
 obtain ⟨p,cap,rfl⟩:=lst_form h
 have CH:=Lib.hid fun w h=>chkref_any l (.slice p l.length cap) w h
 have g:(chkL l != 0) = true:=by simpa using hc
 have g':(chkL l == 0) = false:=by simpa using hc
 clear hc
 generalize chkL l = c at *
 have H0:=Lib.hid h
 obtain ⟨KZ,HB⟩:=ent1 w #[.int .i64 0,.int .i64 0,.int .i64 0,.int .i64 0,.int .i64 0] 160
 go_enter Tryz.func155,Tryz.ntmps155
 clear h
 go_wp2_with fail
 generalize w.alloc _ = w0 at *
 refine (CH.out _ (H0.out.below HB.out)).mono ?_
 rintro e1 w1 ⟨rfl,hb1⟩
 replace HB:=hT HB hb1
 replace KZ:=hK KZ hb1
 clear hb1
 obtain ⟨yZ0,yZ1,yZ2,yZ3,yZ4,yZz,yZf0,yZf1,yZf2,yZf3,yZf4⟩:=blf5 KZ
 go_wp2
 have hs:=st5 w1 w.heap.size 0 (.int .i64 0) 1 (.int .i64 0) 2 (.int .i64 0) 3 (.int .i64 0) 4 (.int .i64 0)
 replace KZ:=kst (kst (kst (kst (kst KZ 0 (.int .i64 0)) 1 (.int .i64 0)) 2 (.int .i64 0)) 3 (.int .i64 0)) 4 (.int .i64 0)
 replace HB:=oH hs HB (by omega)
 clear hs
 clear yZ0 yZ1 yZ2 yZ3 yZ4 yZz yZf0 yZf1 yZf2 yZf3 yZf4
 generalize ((((w1.setCell _ _).setCell _ _).setCell _ _).setCell _ _).setCell _ _ = w2 at *
 simp only [List.set] at KZ
 obtain ⟨yZ0,yZ1,yZ2,yZ3,yZ4,yZz⟩:=blk5 KZ
 refine bodyPost_ret (v:=.tuple #[.agg #[.int .i64 0,.int .i64 0,.int .i64 0,.int .i64 0,.int .i64 0],.int .i64 c]) (by simp [results,Tryz.results155,go_sem,yZ0,yZ1,yZ2,yZ3,yZ4]) rfl ⟨rfl,HB.out⟩
end Go.Proofs.YtajmjkliblippaaGreatDoor
