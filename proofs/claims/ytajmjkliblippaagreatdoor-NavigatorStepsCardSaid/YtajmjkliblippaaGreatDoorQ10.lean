/-
  Walks and laws of the layers below, gathered from several texts.
-/
import Derived.Test.YtajmjkliblippaaGreatDoorQ3
import Derived.Test.YtajmjkliblippaaGreatDoorQ9
set_option linter.unusedVariables false
namespace Go.Proofs.YtajmjkliblippaaGreatDoor
def nearW (x d:Int):Int:=(2 * x + d) / (2 * d)
def pOk (v:Int):Bool:=decide (-2000000≤v∧v≤2000000)
def cenX (l:List Ms):Int:=nearW (solX l) (detN l)
def cenY (l:List Ms):Int:=nearW (solY l) (detN l)
def solE (l:List Ms):Int:=if chkL l = 0 then (if detN l = 0 then 14 else if (pOk (cenX l) && pOk (cenY l)) = true then 0 else 2) else chkL l
def apartI (p x d:Int):Int:=absZ (p * d - x)
def pairF (x y d:Int):(Int × Int) × Int:=if ceilI x d≤8000000∧ceilI y d≤8000000 then ((ceilI x d,ceilI y d),0) else ((0,0),2)
def reachF (cx cy:Int) (l:List Ms):(Int × Int) × Int:=pairF (apartI cx (solX l) (detN l) + noiX l) (apartI cy (solY l) (detN l) + noiY l) (detN l)
structure BoxI where
 cx:Int
 cy:Int
 x:Int
 y:Int
def box0:BoxI:=⟨0,0,0,0⟩
def maxF (f:Int→Int):List Int→Int
 | []=>0
 | k :: r=>max (f k) (maxF f r)
def rankB (l:List Ms) (k:Int):Bool:=decide (detN (woL l k) = 0)
def wideB (l:List Ms) (k:Int):Bool:=decide ((reachF (cenX l) (cenY l) (woL l k)).2≠0)
def levF (l:List Ms):BoxI × Int:=
 if solE l = 0 then (if (srcL l).any (rankB l) = true then (box0,14) else if (srcL l).any (wideB l) = true then (box0,2) else
  (⟨cenX l,cenY l,maxF (fun k=>(reachF (cenX l) (cenY l) (woL l k)).1.1) (srcL l),maxF (fun k=>(reachF (cenX l) (cenY l) (woL l k)).1.2) (srcL l)⟩,0)) else (box0,solE l)
end Go.Proofs.YtajmjkliblippaaGreatDoor
namespace Go.Proofs.YtajmjkliblippaaGreatDoor
structure LevOk (l:List Ms):Prop where
 sol:solE l = 0
 rank:∀ k ∈ srcL l,detN (woL l k)≠0
 fit:∀ k ∈ srcL l,(reachF (cenX l) (cenY l) (woL l k)).2 = 0
theorem lev_val {l:List Ms} (h:LevOk l):levF l = (⟨cenX l,cenY l,maxF (fun k=>(reachF (cenX l) (cenY l) (woL l k)).1.1) (srcL l),maxF (fun k=>(reachF (cenX l) (cenY l) (woL l k)).1.2) (srcL l)⟩,0):=by
 unfold levF
 rw [if_pos h.sol,if_neg,if_neg]
 ·intro q
  obtain ⟨k,hk,e⟩:=List.any_eq_true.1 q
  exact of_decide_eq_true e (h.fit k hk)
 ·intro q
  obtain ⟨k,hk,e⟩:=List.any_eq_true.1 q
  exact h.rank k hk (of_decide_eq_true e)
theorem sol_chk {l:List Ms} (h:solE l = 0):chkL l = 0∧detN l≠0∧pOk (cenX l) = true∧pOk (cenY l) = true:=by
 unfold solE at h
 by_cases hc:chkL l = 0
 ·rw [if_pos hc] at h
  by_cases hd:detN l = 0
  ·rw [if_pos hd] at h; cases h
  ·rw [if_neg hd] at h
   by_cases hp:(pOk (cenX l) && pOk (cenY l)) = true
   ·rw [Bool.and_eq_true] at hp
    exact ⟨hc,hd,hp.1,hp.2⟩
   ·rw [if_neg hp] at h; cases h
 ·rw [if_neg hc] at h
  exact absurd h hc
theorem chk_w {l:List Ms} (h:chkL l = 0):∀ m ∈ l,0≤m.w:=fun m hm=>by
 have:=((chkL_ok h).2 m hm).w0
 omega
end Go.Proofs.YtajmjkliblippaaGreatDoor
namespace Go.Proofs.YtajmjkliblippaaGreatDoor
theorem mulb {x y X Y:Int} (hX:0≤X) (hx0:-X≤x) (hx:x≤X) (hy0:-Y≤y) (hy:y≤Y):-(X * Y)≤x * y∧x * y≤X * Y:=by
 have hY:0≤Y:=by omega
 rcases Int.le_total 0 x with h | h
 ·have a:=Int.mul_le_mul_of_nonneg_left hy0 h
  have b:=Int.mul_le_mul_of_nonneg_left hy h
  have c:=Int.mul_le_mul_of_nonneg_right hx hY
  have e:x * -Y = -(x * Y):=by grind
  omega
 ·have a:=Int.mul_le_mul_of_nonneg_left hy0 (show 0≤-x by omega)
  have b:=Int.mul_le_mul_of_nonneg_left hy (show 0≤-x by omega)
  have c:=Int.mul_le_mul_of_nonneg_right (show -x≤X by omega) hY
  have e1:-x * -Y = x * Y:=by grind
  have e2:-x * y = -(x * y):=by grind
  have e3:-x * Y = -(x * Y):=by grind
  omega
structure OkL (l:List Ms):Prop where
 len:l.length≤16
 ok:∀ m ∈ l,OkM m
theorem okL_of {l:List Ms} (h:chkL l = 0):OkL l:=⟨(chkL_ok h).1,(chkL_ok h).2⟩
theorem OkL.take {l:List Ms} (h:OkL l) (k:Nat):OkL (l.take k):=⟨by rw [List.length_take]; have:=h.len; omega,fun m hm=>h.ok m (List.mem_of_mem_take hm)⟩
theorem OkL.wo {l:List Ms} (h:OkL l) (k:Int):OkL (woL l k):=⟨Nat.le_trans (woL_len _ _) h.len,fun m hm=>h.ok m (List.mem_filter.1 hm).1⟩
theorem OkL.sum {l:List Ms} (h:OkL l) (f:Ms→Int) (B:Int) (hB:0≤B) (hf:∀ m ∈ l,-B≤f m∧f m≤B):-(16 * B)≤sumL f l∧sumL f l≤16 * B:=by
 have s:=sum_bd f B l hf
 have e:=Int.mul_le_mul_of_nonneg_right (show (l.length:Int)≤16 by have:=h.len; omega) hB
 omega
theorem term2 {w a b A B:Int} (hA:0≤A) (w0:1≤w) (w1:w≤16) (a0:-A≤a) (a1:a≤A) (b0:-B≤b) (b1:b≤B):-(16 * A * B)≤w * a * b∧w * a * b≤16 * A * B:=by
 obtain ⟨h1,h2⟩:=mulb (X:=16) (Y:=A) (by omega) (show -16≤w by omega) w1 a0 a1
 exact mulb (by omega) h1 h2 b0 b1
structure NrmB (l:List Ms):Prop where
 xx:-16777216≤nXX l∧nXX l≤16777216
 xy:-16777216≤nXY l∧nXY l≤16777216
 yy:-16777216≤nYY l∧nYY l≤16777216
 xz:-281474976710656≤nXZ l∧nXZ l≤281474976710656
 yz:-281474976710656≤nYZ l∧nYZ l≤281474976710656
theorem nrm_bd {l:List Ms} (h:OkL l):NrmB l:=by
 have t1:∀ m ∈ l,-1048576≤m.w * m.a * m.a∧m.w * m.a * m.a≤1048576:=fun m hm=>by
  have o:=h.ok m hm
  have:=term2 (A:=256) (B:=256) (by omega) o.w0 o.w1 o.a0 o.a1 o.a0 o.a1
  omega
 have t2:∀ m ∈ l,-1048576≤m.w * m.a * m.b∧m.w * m.a * m.b≤1048576:=fun m hm=>by
  have o:=h.ok m hm
  have:=term2 (A:=256) (B:=256) (by omega) o.w0 o.w1 o.a0 o.a1 o.b0 o.b1
  omega
 have t3:∀ m ∈ l,-1048576≤m.w * m.b * m.b∧m.w * m.b * m.b≤1048576:=fun m hm=>by
  have o:=h.ok m hm
  have:=term2 (A:=256) (B:=256) (by omega) o.w0 o.w1 o.b0 o.b1 o.b0 o.b1
  omega
 have t4:∀ m ∈ l,-17592186044416≤m.w * m.a * m.z∧m.w * m.a * m.z≤17592186044416:=fun m hm=>by
  have o:=h.ok m hm
  have:=term2 (A:=256) (B:=4294967296) (by omega) o.w0 o.w1 o.a0 o.a1 o.z0 o.z1
  omega
 have t5:∀ m ∈ l,-17592186044416≤m.w * m.b * m.z∧m.w * m.b * m.z≤17592186044416:=fun m hm=>by
  have o:=h.ok m hm
  have:=term2 (A:=256) (B:=4294967296) (by omega) o.w0 o.w1 o.b0 o.b1 o.z0 o.z1
  omega
 have s1:=h.sum _ _ (by omega) t1
 have s2:=h.sum _ _ (by omega) t2
 have s3:=h.sum _ _ (by omega) t3
 have s4:=h.sum _ _ (by omega) t4
 have s5:=h.sum _ _ (by omega) t5
 exact ⟨by unfold nXX; omega,by unfold nXY; omega,by unfold nYY; omega,by unfold nXZ; omega,by unfold nYZ; omega⟩
structure SolB (l:List Ms):Prop where
 det:-562949953421312≤detN l∧detN l≤562949953421312
 x:-9444732965739290427392≤solX l∧solX l≤9444732965739290427392
 y:-9444732965739290427392≤solY l∧solY l≤9444732965739290427392
theorem sol_bd {l:List Ms} (h:NrmB l):SolB l:=by
 obtain ⟨⟨a0,a1⟩,⟨b0,b1⟩,⟨c0,c1⟩,⟨d0,d1⟩,⟨e0,e1⟩⟩:=h
 have p1:=mulb (X:=16777216) (Y:=16777216) (by omega) a0 a1 c0 c1
 have p2:=mulb (X:=16777216) (Y:=16777216) (by omega) b0 b1 b0 b1
 have p3:=mulb (X:=16777216) (Y:=281474976710656) (by omega) c0 c1 d0 d1
 have p4:=mulb (X:=16777216) (Y:=281474976710656) (by omega) b0 b1 e0 e1
 have p5:=mulb (X:=16777216) (Y:=281474976710656) (by omega) a0 a1 e0 e1
 have p6:=mulb (X:=16777216) (Y:=281474976710656) (by omega) b0 b1 d0 d1
 exact ⟨by unfold detN; omega,by unfold solX; omega,by unfold solY; omega⟩
theorem absZ_le {x B:Int} (h0:-B≤x) (h1:x≤B):absZ x≤B:=by unfold absZ; split <;> omega
theorem absZ_ge (x:Int):0≤absZ x:=by unfold absZ; split <;> omega
theorem noi_term {m:Ms} (o:OkM m) {u v a b:Int} (hu0:-16777216≤u) (hu:u≤16777216) (hv0:-16777216≤v) (hv:v≤16777216) (ha0:-256≤a) (ha:a≤256) (hb0:-256≤b) (hb:b≤256) :
 0≤absZ (u * a - v * b)∧absZ (u * a - v * b)≤8589934592∧0≤m.w * absZ (u * a - v * b)∧m.w * absZ (u * a - v * b)≤137438953472∧0≤m.w * absZ (u * a - v * b) * m.d∧m.w * absZ (u * a - v * b) * m.d≤590295810358705651712:=by
 have p1:=mulb (X:=16777216) (Y:=256) (by omega) hu0 hu ha0 ha
 have p2:=mulb (X:=16777216) (Y:=256) (by omega) hv0 hv hb0 hb
 have l1:absZ (u * a - v * b)≤8589934592:=absZ_le (by omega) (by omega)
 have l0:=absZ_ge (u * a - v * b)
 generalize absZ (u * a - v * b) = c at *
 have w0:=o.w0
 have w1:=o.w1
 have d0:=o.d0
 have d1:=o.d1
 have q0:=Int.mul_nonneg (show 0≤m.w by omega) l0
 have q1:=(mulb (X:=16) (Y:=8589934592) (x:=m.w) (y:=c) (by omega) (by omega) w1 (by omega) l1).2
 have r0:=Int.mul_nonneg q0 d0
 have r1:=(mulb (X:=137438953472) (Y:=4294967296) (x:=m.w * c) (y:=m.d) (by omega) (by omega) (by omega) (by omega) d1).2
 exact ⟨l0,l1,q0,by omega,r0,by omega⟩
end Go.Proofs.YtajmjkliblippaaGreatDoor
