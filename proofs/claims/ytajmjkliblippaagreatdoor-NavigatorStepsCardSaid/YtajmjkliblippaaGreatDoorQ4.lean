/-
  Walks and laws of the layers below, gathered from several texts.
-/
import Derived.Test.YtajmjkliblippaaGreatDoorQ1
import Derived.Test.YtajmjkliblippaaGreatDoorQ2
import Derived.Test.YtajmjkliblippaaGreatDoorQ3
set_option linter.unusedVariables false
namespace Go.Proofs.YtajmjkliblippaaGreatDoor.S41
open Tr Sq
def fromB (x lo hi:Int):Bool:=decide (lo≤x) && decide (x≤hi)
theorem fromB_iff {x lo hi:Int}:fromB x lo hi = true↔(lo≤x∧x≤hi):=by unfold fromB; simp
def pvB (x y:Int):Bool:=decide (-2000000≤x) && decide (x≤2000000) && decide (-2000000≤y) && decide (y≤2000000)
theorem pvB_iff {x y:Int}:pvB x y = true↔(-2000000≤x∧x≤2000000∧-2000000≤y∧y≤2000000):=by unfold pvB; simp [and_assoc]
def maxV (k:Int):Int:=if k = 2 then 8000000 else if k = 3 then 129599999 else 0
def maxBd (k:Int):Int:=if k = 3 then 3600000 else 600000
def okA (s k x y w:Int):Bool:=fromB s 1 8 && decide (1≤k) && decide (k≤3) && pvB x y && fromB w 1 16
def okR (k v b t:Int):Bool:=fromB t 0 1099511627776 && fromB b 0 (maxBd k) && fromB v 0 (maxV k)
def checkI (s k x y v b w t:Int):Int:=if okA s k x y w = true then (if okR k v b t = true then 0 else 2) else 1
theorem okA_iff {s k x y w:Int}:okA s k x y w = true↔((1≤s∧s≤8)∧1≤k∧k≤3∧(-2000000≤x∧x≤2000000∧-2000000≤y∧y≤2000000)∧1≤w∧w≤16):=by
 unfold okA; simp only [Bool.and_eq_true,fromB_iff,pvB_iff,decide_eq_true_iff,and_assoc]
theorem okR_iff {k v b t:Int}:okR k v b t = true↔((0≤t∧t≤1099511627776)∧(0≤b∧b≤maxBd k)∧0≤v∧v≤maxV k):=by
 unfold okR; simp only [Bool.and_eq_true,fromB_iff,and_assoc]
theorem check_ok {s k x y v b w t:Int}:checkI s k x y v b w t = 0↔(okA s k x y w = true∧okR k v b t = true):=by
 unfold checkI
 split <;> rename_i h
 ·split <;> rename_i h2
  ·simp [h,h2]
  ·simp [h2]
 ·simp [h]
theorem check_bd {s k x y v b w t:Int} (h:checkI s k x y v b w t = 0) :
 (1≤s∧s≤8)∧(k = 1∨k = 2∨k = 3)∧(-2000000≤x∧x≤2000000∧-2000000≤y∧y≤2000000)∧(0≤v∧v≤129599999)∧(0≤b∧b≤3600000)∧(1≤w∧w≤16)∧(0≤t∧t≤1099511627776):=by
 obtain ⟨h1,h2⟩:=check_ok.1 h
 have a:=okA_iff.1 h1
 have c:=okR_iff.1 h2
 unfold maxBd maxV at c
 split at c <;> split at c <;> omega
def boxV (cx cy bx b2:Int):Bool:=pvB cx cy && fromB bx 0 2000000 && fromB b2 0 2000000
theorem boxV_iff {cx cy bx b2:Int}:boxV cx cy bx b2 = true↔((-2000000≤cx∧cx≤2000000∧-2000000≤cy∧cy≤2000000)∧(0≤bx∧bx≤2000000)∧0≤b2∧b2≤2000000):=by
 unfold boxV; simp only [Bool.and_eq_true,pvB_iff,fromB_iff,and_assoc]
def sqU (n:Int):Int:=if 0 < n∧isq n * isq n < n then isq n + 1 else isq n
def radI (cx cy bx b2:Int):Int:=if boxV cx cy bx b2 = true then sqU (bx * bx + b2 * b2) else 0
def insB (cx cy bx b2 px py:Int):Bool:=boxV cx cy bx b2 && fromB px (cx - bx) (cx + bx) && fromB py (cy - b2) (cy + b2)
theorem insB_iff {cx cy bx b2 px py:Int}:insB cx cy bx b2 px py = true↔(boxV cx cy bx b2 = true∧(cx - bx≤px∧px≤cx + bx)∧cy - b2≤py∧py≤cy + b2):=by
 unfold insB; simp only [Bool.and_eq_true,fromB_iff,and_assoc]
def d2 (x y p q:Int):Int:=(p - x) * (p - x) + (q - y) * (q - y)
def distI (x y p q:Int):Int:=if (pvB x y && pvB p q) = true then isq (d2 x y p q) else 0
theorem pv2 {x y p q:Int} (h:(pvB x y && pvB p q) = true):(-2000000≤x∧x≤2000000∧-2000000≤y∧y≤2000000)∧(-2000000≤p∧p≤2000000∧-2000000≤q∧q≤2000000):=by
 rw [Bool.and_eq_true] at h
 exact ⟨pvB_iff.1 h.1,pvB_iff.1 h.2⟩
theorem sq_bd {x k:Int} (h0:-k≤x) (h1:x≤k):0≤x * x∧x * x≤k * k:=by
 refine ⟨Sq.sq_nonneg x,?_⟩
 rcases Int.le_total 0 x with h | h
 ·exact sq_le h h1
 ·have:=sq_le (a:=-x) (b:=k) (by omega) (by omega)
  rwa [Int.neg_mul_neg] at this
theorem d2_bd {x y p q:Int} (h:(pvB x y && pvB p q) = true):0≤d2 x y p q∧d2 x y p q≤32000000000000∧0≤(p - x) * (p - x)∧(p - x) * (p - x)≤16000000000000∧0≤(q - y) * (q - y)∧(q - y) * (q - y)≤16000000000000:=by
 obtain ⟨a,b⟩:=pv2 h
 have h1:=sq_bd (x:=p - x) (k:=4000000) (by omega) (by omega)
 have h2:=sq_bd (x:=q - y) (k:=4000000) (by omega) (by omega)
 unfold d2
 omega
end Go.Proofs.YtajmjkliblippaaGreatDoor.S41
namespace Go.Proofs.YtajmjkliblippaaGreatDoor.S41
open Tr Sq
structure Ms where
 s:Int
 a:Int
 b:Int
 z:Int
 d:Int
 w:Int
def rngA (p q D:Int):Int:=nearI2 (256 * (q - p)) D
def rngF (D K:Int):Int:=ceilI (K * K) (2 * (D - K))
def brgA (v:Int):Int:=nearI2 (256 * cosI v) 1073741824
def brgB (v:Int):Int:=nearI2 (-256 * sinI v) 1073741824
def brgF (b G:Int):Int:=ceilI (256 * G * (sinI b + 2)) 1073741824
def rngM (s x y v b wt cx cy D K:Int):Ms:=⟨s,rngA x cx D,rngA y cy D,rngA x cx D * cx + rngA y cy D * cy + 256 * (v - D),K + 256 * (b + 1 + rngF D K),wt⟩
def brgM (s x y v b wt D K:Int):Ms:=⟨s,brgA v,brgB v,brgA v * x + brgB v * y,(D + 1 + K) + brgF b (D + 1 + K),wt⟩
def rowsF (s k x y v b wt t cx cy bx b2:Int):List Ms × Int:=
 if checkI s k x y v b wt t = 0 then
  if boxV cx cy bx b2 = true then
   if k = 1 then ([⟨s,256,0,256 * x,256 * b,wt⟩,⟨s,0,256,256 * y,256 * b,wt⟩],0)
   else if k = 2 then
    (if distI x y cx cy < 6000∨distI x y cx cy < 4 * radI cx cy bx b2 then ([],10) else ([rngM s x y v b wt cx cy (distI x y cx cy) (radI cx cy bx b2)],0))
   else ([brgM s x y v b wt (distI x y cx cy) (radI cx cy bx b2)],0)
  else ([],1)
 else ([],checkI s k x y v b wt t)
theorem sqU_bd {n m:Int} (h0:0≤n) (h1:n≤m * m) (hm:0≤m) (hm2:m≤2000000000):0≤sqU n∧sqU n≤m:=by
 have hmm:m * m≤4000000000000000000:=by have:=Sq.sq_le hm hm2; omega
 have a:=Sq.isq_is h0 (by omega)
 have nn:=a.nn
 have le:=a.le
 unfold sqU
 split
 ·rename_i h
  refine ⟨by omega,?_⟩
  have:=Sq.lt_of_sq (a:=isq n) (b:=m) hm (by omega)
  omega
 ·refine ⟨nn,Sq.le_of_sq hm (by omega)⟩
theorem rad_bd {cx cy bx b2:Int} (h:boxV cx cy bx b2 = true):0≤radI cx cy bx b2∧radI cx cy bx b2≤2828428:=by
 obtain ⟨_,⟨a0,a1⟩,b0,b1⟩:=boxV_iff.1 h
 obtain ⟨c0,c1⟩:=sq_bd (x:=bx) (k:=2000000) (by omega) a1
 obtain ⟨d0,d1⟩:=sq_bd (x:=b2) (k:=2000000) (by omega) b1
 unfold radI
 rw [if_pos h]
 exact sqU_bd (by omega) (by omega) (by decide) (by decide)
theorem dist_bd (x y p q:Int):0≤distI x y p q∧distI x y p q≤5656854:=by
 unfold distI
 split
 ·rename_i h
  obtain ⟨a,b,_⟩:=d2_bd h
  have h0:=Sq.isq_nonneg (n:=d2 x y p q) (by omega)
  have h1:=Sq.isq_lt (n:=d2 x y p q) (r:=5656855) (by decide) a (by omega)
  exact ⟨h0,by have:=h1.2 (by omega); omega⟩
 ·omega
theorem near_bd2 {p c k:Int} (hc:0 < c) (h0:-(k * c)≤p) (h1:p≤k * c):-k≤nearI2 p c∧nearI2 p c≤k:=by
 unfold nearI2
 constructor
 ·have e:-k≤(2 * p + c) / (2 * c):=by
   rw [Int.le_ediv_iff_mul_le (by omega)]
   have:-k * (2 * c) = 2 * -(k * c):=by grind
   omega
  exact e
 ·have e:(2 * p + c) / (2 * c) < k + 1:=by
   rw [Int.ediv_lt_iff_lt_mul (by omega)]
   have:(k + 1) * (2 * c) = 2 * (k * c) + 2 * c:=by grind
   omega
  omega
theorem side_dist {x y p q:Int} (h:(pvB x y && pvB p q) = true):-(distI x y p q)≤p - x∧p - x≤distI x y p q∧-(distI x y p q)≤q - y∧q - y≤distI x y p q:=by
 obtain ⟨a,b,c1,c2,c3,c4⟩:=d2_bd h
 unfold distI
 rw [if_pos h]
 have hn:=Sq.isq_nonneg (n:=d2 x y p q) (by omega)
 have key:∀ u:Int,u * u≤d2 x y p q→u≤isq (d2 x y p q):=by
  intro u hu
  by_cases h0:0≤u
  ·exact (Sq.le_isq h0 a (by omega)).2 hu
  ·omega
 have h1:=key (p - x) (by unfold d2; omega)
 have h2:=key (-(p - x)) (by rw [Int.neg_mul_neg]; unfold d2; omega)
 have h3:=key (q - y) (by unfold d2; omega)
 have h4:=key (-(q - y)) (by rw [Int.neg_mul_neg]; unfold d2; omega)
 omega
end Go.Proofs.YtajmjkliblippaaGreatDoor.S41
