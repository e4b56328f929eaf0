/-
  Walks and laws of the layers below, gathered from several texts.
-/
import Derived.Test.YtajmjkliblippaaGreatDoorRows
import Derived.WalkKit
import Derived.ProofKit
import Derived.OpenShut
import Derived.Deep.Slices
import Derived.Lib.SmallJoins
import Derived.Lib.Hide
set_option linter.unusedVariables false
namespace Go.Proofs.YtajmjkliblippaaGreatDoor
open Go.ChangeShapes Go.WideShapes Go.ChangeAt Go.RowKit Go.Joins
theorem own:ownKnob Tryz.prog.godebug = none:=by kernel_rfl
theorem laidOut:laidOutB Tryz.prog = true:=by kernel_rfl
section
variable {H:Type} {enc:TypeId × Value→H} {P:Program}
theorem post_of_below {f:Func} {s:ChangeSpec} {apart fresh handsOn again:Bool} {W W':World} {args:Array Value} {v:Value} {ds gs:List (DataW H)} {before pa pv:List MemPlace}
 (hW:DataW.Whole enc P f.params.toList s.vars apart W args.toList ds gs before)
 (hres:∀ (b:Nat) (sp:Nat→Bool) (hd:Bool),DataW.TrodAll enc P W' b sp hd f.resultTypes.toList (v.resultList f.resultTypes.size) (s.fn H (ds ++ gs)).results [])
 (hargs:∀ sp:Nat→Bool,(∀ p ∈ before,sp p.block = true)→DataW.TrodAll enc P W' 0 sp true f.params.toList args.toList (s.fn H (ds ++ gs)).args pa)
 (hvars:∀ sp:Nat→Bool,(∀ p ∈ before,sp p.block = true)→DataW.TrodVars enc P W' sp s.vars (s.fn H (ds ++ gs)).vars pv)
 (hps:before = pa ++ pv) (hb:Below W.heap.size W W')
 (hok:∀ (j:Nat) (t:TypeId) (r:Value),f.resultTypes[j]? = some t→(v.resultList f.resultTypes.size)[j]? = some r→Value.okWide P W' .any 0 t r) :
 s.post enc P f apart fresh handsOn again W args v W':=by
 have hlt:∀ p ∈ before,p.block < W.heap.size:=fun p hp=>hW.lt p hp
 have hold:∀ p ∈ before,(fun b=>decide (b < W.heap.size)) p.block = true:=fun p hp=>by simpa using hlt p hp
 refine ⟨ds,gs,before,[],pa,pv,hW,hres _ _ _,hargs _ hold,hvars _ hold,World.keptBut_mono (fun p hp=>⟨hp,?_⟩) (hb.frame (· ∈ before)),fun _=>?_⟩
 ·rw [hps,List.mem_append] at hp
  exact Or.inr hp
 ·obtain ⟨_,_,_,_,_,hz,hn⟩:=hW
  refine ⟨hok,_,_,([] ++ pa) ++ pv,⟨[] ++ pa,pv,trodAll_append (hargs _ (fun _ _=>rfl)) (hres _ _ _),hvars _ (fun _ _=>rfl),rfl,?_,?_⟩,?_⟩
  ·intro b off hp
   have hin:MemPlace.cell b off ∈ before:=by rw [hps]; simpa using hp
   rw [hb.frozen (hlt _ hin)]
   exact hz b off hin
  ·intro ha
   have:=hn ha
   rw [hps] at this
   simpa using this
  ·intro p hp _
   rw [hps]
   simpa using hp
end
end Go.Proofs.YtajmjkliblippaaGreatDoor
namespace Go.Proofs.YtajmjkliblippaaGreatDoor
structure Bx4 where
 cx:Int
 cy:Int
 x:Int
 y:Int
def bx0:Bx4:=⟨0,0,0,0⟩
def bxV (b:Bx4):Bool:=decide ((-2000000≤b.cx∧b.cx≤2000000∧-2000000≤b.cy∧b.cy≤2000000)∧(0≤b.x∧b.x≤2000000)∧0≤b.y∧b.y≤2000000)
theorem bxV_iff {b:Bx4}:bxV b = true↔((-2000000≤b.cx∧b.cx≤2000000∧-2000000≤b.cy∧b.cy≤2000000)∧(0≤b.x∧b.x≤2000000)∧0≤b.y∧b.y≤2000000):=by unfold bxV; rw [decide_eq_true_iff]
def rngC (ve vn dr tk:Int):Bool:=decide ((-2000≤ve∧ve≤2000)∧(-2000≤vn∧vn≤2000)∧(0≤dr∧dr≤1000)∧0≤tk∧tk≤144000)
theorem rngC_iff {ve vn dr tk:Int}:rngC ve vn dr tk = true↔((-2000≤ve∧ve≤2000)∧(-2000≤vn∧vn≤2000)∧(0≤dr∧dr≤1000)∧0≤tk∧tk≤144000):=by unfold rngC; rw [decide_eq_true_iff]
def movB (b:Bx4) (ve vn dr tk:Int):Bx4:=⟨b.cx + ve * tk,b.cy + vn * tk,b.x + dr * tk,b.y + dr * tk⟩
def cstF (b:Bx4) (ve vn dr tk:Int):Bx4 × Int:=
 if bxV b = true then (if rngC ve vn dr tk = true then (if bxV (movB b ve vn dr tk) = true then (movB b ve vn dr tk,0) else (bx0,2)) else (bx0,2)) else (bx0,1)
theorem cst_val {b:Bx4} {ve vn dr tk:Int} (h:(cstF b ve vn dr tk).2 = 0):bxV b = true∧rngC ve vn dr tk = true∧bxV (movB b ve vn dr tk) = true∧cstF b ve vn dr tk = (movB b ve vn dr tk,0):=by
 unfold cstF at *
 split at h
 ·rename_i h1
  split at h
  ·rename_i h2
   split at h
   ·rename_i h3
    exact ⟨h1,h2,h3,by rw [if_pos h1,if_pos h2,if_pos h3]⟩
   ·cases h
  ·cases h
 ·cases h
theorem cst_bad {b:Bx4} {ve vn dr tk:Int} (h:(cstF b ve vn dr tk).2≠0):(cstF b ve vn dr tk).1 = bx0:=by
 unfold cstF at *
 split
 ·rename_i h1
  rw [if_pos h1] at h
  split
  ·rename_i h2
   rw [if_pos h2] at h
   split
   ·rename_i h3
    rw [if_pos h3] at h
    exact absurd rfl h
   ·rfl
  ·rfl
 ·rfl
def chkS (b:Bx4) (t m:Int):Int:=if bxV b = true then (if 0≤t∧t≤1099511627776∧0≤m∧m≤1000 then 0 else 2) else 1
theorem chkS_ok {b:Bx4} {t m:Int} (h:chkS b t m = 0):bxV b = true∧(0≤t∧t≤1099511627776)∧0≤m∧m≤1000:=by
 unfold chkS at h
 split at h
 ·rename_i h1
  split at h
  ·rename_i h2
   exact ⟨h1,⟨h2.1,h2.2.1⟩,h2.2.2.1,h2.2.2.2⟩
  ·cases h
 ·cases h
def inB (b:Bx4) (px py:Int):Prop:=(px - b.cx≤b.x∧b.cx - px≤b.x)∧py - b.cy≤b.y∧b.cy - py≤b.y
end Go.Proofs.YtajmjkliblippaaGreatDoor
