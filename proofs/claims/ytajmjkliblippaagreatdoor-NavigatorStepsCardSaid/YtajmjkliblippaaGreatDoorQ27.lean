/-
  Walks and laws of the layers below, gathered from several texts.
-/
import Derived.StillTail
import Derived.StillTailTactics
import Derived.Lib.QuietBelow
set_option linter.unusedVariables false
namespace Go.Proofs.YtajmjkliblippaaGreatDoor
open Go Go.Sort Go.RowKit
section
variable {P:Program} {ops:Array Oper} {md:Region.Mode} {C:World→Prop}
def calmUpon (w:World) (v:Value):Result Next→Prop
 | .ok (.value u) w'=>w' = w∧u = v
 | _=>False
def Calm (P:Program) (ops:Array Oper) (C:World→Prop) (o:Oper) (v:Value) (a:Act):Prop:=
 (Region.wanted o (yielded ops a.tmps) = true∧∀ w,C w→calmUpon w v ((execOp a.eval o).run P w))∨(Region.wanted o (yielded ops a.tmps) = false∧v = undef)
def wpCalm (P:Program) (ops:Array Oper) (C:World→Prop) (Q:Act→Prop):List Oper→Act→Prop
 | [],a=>Q a
 | o :: rest,a=>if Region.wanted o (yielded ops a.tmps) then ∃ v,(∀ w,C w→calmUpon w v ((execOp a.eval o).run P w))∧wpCalm P ops C Q rest (a.put o.dst v) else wpCalm P ops C Q rest (a.put o.dst undef)
theorem wpCalm_nil {Q:Act→Prop} {a:Act} (h:Q a):wpCalm P ops C Q [] a:=h
theorem wpCalm_step {Q:Act→Prop} {a:Act} {o:Oper} {rest:List Oper}
 (h:∀ K:Act→Prop,(∀ a,wpCalm P ops C Q rest a→K a)→if Region.wanted o (yielded ops a.tmps) then ∃ v,(∀ w,C w→calmUpon w v ((execOp a.eval o).run P w))∧K (a.put o.dst v) else K (a.put o.dst undef)):wpCalm P ops C Q (o :: rest) a:=
 h _ (fun _ h=>h)
theorem calm_intro {w:World} {u:Value}:calmUpon w u (.ok (.value u) w):=⟨rfl,rfl⟩
theorem Calm.of_same {o:Oper} {v:Value} {a a':Act} (hy:Calm P ops C o v a) (he:execOp a'.eval o = execOp a.eval o)
 (hw:Region.wanted o (yielded ops a'.tmps) = Region.wanted o (yielded ops a.tmps)):Calm P ops C o v a':=by
 unfold Calm at *
 rw [he,hw]
 exact hy
theorem Calm.wpOp {Q:Exit→Act→World→Prop} {i:Nat} {o:Oper} {v:Value} {a:Act} {w:World} {K:Act→World→Prop} (hi:ops[i]? = some o) (hy:Calm P ops C o v a) (hC:C w) (h:K (a.put o.dst v) w):wpOp P ops Q i K a w:=by
 unfold Go.wpOp
 simp only [hi]
 rcases hy with ⟨hw,hv⟩ | ⟨hw,rfl⟩
 ·simp only [hw,if_true]
  refine .inl ?_
  have h3:=hv w hC
  unfold Oper.wp
  generalize (execOp a.eval o).run P w = r at *
  cases r with
  | ok n w' =>
   cases n <;> simp only [calmUpon] at h3
   case value u =>
    obtain ⟨e1,e2⟩:=h3
    subst e1 e2
    exact h
  | halt x w'=>simp only [calmUpon] at h3
 ·simp only [hw,Bool.false_eq_true,if_false]
  exact h
def OnlyNormal (Q:Exit→Act→World→Prop):Prop:=∀ e a w,Q e a w→e = .normal
theorem wpOp_put {Q:Exit→Act→World→Prop} (hQ:OnlyNormal Q) {j:Nat} {oi oj:Oper} {v:Value} (hj:ops[j]? = some oj) (hap:oi.apart ops oj = true)
 (hsi:∀ cs b,oi.op≠.select cs b) (hsj:∀ cs b,oj.op≠.select cs b) {K:Act→World→Prop} {a:Act} {w:World}
 (hy:Calm P ops C oi v a) (h:wpOp P ops Q j K (a.put oi.dst v) w):wpOp P ops Q j (fun a' w'=>Calm P ops C oi v a'∧K (a'.put oi.dst v) w') a w:=by
 obtain ⟨h1,h2,h3⟩:=Oper.apart_spec hap
 have keep:∀ (a:Act),Calm P ops C oi v a→∀ u,Calm P ops C oi v (a.put oj.dst u):=fun a hy u =>
  hy.of_same (execOp_put oi hsi a oj.dst u h3) (wanted_put oi a oj.dst u h3)
 unfold wpOp at *
 simp only [hj] at *
 rw [wanted_put oj a oi.dst v h1] at h
 split
 ·rename_i hw
  simp only [hw,if_true] at h
  rcases h with h | ⟨_,a9,w9,h9⟩
  ·refine .inl ?_
   unfold Oper.wp at *
   rw [execOp_put oj hsj a oi.dst v h1] at h
   generalize (execOp a.eval oj).run P w = r at *
   cases r with
   | ok n w' =>
    cases n <;> simp only [Oper.upon] at h ⊢
    case value u=>exact ⟨keep a hy u,by rw [← Act.put_comm a v u h2]; exact h⟩
    case skip=>exact ⟨keep a hy _,by rw [← Act.put_comm a v undef h2]; exact h⟩
    case defer d =>
     have e3:({ a.put oi.dst v with defers:=d :: (a.put oi.dst v).defers }:Act) = ({ a with defers:=d :: a.defers }:Act).put oi.dst v:=by cases oi.dst <;> rfl
     have e4:({ a with defers:=d :: a.defers }:Act).put oj.dst undef = { a.put oj.dst undef with defers:=d :: a.defers }:=by cases oj.dst <;> rfl
     rw [e3] at h
     refine ⟨?_,by rw [← Act.put_comm _ v undef h2]; exact h⟩
     rw [e4]
     exact (keep a hy undef).of_same rfl rfl
    case enter f args =>
     refine Calls.mono h (fun e w'' he=>?_)
     cases e with
     | returned u=>exact ⟨keep a hy u,by rw [← Act.put_comm a v u h2]; exact he⟩
     | panicked chain=>exact absurd (hQ _ _ _ he) (by simp)
     | outgrown=>obtain ⟨_,_,hx⟩:=he; exact absurd (hQ _ _ _ hx) (by simp)
    case row rw args=>exact Rows.mono h (fun u w'' he=>⟨keep a hy u,by rw [← Act.put_comm a v u h2]; exact he⟩)
   | halt x w' =>
    cases x <;> simp only [Oper.upon] at h ⊢
    exact absurd (hQ _ _ _ h) (by simp)
  ·exact absurd (hQ _ _ _ h9) (by simp)
 ·rename_i hw
  simp only [hw] at h
  exact ⟨keep a hy _,by rw [← Act.put_comm a v undef h2]; exact h⟩
def wpAnyC (P:Program) (md:Region.Mode) (ops:Array Oper) (Q:Exit→Act→World→Prop) (C:World→Prop):Nat→Array Bool→Act→World→Prop
 | 0,listed,a,w=>C w∧Region.ready md ops listed = []∧Q .normal a w
 | f + 1,listed,a,w=>C w∧(Region.ready md ops listed = []→Q .normal a w)∧∀ i ∈ Region.ready md ops listed,wpOp P ops Q i (wpAnyC P md ops Q C f (listed.setIfInBounds i true)) a w
theorem wpAny_of_C {Q:Exit→Act→World→Prop}:∀ (f:Nat) (listed:Array Bool) (a:Act) (w:World),wpAnyC P md ops Q C f listed a w→wpAny P md ops Q f listed a w
 | 0,_,_,_,h=>h.2
 | f + 1,_,_,_,h=>⟨h.2.1,fun i hi=>wpOp_mono (fun a w h=>wpAny_of_C f _ a w h) (h.2.2 i hi)⟩
theorem wpAnyC_first {Q:Exit→Act→World→Prop} (hQ:OnlyNormal Q) {i:Nat} {oi:Oper} {v:Value} (hi:ops[i]? = some oi) (hsel:∀ (j:Nat) (o:Oper) cs b,ops[j]? = some o→o.op≠.select cs b) :
 ∀ (f:Nat) (listed:Array Bool) (a:Act) (w:World),
  (∀ j oj,ops[j]? = some oj→j≠i→listed.getD j true = false→(∀ e ∈ oj.after,Region.binds md e = true→e.on≠i)→oi.apart ops oj = true) →
  i ∈ Region.ready md ops listed→Calm P ops C oi v a →
  wpAnyC P md ops Q C f (listed.setIfInBounds i true) (a.put oi.dst v) w→wpAnyC P md ops Q C (f + 1) listed a w:=by
 intro f
 induction f with
 | zero =>
  intro listed a w _ hr hy H
  refine ⟨H.1,fun h=>(by rw [h] at hr; cases hr),fun j hj=>?_⟩
  by_cases hji:j = i
  ·subst hji; exact hy.wpOp hi H.1 H
  ·have:=ready_mono hj hji
   rw [H.2.1] at this
   cases this
 | succ f ih =>
  intro listed a w hfree hr hy H
  refine ⟨H.1,fun h=>(by rw [h] at hr; cases hr),fun j hj=>?_⟩
  by_cases hji:j = i
  ·subst hji; exact hy.wpOp hi H.1 H
  ·have h1:=H.2.2 j (ready_mono hj hji)
   obtain ⟨hjun,oj,hoj,hall⟩:=mem_ready.1 hj
   have hnot:∀ e ∈ oj.after,Region.binds md e = true→e.on≠i:=fun e he hb heq=>by
    have h1:=hall e he hb
    have h0:=(mem_ready.1 hr).1
    rw [heq] at h1
    rcases Nat.lt_or_ge i listed.size with h' | h'
    ·simp [h'] at h0 h1; rw [h0] at h1; cases h1
    ·simp [Array.getElem?_eq_none h'] at h1
   have h2:=wpOp_put hQ hoj (hfree j oj hoj hji hjun hnot) (fun cs b=>hsel i oi cs b hi) (fun cs b=>hsel j oj cs b hoj) hy h1
   have hfree':∀ k ok,ops[k]? = some ok→k≠i→(listed.setIfInBounds j true).getD k true = false →
    (∀ e ∈ ok.after,Region.binds md e = true→e.on≠i)→oi.apart ops ok = true:=fun k ok hk hki hun hno=>by
    refine hfree k ok hk hki ?_ hno
    by_cases hjk:j = k
    ·subst hjk; exact hjun
    ·rw [getD_set_ne true hjk] at hun; exact hun
   refine wpOp_mono (fun a' w' h3=>ih (listed.setIfInBounds j true) a' w' hfree' (ready_mono hr (Ne.symm hji)) h3.1 ?_) h2
   rw [Array.setIfInBounds_comm _ _ hji]
   exact h3.2
def pick (l:List Oper) (is:List Nat):List Oper:=is.filterMap fun i=>l[i]?
def fin (is:List Nat) (listed:Array Bool):Array Bool:=is.foldl (fun r i=>r.setIfInBounds i true) listed
def headsB (md:Region.Mode) (ops:Array Oper):List Nat→Array Bool→Bool
 | [],_=>true
 | i :: is,listed=>(Region.ready md ops listed).contains i && Region.free md ops listed i && headsB md ops is (listed.setIfInBounds i true)
theorem wpAnyC_heads {l:List Oper} {Q:Exit→Act→World→Prop} (hQ:OnlyNormal Q) (hsel:Region.noSelect l.toArray = true):∀ (is:List Nat) (f:Nat) (listed:Array Bool) (a:Act) (w:World),
 headsB md l.toArray is listed = true→wpCalm P l.toArray C (fun a'=>wpAnyC P md l.toArray Q C f (fin is listed) a' w) (pick l is) a→wpAnyC P md l.toArray Q C (f + is.length) listed a w
 | [],f,listed,a,w,_,h=>h
 | i :: is,f,listed,a,w,hB,h=>by
  simp only [headsB,Bool.and_eq_true] at hB
  obtain ⟨⟨hr,hf⟩,hB'⟩:=hB
  have hr':i ∈ Region.ready md l.toArray listed:=by simpa using hr
  obtain ⟨_,o,ho,_⟩:=mem_ready.1 hr'
  have ho':l[i]? = some o:=by simpa using ho
  have hp:pick l (i :: is) = o :: pick l is:=by unfold pick; rw [List.filterMap_cons,ho']
  rw [hp] at h
  show wpAnyC P md l.toArray Q C ((f + is.length) + 1) listed a w
  unfold wpCalm at h
  by_cases hw:Region.wanted o (yielded l.toArray a.tmps) = true
  ·rw [if_pos hw] at h
   obtain ⟨v,h1,h2⟩:=h
   exact wpAnyC_first hQ ho (Region.noSelect_spec hsel) _ listed a w (Region.free_spec ho hf) hr' (.inl ⟨hw,h1⟩) (wpAnyC_heads hQ hsel is f _ _ w hB' h2)
  ·rw [if_neg hw] at h
   exact wpAnyC_first hQ ho (Region.noSelect_spec hsel) _ listed a w (Region.free_spec ho hf) hr' (.inr ⟨by simpa using hw,rfl⟩) (wpAnyC_heads hQ hsel is f _ _ w hB' h)
def Then1 (K:Act→World→Prop):Exit→Act→World→Prop
 | .normal,a,w=>K a w
 | _,_,_=>False
theorem Then1.mk {K:Act→World→Prop} {a:Act} {w:World} (h:K a w):Then1 K .normal a w:=h
theorem wpOp_of_list {Q:Exit→Act→World→Prop} {i:Nat} {o:Oper} {K:Act→World→Prop} {a:Act} {w:World} (hi:ops[i]? = some o) (h:wpList P ops (Then1 K) [o] a w):wpOp P ops Q i K a w:=by
 unfold wpOp
 simp only [hi]
 unfold wpList at h
 split
 ·rename_i q
  rw [if_pos q] at h
  rcases h with h | ⟨_,a9,w9,h9⟩
  ·refine .inl ?_
   unfold Oper.wp at *
   generalize (execOp a.eval o).run P w = r at *
   cases r with
   | ok n w' =>
    cases n <;> first | exact h | skip
    case enter f args=>exact Calls.mono h (fun e w'' he=>by cases e <;> first | exact he | exact (he:False).elim | (obtain ⟨_,_,hx⟩:=he; exact (hx:False).elim))
   | halt x w'=>cases x <;> first | exact (h:False).elim | exact h
  ·exact (h9:False).elim
 ·rename_i q
  rw [if_neg q] at h
  exact h
theorem wpAnyC_node {Q:Exit→Act→World→Prop} {f:Nat} {listed:Array Bool} {a:Act} {w:World} {i:Nat} {rs:List Nat} (hr:Region.ready md ops listed = i :: rs) (hC:C w)
 (h:∀ j ∈ i :: rs,wpOp P ops Q j (wpAnyC P md ops Q C f (listed.setIfInBounds j true)) a w):wpAnyC P md ops Q C (f + 1) listed a w:=
 ⟨hC,fun h0=>(by rw [hr] at h0; cases h0),fun j hj=>h j (by rw [hr] at hj; exact hj)⟩
theorem all1 {p:Nat→Prop} {i:Nat} (h:p i):∀ j ∈ [i],p j:=fun j hj=>by rw [List.mem_singleton.1 hj]; exact h
theorem all2 {p:Nat→Prop} {i k:Nat} (h:p i) (h2:p k):∀ j ∈ [i,k],p j:=fun j hj=>by
 rcases List.mem_cons.1 hj with rfl | hj
 ·exact h
 ·rw [List.mem_singleton.1 hj]; exact h2
theorem wpAnyC_leaf {Q:Exit→Act→World→Prop} {f:Nat} {listed:Array Bool} {a:Act} {w:World} (hr:Region.ready md ops listed = []) (hC:C w) (h:Q .normal a w):wpAnyC P md ops Q C f listed a w:=by
 cases f with
 | zero=>exact ⟨hC,hr,h⟩
 | succ f=>exact ⟨hC,fun _=>h,fun i hi=>(by rw [hr] at hi; cases hi)⟩
theorem wp_region_calm {id:Nat} {Q:Exit→Act→World→Prop} {a:Act} {w:World} {l:List Oper} (C:World→Prop) (hm:P.follows .mixedOrders = true) (h:wpAnyC P .any l.toArray Q C l.toArray.size (Array.replicate l.toArray.size false) a w.drew):(Code.region id l.toArray true).wp P Q a w:=
 wp_region_any hm (wpAny_of_C _ _ _ _ h)
def OneOut (R:Act→World→Prop):Exit→Act→World→Prop
 | .normal,a,w=>R a w
 | _,_,_=>False
theorem OneOut.mk {R:Act→World→Prop} {a:Act} {w:World} (h:R a w):OneOut R .normal a w:=h
theorem oneOut_normal {R:Act→World→Prop}:OnlyNormal (OneOut R):=fun e a w h=>by
 cases e <;> first | rfl | exact (h:False).elim
theorem OneOut.imp {R:Act→World→Prop} {Q:Exit→Act→World→Prop} (k:∀ a w,R a w→Q .normal a w):∀ (e:Exit) (a:Act) (w:World),OneOut R e a w→Q e a w:=fun e a w h=>by
 cases e <;> first | exact k a w h | exact (h:False).elim
end
end Go.Proofs.YtajmjkliblippaaGreatDoor
