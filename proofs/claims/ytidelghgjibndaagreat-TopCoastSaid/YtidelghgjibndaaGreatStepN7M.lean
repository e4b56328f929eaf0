/-
  The walk of navigator.Step without reports.
-/
import Derived.Test.YtidelghgjibndaaGreatM7t8
import Derived.Test.YtidelghgjibndaaGreatSafe7M
namespace Go.Proofs.YtidelghgjibndaaGreat
set_option linter.unusedVariables false
open Go.RowKit

theorem stpE_nil (b : Bx4) (t m tick ve vn dr rq : Int) : stpE2 b t m tick ve vn dr rq ([] : List Rp).length = stpE b t m tick ve vn dr rq := by
  unfold stpE2 stpE
  rw [show ([] : List Rp).length = 0 from rfl, if_neg (show ¬ (8 < 0) by omega)]
theorem step_bad0 (b : Bx4) (t m tick ve vn dr rq : Int) (w : World) (he : stpE b t m tick ve vn dr rq ≠ 0) (ht : -9223372036854775808 ≤ tick - t ∧ tick - t ≤ 9223372036854775807) :
    Calls Tryz.prog 15 #[.agg #[.int .i64 b.cx, .int .i64 b.cy, .int .i64 b.x, .int .i64 b.y, .int .i64 t, .int .i64 m], .agg #[.int .i64 tick, .slice none 0 0, .int .i64 ve, .int .i64 vn, .int .i64 dr, .int .i64 rq]] w fun e w' => e = .returned (.tuple #[.agg #[.int .i64 0, .int .i64 0, .int .i64 0, .int .i64 0, .int .i64 0, .int .i64 0], .agg #[.int .i64 0, .int .i64 0, .int .i64 0, .int .i64 0, .bool false, .int .i64 0], .int .i64 (stpE b t m tick ve vn dr rq)]) ∧ Below w.heap.size w w' := by
  have h := step_badR b t m tick ve vn dr rq [] (.slice none 0 0) w (rg_nil w) (by simp) (by rw [stpE_nil]; exact he)
  rw [stpE_nil] at h
  exact h
theorem step_ok0 (b : Bx4) (t m tick ve vn dr rq : Int) (w : World) (he : stpE b t m tick ve vn dr rq = 0) :
    Calls Tryz.prog 15 #[.agg #[.int .i64 b.cx, .int .i64 b.cy, .int .i64 b.x, .int .i64 b.y, .int .i64 t, .int .i64 m], .agg #[.int .i64 tick, .slice none 0 0, .int .i64 ve, .int .i64 vn, .int .i64 dr, .int .i64 rq]] w fun e w' => e = .returned (.tuple #[.agg #[.int .i64 (movB b ve vn dr (tick - t)).cx, .int .i64 (movB b ve vn dr (tick - t)).cy, .int .i64 (movB b ve vn dr (tick - t)).x, .int .i64 (movB b ve vn dr (tick - t)).y, .int .i64 tick, .int .i64 (min (m + 1) 1000)], .agg #[.int .i64 (movB b ve vn dr (tick - t)).cx, .int .i64 (movB b ve vn dr (tick - t)).cy, .int .i64 (movB b ve vn dr (tick - t)).x, .int .i64 (movB b ve vn dr (tick - t)).y, .bool (useB (movB b ve vn dr (tick - t)).x (movB b ve vn dr (tick - t)).y rq), .int .i64 0], .int .i64 0]) ∧ Below w.heap.size w w' := by
  have h := step_okR b t m tick ve vn dr rq [] (.slice none 0 0) w (rg_nil w) (fun i hi => absurd hi (by simp)) (by rw [stpE_nil]; exact he)
  rw [stp_nil] at h
  exact h
end Go.Proofs.YtidelghgjibndaaGreat
