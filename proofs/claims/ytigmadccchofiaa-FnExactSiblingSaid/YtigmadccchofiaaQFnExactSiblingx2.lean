-- Written by a program of this session (wip/myprint.py); Lean checks it.
import Derived.Test.YtigmadccchofiaaQFnExactSiblingx0
import Derived.Test.YtigmadccchofiaaQFnExactSiblingx1
namespace Go.Proofs.Ytigmadccchofiaa.QFnExactSibling
open Go.RowKit Go.Proofs.YtigmadccchofiaaW.PrintWords Go.Proofs.YtigmadccchofiaaW.PrintLast Go.Proofs.YtigmadccchofiaaW.PrintMore
attribute [local go_sem] max2_int min2_int max_two min_two max_three min_three max_four min_four   -- for this text's walks alone
set_option linter.unusedVariables false
set_option linter.unusedSimpArgs false

attribute [local go_sem] isSome_setCell
theorem eqA32 (d : Nat) (w : World) (x0 y0 : Bool) (x1 y1 : Int) (x2 y2 : Int) (x3 y3 : Int) :
    (Op.equalIn (d + 3) 32 (.agg #[.bool x0, .int .i64 x1, .int .i64 x2, .int .i64 x3]) (.agg #[.bool y0, .int .i64 y1, .int .i64 y2, .int .i64 y3])).run Try.prog w = .ok ((x0 == y0 && (x1 == y1 && (x2 == y2))) && (x3 == y3)) w := by
  refine eqA_of Try.underlying32 (by kernel_rfl) ?_
  refine eqf_cons (by rfl) (by go_simp) (by go_simp) (eqA26 (d + 0) w _ _ _ _ _ _) ?_
  exact eqf_last (by rfl) (by go_simp; rfl) (by go_simp; rfl) (by go_simp)
end Go.Proofs.Ytigmadccchofiaa.QFnExactSibling
