/- Written by this session's own program (xprint, made over the kit's print): Lean functions with the same answers as the Go functions, and the proofs of that. Not trusted: Lean checks it. -/
import Derived.Test.YtkijneohhilboaaDoorPOx0
import Derived.Test.YtkijneohhilboaaDoorXW
import Derived.Test.YtkijneohhilboaaDoorXZ
namespace Go.Proofs.YtkijneohhilboaaDoor.PO
open Go.Proofs.YtkijneohhilboaaDoor.XZ
open Go.Proofs.YtkijneohhilboaaDoor.XW
open Go.RowKit Go.Proofs.YtkijneohhilboaaDoorW.PrintWords Go.Proofs.YtkijneohhilboaaDoorW.PrintLast Go.Proofs.YtkijneohhilboaaDoorW.PrintMore
attribute [local go_sem] max2_int min2_int max_two min_two max_three min_three max_four min_four   -- for this text's walks alone
set_option linter.unusedVariables false
set_option linter.unusedSimpArgs false

theorem eqA43 (d : Nat) (w : World) (x0 y0 : Int) (x1 y1 : Bool) (x2 y2 : ByteArray) (x3 y3 : ByteArray) :
  (Op.equalIn (d + 2) 43 (.agg #[.int .i64 x0, .bool x1, .string x2, .string x3]) (.agg #[.int .i64 y0, .bool y1, .string y2, .string y3])).run Tryd.prog w = .ok (x0 == y0 && (x1 == y1 && (x2.toList == y2.toList && (x3.toList == y3.toList)))) w := by
 refine eqA_of Tryd.underlying43 (by kernel_rfl) ?_
 refine eqf_cons (by rfl) (by go_simp; rfl) (by go_simp; rfl) (by go_simp) ?_
 refine eqf_cons (by rfl) (by go_simp; rfl) (by go_simp; rfl) (by go_simp) ?_
 refine eqf_cons (by rfl) (by go_simp; rfl) (by go_simp; rfl) (by go_simp) ?_
 exact eqf_last (by rfl) (by go_simp; rfl) (by go_simp; rfl) (by go_simp)
end Go.Proofs.YtkijneohhilboaaDoor.PO
