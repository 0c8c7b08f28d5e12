/- Texts of MergeFirst. Merged: Px1. -/
import Derived.Test.YtfiandejapgkoaaQMergeFirstPx0
namespace Go.Proofs.Ytfiandejapgkoaa.P
open Go.RowKit Go.Proofs.YtfiandejapgkoaaW.PrintWords Go.Proofs.YtfiandejapgkoaaW.PrintLast Go.Proofs.YtfiandejapgkoaaW.PrintMore
attribute [local go_sem] max2_int min2_int max_two min_two max_three min_three max_four min_four   -- for this text's walks alone
set_option linter.unusedVariables false
set_option linter.unusedSimpArgs false
theorem eqA31 (d : Nat) (w : World) (x0 y0 : Int) (x1 y1 : ByteArray) :
  (Op.equalIn (d + 2) 31 (.agg #[.int .i64 x0,.string x1]) (.agg #[.int .i64 y0,.string y1])).run Try.prog w=.ok (x0 == y0 && (x1.toList == y1.toList)) w:=by
 refine eqA_of Try.underlying31 (by kernel_rfl) ?_
 refine eqf_cons (by rfl) (by go_simp;rfl) (by go_simp;rfl) (by go_simp) ?_
 exact eqf_last (by rfl) (by go_simp;rfl) (by go_simp;rfl) (by go_simp)
end Go.Proofs.Ytfiandejapgkoaa.P

