/-
  The document's rows of layer 24 hold.
-/
import Derived.Test.YtcfejagfognipaaPlLaid
import Derived.KernelRfl
namespace Go.Proofs.Ytcfejagfognipaa.Pure
open Go.RowKit Go.Proofs.Ytcfejagfognipaa.Pl Go.Proofs.YtcfejagfognipaaW.PrintWords Go.Proofs.YtcfejagfognipaaW.PrintLast Go.Proofs.YtcfejagfognipaaW.PrintMore

theorem laid_8 : cleatlaw24_laid.f 8 = some true := by kernel_rfl
theorem laid_ok (k : Nat) (h : 8 ≤ k) : cleatlaw24_laid.f k = some true := at_rounds cleatlaw24_laid.mono h laid_8
end Go.Proofs.Ytcfejagfognipaa.Pure
