/-
  Two places are just so far apart, and near, or not: what the program's Far and Near answer is what the document's do.
-/
import Derived.Test.YtcfejagfognipaaPlFarLaw
import Derived.Test.YtcfejagfognipaaPurLaid
import Derived.Test.YtcfejagfognipaaPurFarA
namespace Go.Proofs.Ytcfejagfognipaa.Pure
open Go.RowKit Go.Proofs.Ytcfejagfognipaa.Pl Go.Proofs.YtcfejagfognipaaW.PrintWords Go.Proofs.YtcfejagfognipaaW.PrintLast Go.Proofs.YtcfejagfognipaaW.PrintMore

theorem PlaceFar : cleatlaw24_PlaceFar.Pure := by
  intro a b c _ _ _
  refine ⟨8, ?_⟩
  unfold cleatlaw24_PlaceFar.f
  obtain ⟨r, hr⟩ := near_some a b c
  obtain ⟨q, hq⟩ : ∃ q, place_Far.f a b = some q := ⟨_, rfl⟩
  rw [laid_8, far_same, near_same, hr, hq]
  simp
end Go.Proofs.Ytcfejagfognipaa.Pure
