/-
  A row of numbers is the same as itself, says the reference's Same. Condition: at most 400 numbers.
-/
import Derived.Test.YtcfejagfognipaaPlSame
import Derived.Test.YtcfejagfognipaaPurLay
namespace Go.Proofs.Ytcfejagfognipaa.Pure
open Go.RowKit Go.Proofs.Ytcfejagfognipaa.Pl Go.Proofs.YtcfejagfognipaaW.PrintWords Go.Proofs.YtcfejagfognipaaW.PrintLast Go.Proofs.YtcfejagfognipaaW.PrintMore

theorem same_l0 (xs : List Int) (hl : xs.length ≤ 400) : ∀ (d k i : Nat), i + d = xs.length → d < k → cleatref24_Same.l0 k xs xs (i : Int) = some true := by
  intro d
  induction d with
  | zero =>
    intro k i hi hk
    obtain ⟨k, rfl⟩ : ∃ m, k = m + 1 := ⟨k - 1, by omega⟩
    simp only [cleatref24_Same.l0]
    rw [if_neg (by omega)]
  | succ d ih =>
    intro k i hi hk
    obtain ⟨k, rfl⟩ : ∃ m, k = m + 1 := ⟨k - 1, by omega⟩
    have ih' := ih k (i + 1) (by omega) (by omega)
    simp only [cleatref24_Same.l0]
    rw [if_pos (by omega), if_pos (by omega), if_pos (by omega), if_pos trivial, wrap_next (by omega) hl]
    exact ih'
theorem same_ok (xs : List Int) (hl : xs.length ≤ 400) (k : Nat) (hk : 401 ≤ k) : cleatref24_Same.f k xs xs = some true := by
  unfold cleatref24_Same.f
  rw [if_pos rfl]
  exact same_l0 xs hl xs.length k 0 (by omega) (by omega)
end Go.Proofs.Ytcfejagfognipaa.Pure
