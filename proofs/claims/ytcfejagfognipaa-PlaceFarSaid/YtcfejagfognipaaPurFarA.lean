/-
  Plain laws of Far and Near, of the program and of the reference.
-/
import Derived.Test.YtcfejagfognipaaPlFar
import Derived.Test.YtcfejagfognipaaPlRefFar
import Derived.Test.YtcfejagfognipaaPurA
namespace Go.Proofs.Ytcfejagfognipaa.Pure
open Go.RowKit Go.Proofs.Ytcfejagfognipaa.Pl Go.Proofs.YtcfejagfognipaaW.PrintWords Go.Proofs.YtcfejagfognipaaW.PrintLast Go.Proofs.YtcfejagfognipaaW.PrintMore

theorem far_same (a b : Int) : cleatref24_Far.f a b = place_Far.f a b := by
  unfold cleatref24_Far.f place_Far.f
  split
  · rfl
  · rename_i h
    congr 1
    rw [wrap_u64] at h ⊢
    rw [wrap_u64]
    unfold wrap64
    omega

theorem near_same (a b c : Int) : cleatref24_Near.f a b c = place_Near.f a b c := by
  unfold cleatref24_Near.f place_Near.f
  rw [far_same]
  unfold place_Far.f
  simp only [Option.bind_some]
  by_cases h : c < 0
  · rw [if_pos h, if_neg (by omega)]
  · have h2 : c ≥ 0 := by omega
    rw [if_neg h, if_pos h2]

theorem near_some (a b c : Int) : ∃ r, place_Near.f a b c = some r := by
  unfold place_Near.f place_Far.f
  simp only [Option.bind_some]
  split
  · split
    · exact ⟨_, rfl⟩
    · exact ⟨_, rfl⟩
  · exact ⟨_, rfl⟩
end Go.Proofs.Ytcfejagfognipaa.Pure
