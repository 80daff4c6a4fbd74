/-
  Up of Up is Up; it is less than one step above; a multiple of more is one of less.
-/
import Derived.Test.YtcfejagfognipaaPlUpLaw
import Derived.Test.YtcfejagfognipaaPurLaid
import Derived.Test.YtcfejagfognipaaPurA
namespace Go.Proofs.Ytcfejagfognipaa.Pure
open Go.RowKit Go.Proofs.Ytcfejagfognipaa.Pl Go.Proofs.YtcfejagfognipaaW.PrintWords Go.Proofs.YtcfejagfognipaaW.PrintLast Go.Proofs.YtcfejagfognipaaW.PrintMore

theorem up_j0_bad (a n m e : Int) (he : e ≠ 0) : cleatlaw24_PlaceUp.j0 12 a n m 0 e true = some true := by
  simp only [cleatlaw24_PlaceUp.j0]
  rw [if_pos trivial, laid_ok 11 (by omega)]
  simp only [Option.bind_some]
  rw [if_pos trivial, if_neg he]
  rfl

theorem up_j2_out (a m x : Int) : cleatlaw24_PlaceUp.j2 10 a m x true = some true := by
  simp only [cleatlaw24_PlaceUp.j2]
  rw [if_pos trivial, laid_ok 9 (by omega)]
  rfl

theorem up_in (a n m : Nat) (hn : n ≤ 12) (hm : m ≤ n) (ha : a ≤ 9223372036854775808) : cleatlaw24_PlaceUp.j2 10 (a : Int) (m : Int) ((upv a n : Nat) : Int) false = some true := by
  have h1 := upv_le a 9223372036854775808 n ha (mod_less 9223372036854775808 n 12 hn (by decide))
  have h2 := upv_self (upv a n) m (mod_less _ m n hm (upv_mod a n))
  have h3 := upv_le a (upv a n) m (upv_ge a n) (mod_less _ m n hm (upv_mod a n))
  simp only [cleatlaw24_PlaceUp.j2]
  rw [if_neg (by decide), up_ok 8 (upv a n) m (by omega) h1, up_ok 8 a m (by omega) ha, laid_ok 9 (by omega)]
  simp only [Option.bind_some]
  rw [if_pos trivial, if_pos trivial, h2, if_pos rfl, if_pos trivial, decide_eq_true (by omega)]

theorem PlaceUp : cleatlaw24_PlaceUp.Pure := by
  intro a0 n0 m0 h1 h2 h3
  obtain ⟨ha, ha2⟩ := wf_u64 h1
  refine ⟨12, ?_⟩
  unfold cleatlaw24_PlaceUp.f
  by_cases hn : n0 < 0
  · rw [up_arg 11 a0 n0 (.inl hn)]
    simp only [Option.bind_some]
    rw [if_pos hn]
    exact up_j0_bad _ _ _ _ (by decide)
  by_cases hn2 : n0 > 12
  · rw [up_arg 11 a0 n0 (.inr hn2)]
    simp only [Option.bind_some]
    rw [if_neg hn, if_pos hn2]
    exact up_j0_bad _ _ _ _ (by decide)
  by_cases hb : a0 > 9223372036854775808
  · rw [up_range 11 a0 n0 (by omega) (by omega) hb]
    simp only [Option.bind_some]
    rw [if_neg hn, if_neg hn2, decide_eq_true hb]
    exact up_j0_bad _ _ _ _ (by decide)
  obtain ⟨a, rfl⟩ : ∃ a : Nat, a0 = (a : Int) := ⟨a0.toNat, by omega⟩
  obtain ⟨n, rfl⟩ : ∃ n : Nat, n0 = (n : Int) := ⟨n0.toNat, by omega⟩
  rw [up_ok 11 a n (by omega) (by omega)]
  simp only [Option.bind_some]
  rw [if_neg hn, if_neg hn2, decide_eq_false hb]
  have g1 := upv_ge a n
  have g2 := upv_lt a n
  have g3 := upv_mod a n
  have hp := pow_le n (by omega)
  have hp0 : 0 < 2 ^ n := Nat.pow_pos (by decide)
  simp only [cleatlaw24_PlaceUp.j0]
  rw [if_neg (by decide), if_pos trivial, if_neg (by omega), if_pos (by omega), shl_pow n (by omega)]
  have e1 : IntKind.u64.wrap (((upv a n : Nat) : Int) - (a : Int)) = ((upv a n - a : Nat) : Int) := by
    rw [wrap_u64]; omega
  have e2 : Int.tmod ((upv a n : Nat) : Int) ((2 ^ n : Nat) : Int) = 0 := by
    rw [Int.tmod_eq_emod_of_nonneg (by omega), ← Int.natCast_emod, g3]; rfl
  rw [e1, if_neg (by omega), if_neg (by omega), e2]
  have e3 : ((0 : Int) != 0) = false := by decide
  rw [e3]
  simp only [cleatlaw24_PlaceUp.j1]
  rw [if_neg (by decide)]
  by_cases hm : m0 < 0
  · rw [if_pos hm]; exact up_j2_out _ _ _
  · rw [if_neg hm]
    by_cases hm2 : m0 > (n : Int)
    · rw [decide_eq_true hm2]; exact up_j2_out _ _ _
    · rw [decide_eq_false hm2]
      obtain ⟨m, rfl⟩ : ∃ m : Nat, m0 = (m : Int) := ⟨m0.toNat, by omega⟩
      exact up_in a n m (by omega) (by omega) (by omega)
end Go.Proofs.Ytcfejagfognipaa.Pure
