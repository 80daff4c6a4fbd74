/-
  As far as one place is from another one, it is back; near is near.
-/
import Derived.Test.YtcfejagfognipaaPlBack
import Derived.Test.YtcfejagfognipaaPurLaid
import Derived.Test.YtcfejagfognipaaPurA
namespace Go.Proofs.Ytcfejagfognipaa.Pure
open Go.RowKit Go.Proofs.Ytcfejagfognipaa.Pl Go.Proofs.YtcfejagfognipaaW.PrintWords Go.Proofs.YtcfejagfognipaaW.PrintLast Go.Proofs.YtcfejagfognipaaW.PrintMore

theorem back_is (a b : Int) (_ha : 0 ≤ a) (_ha2 : a < 18446744073709551616) (hb : 0 ≤ b) (hb2 : b < 18446744073709551616) :
    IntKind.u64.wrap (a + IntKind.u64.wrap (wrap64 (IntKind.u64.wrap (b - a)))) = b := by
  rw [wrap_u64, wrap_u64, wrap_u64]
  unfold wrap64
  omega

theorem PlaceBack : cleatlaw24_PlaceBack.Pure := by
  intro a b c h1 h2 h3
  obtain ⟨ha, ha2⟩ := wf_u64 h1
  obtain ⟨hb, hb2⟩ := wf_u64 h2
  obtain ⟨hc, hc2⟩ := wf_i64 h3
  refine ⟨10, ?_⟩
  unfold cleatlaw24_PlaceBack.f
  have e1 : place_Far.f a b = some (wrap64 (IntKind.u64.wrap (b - a))) := rfl
  have e2 : place_Far.f b a = some (wrap64 (IntKind.u64.wrap (a - b))) := rfl
  rw [e1, e2]
  simp only [Option.bind_some]
  rw [if_pos (back_is a b ha ha2 hb hb2), back_is b a hb hb2 ha ha2]
  have e3 : (a != a) = false := by simp
  rw [e3]
  simp only [cleatlaw24_PlaceBack.j0]
  rw [if_neg (by decide)]
  have near : place_Near.f a b c = (if c ≥ 0 then (if wrap64 (IntKind.u64.wrap (b - a)) ≥ wrap64 (-c) then some (decide (wrap64 (IntKind.u64.wrap (b - a)) ≤ wrap64 (c - 4))) else some false) else some false) := rfl
  have hl : cleatlaw24_laid.f 8 = some true := laid_8
  have out : ∀ r : Bool, r = true → (c < 4 ∨ c > 1000000000) → cleatlaw24_PlaceBack.j1 9 a b c r = some true := by
    intro r hr hcc
    subst hr
    simp only [cleatlaw24_PlaceBack.j1]
    rw [if_pos trivial, hl]
    simp only [Option.bind_some]
    rw [if_pos trivial]
    by_cases h0 : c ≥ 0
    · rw [if_pos h0]
    · rw [if_neg h0, near, if_neg h0]; rfl
  by_cases h4 : c < 4
  · rw [if_pos h4]; exact out _ rfl (.inl h4)
  · rw [if_neg h4]
    by_cases h5 : c > 1000000000
    · rw [decide_eq_true h5]; exact out _ rfl (.inr h5)
    · rw [decide_eq_false h5]
      simp only [cleatlaw24_PlaceBack.j1]
      rw [if_neg (by decide), hl]
      simp only [Option.bind_some]
      have h0 : c ≥ 0 := by omega
      rw [if_pos trivial, near, if_pos h0]
      rw [wrap_u64, wrap_u64, wrap_u64, wrap_u64]
      unfold wrap64
      by_cases g1 : (((b - a) % 18446744073709551616 + 9223372036854775808) % 18446744073709551616 - 9223372036854775808) ≥ ((-c + 9223372036854775808) % 18446744073709551616 - 9223372036854775808)
      · rw [if_pos g1]
        simp only [Option.bind_some]
        by_cases g2 : (b - a) % 18446744073709551616 ≤ (c % 18446744073709551616 - 4) % 18446744073709551616
        · rw [if_pos g2, decide_eq_true (by omega)]; rfl
        · rw [if_neg g2]
          by_cases g3 : (a - b) % 18446744073709551616 ≤ c % 18446744073709551616
          · rw [decide_eq_true g3, decide_eq_true (by omega)]; rfl
          · rw [decide_eq_false g3, decide_eq_false (by omega)]; rfl
      · rw [if_neg g1]
        simp only [Option.bind_some]
        rw [if_neg (by omega), decide_eq_false (by omega)]; rfl
end Go.Proofs.Ytcfejagfognipaa.Pure
