/-
  Blocks are aligned, and do not overlap; between two is less than the second one's alignment.
-/
import Derived.Test.YtcfejagfognipaaPlApart
import Derived.Test.YtcfejagfognipaaPurLaid
import Derived.Test.YtcfejagfognipaaPurLay
namespace Go.Proofs.Ytcfejagfognipaa.Pure
open Go.RowKit Go.Proofs.Ytcfejagfognipaa.Pl Go.Proofs.YtcfejagfognipaaW.PrintWords Go.Proofs.YtcfejagfognipaaW.PrintLast Go.Proofs.YtcfejagfognipaaW.PrintMore

theorem rd_at (xs : List Int) (i : Nat) (x : Int) (r : List Int) (h : xs.drop i = x :: r) : rd xs (i : Int) = x ∧ i < xs.length ∧ xs.drop (i + 1) = r := by
  have hlt : i < xs.length := by
    refine Classical.byContradiction fun hn => ?_
    rw [List.drop_eq_nil_of_le (by omega)] at h
    cases h
  rw [List.drop_eq_getElem_cons hlt] at h
  injection h with h1 h2
  refine ⟨?_, hlt, h2⟩
  unfold rd
  simp [List.getD, hlt, h1]

theorem apart_l0 (l : List S34) (hl : l.length ≤ 400) (hf : ∀ b ∈ l, Fine b) (xs : List Int) (fin : Nat) (k : Nat) (hk : 8 ≤ k) : ∀ (d i e : Nat), i + d = l.length → xs.drop i = ints (layF (l.drop i) e).1 → fin = (layF (l.drop i) e).2 → e ≤ 4611686018427387904 + i * 20480 →
    cleatlaw24_PlaceApart.l0 (d + 1 + k) l xs (fin : Int) (e : Int) (i : Int) = some true := by
  intro d
  induction d with
  | zero =>
    intro i e hi hx he hb
    rw [List.drop_eq_nil_of_le (show l.length ≤ i by omega)] at he
    rw [show 0 + 1 + k = k + 1 from by omega]
    have hl8 := laid_ok k hk
    generalize k = K at hl8 ⊢
    simp only [cleatlaw24_PlaceApart.l0]
    rw [if_neg (by omega), hl8]
    simp [he, layF]
  | succ d ih =>
    intro i e hi hx he hb
    have hlt : i < l.length := by omega
    obtain ⟨b, hrd, hg⟩ : ∃ b, rd_T34 l (i : Int) = b ∧ l[i] = b := ⟨_, rfl, by rw [rd_T34_at, getD_at _ _ hlt]⟩
    have hm : b ∈ l := by rw [← hg]; exact List.getElem_mem _
    obtain ⟨h1, h2, h3, h4⟩ := hf b hm
    obtain ⟨n, hn⟩ : ∃ n : Nat, b.f1 = (n : Int) := ⟨b.f1.toNat, by omega⟩
    obtain ⟨s, hs⟩ : ∃ s : Nat, b.f0 = (s : Int) := ⟨b.f0.toNat, by omega⟩
    rw [List.drop_eq_getElem_cons hlt, hg] at hx he
    simp only [layF, hn, hs, Int.toNat_natCast, ints, List.map_cons] at hx he
    obtain ⟨hx1, hx2, hx3⟩ := rd_at xs i _ _ hx
    have g1 := upv_ge e n
    have g2 := upv_lt e n
    have g3 := upv_mod e n
    have hp := pow_le n (by omega)
    have hp0 : 0 < 2 ^ n := Nat.pow_pos (by decide)
    have ih' := ih (i + 1) (upv e n + s) (by omega) hx3 he (by omega)
    have e1 : IntKind.u64.wrap (((upv e n : Nat) : Int) - (e : Int)) = ((upv e n - e : Nat) : Int) := by rw [wrap_u64]; omega
    have e2 : Int.tmod ((upv e n : Nat) : Int) ((2 ^ n : Nat) : Int) = 0 := by
      rw [Int.tmod_eq_emod_of_nonneg (by omega), ← Int.natCast_emod, g3]; rfl
    have e3 : IntKind.u64.wrap (((upv e n : Nat) : Int) + IntKind.u64.wrap (s : Int)) = ((upv e n + s : Nat) : Int) := by
      rw [wrap_u64, wrap_u64]; omega
    rw [show d + 1 + 1 + k = (d + 1 + k) + 1 from by omega]
    generalize d + 1 + k = K at ih' ⊢
    simp only [cleatlaw24_PlaceApart.l0]
    rw [hrd, hx1, hn, hs, shl_pow n (by omega), if_pos (by omega), if_pos (by omega), if_pos (by omega), if_pos (by omega), if_neg (by omega), e1, if_neg (by omega), if_neg (by omega), e2, if_pos rfl, e3, wrap_next hlt hl]
    exact ih'

/-- The statement over lists and numbers. -/
theorem PlaceApart (l : List S34) (a : Int) (ha : 0 ≤ a) : ∃ k, cleatlaw24_PlaceApart.f k l a = some true := by
  refine ⟨1000, ?_⟩
  unfold cleatlaw24_PlaceApart.f
  by_cases hl : (l.length : Int) > 300
  · rw [if_pos hl]
  rw [if_neg hl, lay_is l a ha (by omega) 1000 (by omega)]
  simp only [Option.bind_some]
  have bad : ∀ e : Int, e ≠ 0 → (if e = 0 then (if ((([] : List Int), (0 : Int), e).1.length : Int) = (l.length : Int) then cleatlaw24_PlaceApart.l0 1000 l [] 0 a 0 else some false) else ((cleatlaw24_laid.f 1000).bind fun t201 => (if t201 = true then (if (([] : List Int).length : Int) = 0 then (some ((0 : Int) == 0)) else (some false)) else (some false)))) = some true := by
    intro e he
    rw [if_neg he, laid_ok 1000 (by omega)]
    rfl
  unfold layR
  by_cases hf : ∀ b ∈ l, Fine b
  · rw [if_pos hf]
    by_cases c1 : l.length > 256
    · rw [if_pos c1]; exact bad 2 (by decide)
    rw [if_neg c1]
    by_cases c2 : a > 4611686018427387904
    · rw [if_pos c2]; exact bad 4 (by decide)
    rw [if_neg c2]
    obtain ⟨e, rfl⟩ : ∃ e : Nat, a = (e : Int) := ⟨a.toNat, by omega⟩
    have hlen : ((ints (layF l e).1).length : Int) = (l.length : Int) := by simp [ints, layF_length]
    have h1 := apart_l0 l (by omega) hf (ints (layF l e).1) (layF l e).2 (1000 - (l.length + 1)) (by omega) l.length 0 e (by omega) (by simp) (by simp) (by omega)
    rw [show l.length + 1 + (1000 - (l.length + 1)) = 1000 from by omega] at h1
    simp only [Int.toNat_natCast]
    rw [if_pos trivial, if_pos hlen]
    exact h1
  · rw [if_neg hf]; exact bad 1 (by decide)
end Go.Proofs.Ytcfejagfognipaa.Pure
