/-
  Options are good, or not; a number is rounded up just so; blocks are laid just so, or refused: the program answers as the reference.
-/
import Derived.Test.YtcfejagfognipaaPlDoes
import Derived.Test.YtcfejagfognipaaPurLaid
import Derived.Test.YtcfejagfognipaaPurSame
namespace Go.Proofs.Ytcfejagfognipaa.Pure
open Go.RowKit Go.Proofs.Ytcfejagfognipaa.Pl Go.Proofs.YtcfejagfognipaaW.PrintWords Go.Proofs.YtcfejagfognipaaW.PrintLast Go.Proofs.YtcfejagfognipaaW.PrintMore

theorem power_l0 (n : Nat) (hn : n ≤ 12) : ∀ (d k i : Nat), i + d = n → d < k → cleatref01_Power.l0 k (n : Int) ((2 ^ i : Nat) : Int) (i : Int) = some ((2 ^ n : Nat) : Int) := by
  intro d
  induction d with
  | zero =>
    intro k i hi hk
    obtain ⟨k, rfl⟩ : ∃ m, k = m + 1 := ⟨k - 1, by omega⟩
    simp only [cleatref01_Power.l0]
    rw [if_neg (by omega), show i = n by omega]
  | succ d ih =>
    intro k i hi hk
    obtain ⟨k, rfl⟩ : ∃ m, k = m + 1 := ⟨k - 1, by omega⟩
    have ih' := ih k (i + 1) (by omega) (by omega)
    have hp := pow_le i (by omega)
    have e1 : IntKind.u64.wrap (2 * ((2 ^ i : Nat) : Int)) = ((2 ^ (i + 1) : Nat) : Int) := by
      rw [wrap_u64, Nat.pow_succ]
      generalize 2 ^ i = Q at hp
      omega
    have e2 : wrap64 ((i : Int) + 1) = ((i + 1 : Nat) : Int) := by unfold wrap64; omega
    simp only [cleatref01_Power.l0]
    rw [if_pos (by omega), e1, e2]
    exact ih'
theorem power_ok (n k : Nat) (hn : n ≤ 12) (hk : 13 ≤ k) : cleatref01_Power.f k (n : Int) = some ((2 ^ n : Nat) : Int) := power_l0 n hn n k 0 (by omega) (by omega)

theorem refup_l0 (a n : Nat) (hn : n ≤ 12) (ha : a ≤ 9223372036854775808) : ∀ (d k x : Nat), x + d = upv a n → a ≤ x → d < k → cleatref24_Up.l0 k (x : Int) ((2 ^ n : Nat) : Int) = some (((upv a n : Nat) : Int), 0) := by
  have hp := pow_le n hn
  have hp0 : 0 < 2 ^ n := Nat.pow_pos (by decide)
  have h2 := upv_lt a n
  have hmod : ∀ x : Nat, Int.tmod (x : Int) ((2 ^ n : Nat) : Int) = ((x % 2 ^ n : Nat) : Int) := fun x => by
    rw [Int.tmod_eq_emod_of_nonneg (by omega)]; exact (Int.natCast_emod _ _).symm
  intro d
  induction d with
  | zero =>
    intro k x hx hax hk
    obtain ⟨k, rfl⟩ : ∃ m, k = m + 1 := ⟨k - 1, by omega⟩
    simp only [cleatref24_Up.l0]
    rw [if_neg (by omega), hmod, show x = upv a n by omega, upv_mod, if_pos (by omega)]
  | succ d ih =>
    intro k x hx hax hk
    obtain ⟨k, rfl⟩ : ∃ m, k = m + 1 := ⟨k - 1, by omega⟩
    have ih' := ih k (x + 1) (by omega) (by omega) (by omega)
    have hne : x % 2 ^ n ≠ 0 := fun h => by
      have := upv_le a x n hax h
      omega
    have e1 : IntKind.u64.wrap ((x : Int) + 1) = ((x + 1 : Nat) : Int) := by rw [wrap_u64]; omega
    simp only [cleatref24_Up.l0]
    rw [if_neg (by omega), hmod, if_neg (by omega), e1]
    exact ih'

/-- The reference's Up answers as the program's. -/
theorem refup_same (a n : Int) (ha : 0 ≤ a) (k : Nat) (hk : 5000 ≤ k) : cleatref24_Up.f k a n = place_Up.f 1 a n := by
  obtain ⟨k, rfl⟩ : ∃ m, k = m + 1 := ⟨k - 1, by omega⟩
  by_cases h1 : n < 0
  · rw [up_arg 0 a n (.inl h1)]
    simp only [cleatref24_Up.f]
    rw [if_pos h1]; simp only [cleatref24_Up.j0]; rfl
  by_cases h2 : n > 12
  · rw [up_arg 0 a n (.inr h2)]
    simp only [cleatref24_Up.f]
    rw [if_neg h1, decide_eq_true h2]; simp only [cleatref24_Up.j0]; rfl
  by_cases h3 : a > 9223372036854775808
  · rw [up_range 0 a n (by omega) (by omega) h3]
    simp only [cleatref24_Up.f]
    rw [if_neg h1, decide_eq_false h2]; simp only [cleatref24_Up.j0]
    rw [if_neg (by decide), if_pos h3]
  obtain ⟨x, rfl⟩ : ∃ x : Nat, a = (x : Int) := ⟨a.toNat, by omega⟩
  obtain ⟨m, rfl⟩ : ∃ m : Nat, n = (m : Int) := ⟨n.toNat, by omega⟩
  have hp := pow_le m (by omega)
  have g1 := upv_lt x m
  have g2 := upv_ge x m
  have hpw := power_ok m k (by omega) (by omega)
  have hr := refup_l0 x m (by omega) (by omega) (upv x m - x) k x (by omega) (by omega) (by omega)
  rw [up_ok 0 x m (by omega) (by omega)]
  simp only [cleatref24_Up.f]
  rw [if_neg h1, decide_eq_false h2]
  simp only [cleatref24_Up.j0]
  rw [if_neg (by decide), if_neg h3, hpw]
  exact hr

theorem up_any (a n : Int) (k : Nat) (hk : 1 ≤ k) : place_Up.f k a n = place_Up.f 1 a n := by
  obtain ⟨k, rfl⟩ : ∃ m, k = m + 1 := ⟨k - 1, by omega⟩
  simp only [place_Up.f, place_Up.j0]

/-- The reference's Lay answers as the program's: the loop that lays. -/
theorem reflay_l1 (l : List S34) (hl : l.length ≤ 400) (hf : ∀ b ∈ l, Fine b) : ∀ (d k i : Nat) (e : Nat) (out : List Int), i + d = l.length → out.length ≤ i → e ≤ 4611686018427387904 + i * 20480 → 5001 + d ≤ k →
    cleatref24_Lay.l1 k l (e : Int) out (i : Int) = some (out ++ ints (layF (l.drop i) e).1, ((layF (l.drop i) e).2 : Int), 0) := by
  intro d
  induction d with
  | zero =>
    intro k i e out hi ho he hk
    obtain ⟨k, rfl⟩ : ∃ m, k = m + 1 := ⟨k - 1, by omega⟩
    rw [List.drop_eq_nil_of_le (by omega)]
    simp only [cleatref24_Lay.l1]
    rw [if_neg (show ¬ ((i : Int) < (l.length : Int)) by omega)]
    simp [layF, ints]
  | succ d ih =>
    intro k i e out hi ho he hk
    obtain ⟨k, rfl⟩ : ∃ m, k = m + 1 := ⟨k - 1, by omega⟩
    have hlt : i < l.length := by omega
    obtain ⟨b, hb, hg⟩ : ∃ b, rd_T34 l (i : Int) = b ∧ l[i] = b := ⟨_, rfl, by rw [rd_T34_at, getD_at _ _ hlt]⟩
    have hm : b ∈ l := by rw [← hg]; exact List.getElem_mem _
    obtain ⟨h1, h2, h3, h4⟩ := hf b hm
    obtain ⟨n, hn⟩ : ∃ n : Nat, b.f1 = (n : Int) := ⟨b.f1.toNat, by omega⟩
    obtain ⟨s, hs⟩ : ∃ s : Nat, b.f0 = (s : Int) := ⟨b.f0.toNat, by omega⟩
    have hu := upv_lt e n
    have hp := pow_le n (by omega)
    have hup : cleatref24_Up.f k (e : Int) (n : Int) = some (((upv e n : Nat) : Int), 0) := by
      rw [refup_same _ _ (by omega) k (by omega)]
      exact up_ok 0 e n (by omega) (by omega)
    have ih' := ih k (i + 1) (upv e n + s) (out ++ [((upv e n : Nat) : Int)]) (by omega) (by simp; omega) (by omega) (by omega)
    have e1 : IntKind.u64.wrap (((upv e n : Nat) : Int) + IntKind.u64.wrap (s : Int)) = ((upv e n + s : Nat) : Int) := by
      rw [wrap_u64, wrap_u64]; omega
    simp only [cleatref24_Lay.l1]
    rw [hb, if_pos (by omega), if_pos (by omega), hn, hup]
    simp only [Option.bind_some]
    rw [if_pos (by omega), wrap_next hlt hl, hs, e1, ih']
    rw [List.drop_eq_getElem_cons hlt, hg]
    simp only [layF, hn, hs, Int.toNat_natCast, ints, List.map_cons, List.append_assoc, List.singleton_append]

theorem reflay_l0_ok (l : List S34) (base : Int) (hl : l.length ≤ 400) (k : Nat) : ∀ (d i : Nat), i + d = l.length → (∀ b ∈ l, Fine b) →
    cleatref24_Lay.l0 (d + 1 + k) l base (i : Int) = (if (l.length : Int) > 256 then some ([], 0, 2) else if base > 4611686018427387904 then some ([], 0, 4) else cleatref24_Lay.l1 k l base [] 0) := by
  intro d
  induction d with
  | zero =>
    intro i hi hf
    rw [show 0 + 1 + k = k + 1 from by omega]
    simp only [cleatref24_Lay.l0]
    rw [if_neg (show ¬ ((i : Int) < (l.length : Int)) by omega)]
  | succ d ih =>
    intro i hi hf
    have hlt : i < l.length := by omega
    obtain ⟨b, hb, hm⟩ : ∃ b, rd_T34 l (i : Int) = b ∧ b ∈ l := ⟨_, rfl, by rw [rd_T34_at, getD_at _ _ hlt]; exact List.getElem_mem _⟩
    obtain ⟨h1, h2, h3, h4⟩ := hf b hm
    rw [show d + 1 + 1 + k = (d + 1 + k) + 1 from by omega]
    have ih' := ih (i + 1) (by omega) hf
    generalize d + 1 + k = K at ih' ⊢
    simp only [cleatref24_Lay.l0]
    rw [hb, if_pos (by omega), if_pos (by omega), if_neg (by omega), if_neg (by omega), if_neg (by omega), if_neg (by omega), wrap_next hlt hl]
    exact ih'

theorem reflay_l0_bad (l : List S34) (base : Int) (hl : l.length ≤ 400) : ∀ (d k i : Nat), i + d = l.length → (∃ j, i ≤ j ∧ j < l.length ∧ ¬ Fine (l.getD j z34)) → d < k →
    cleatref24_Lay.l0 k l base (i : Int) = some ([], 0, 1) := by
  intro d
  induction d with
  | zero =>
    intro k i hi hf hk
    obtain ⟨j, h1, h2, _⟩ := hf
    omega
  | succ d ih =>
    intro k i hi hf hk
    obtain ⟨k, rfl⟩ : ∃ m, k = m + 1 := ⟨k - 1, by omega⟩
    have hlt : i < l.length := by omega
    obtain ⟨b, hb, hg⟩ : ∃ b, rd_T34 l (i : Int) = b ∧ l.getD i z34 = b := ⟨_, rfl, (rd_T34_at l i).symm⟩
    simp only [cleatref24_Lay.l0]
    rw [hb, if_pos (by omega), if_pos (by omega)]
    by_cases c1 : b.f0 < 0
    · rw [if_pos c1]
    rw [if_neg c1]
    by_cases c2 : b.f0 > 16384
    · rw [if_pos c2]
    rw [if_neg c2]
    by_cases c3 : b.f1 < 0
    · rw [if_pos c3]
    rw [if_neg c3]
    by_cases c4 : b.f1 > 12
    · rw [if_pos c4]
    rw [if_neg c4, wrap_next hlt hl]
    refine ih k (i + 1) (by omega) ?_ (by omega)
    obtain ⟨j, h1, h2, h3⟩ := hf
    refine ⟨j, ?_, h2, h3⟩
    have : j ≠ i := by
      rintro rfl
      rw [hg] at h3
      exact h3 ⟨by omega, by omega, by omega, by omega⟩
    omega

theorem reflay_is (l : List S34) (base : Int) (hb : 0 ≤ base) (hl : l.length ≤ 400) (k : Nat) (hk : 7000 ≤ k) : cleatref24_Lay.f k l base = some (layR l base) := by
  unfold cleatref24_Lay.f layR
  by_cases hf : ∀ b ∈ l, Fine b
  · rw [if_pos hf]
    obtain ⟨k2, rfl⟩ : ∃ m, k = l.length + 1 + m := ⟨k - (l.length + 1), by omega⟩
    have h0 := reflay_l0_ok l base hl k2 l.length 0 (by omega) hf
    rw [show ((0 : Nat) : Int) = 0 from rfl] at h0
    rw [h0]
    by_cases c1 : l.length > 256
    · rw [if_pos (by omega), if_pos c1]
    rw [if_neg (by omega), if_neg c1]
    by_cases c2 : base > 4611686018427387904
    · rw [if_pos c2, if_pos c2]
    rw [if_neg c2, if_neg c2]
    obtain ⟨e, rfl⟩ : ∃ e : Nat, base = (e : Int) := ⟨base.toNat, by omega⟩
    have h1 := reflay_l1 l hl hf l.length k2 0 e [] (by omega) (by simp) (by omega) (by omega)
    rw [show ((0 : Nat) : Int) = 0 from rfl] at h1
    rw [h1]
    simp
  · rw [if_neg hf]
    have hx : ∃ j, 0 ≤ j ∧ j < l.length ∧ ¬ Fine (l.getD j z34) := by
      obtain ⟨b, hbm, hbf⟩ : ∃ b, b ∈ l ∧ ¬ Fine b := by
        refine Classical.byContradiction fun h => hf fun b hb => Classical.byContradiction fun hn => h ⟨b, hb, hn⟩
      obtain ⟨j, hj, rfl⟩ := List.getElem_of_mem hbm
      exact ⟨j, by omega, hj, by rw [getD_at _ _ hj]; exact hbf⟩
    exact reflay_l0_bad l base hl l.length k 0 (by omega) hx (by omega)

/-- Options are good for both. -/
theorem even_is (a : Int) : cleatref24_even.f a = some (!badPlace a) := by
  unfold cleatref24_even.f badPlace
  by_cases h : Int.tmod a 4096 = 0
  · rw [if_pos h, h]
    by_cases h2 : a ≤ 2305843009213693952
    · rw [decide_eq_true h2, decide_eq_false (by omega)]; rfl
    · rw [decide_eq_false h2, decide_eq_true (by omega)]; rfl
  · rw [if_neg h]; simp [h]
theorem apart_is (a b : Int) (_ha : 0 ≤ a) (_ha2 : a < 18446744073709551616) (_hb : 0 ≤ b) (_hb2 : b < 18446744073709551616) : cleatref24_apart.f a b = some (!tooNear b a) := by
  unfold cleatref24_apart.f tooNear mx mn
  by_cases h : a < b
  · rw [if_pos h, if_neg (by omega), if_pos h, wrap_u64]
    by_cases h2 : (b - a) % 18446744073709551616 < 16777216
    · rw [decide_eq_true h2, decide_eq_false (by omega)]; rfl
    · rw [decide_eq_false h2, decide_eq_true (by omega)]; rfl
  · rw [if_neg h, if_neg h]
    by_cases h1 : b < a
    · rw [if_pos h1, wrap_u64]
      by_cases h2 : (a - b) % 18446744073709551616 < 16777216
      · rw [decide_eq_true h2, decide_eq_false (by omega)]; rfl
      · rw [decide_eq_false h2, decide_eq_true (by omega)]; rfl
    · rw [if_neg h1, wrap_u64, wrap_u64, decide_eq_false (by omega), decide_eq_true (by omega)]; rfl

theorem refgood_is (a b c d : Int) (ha : 0 ≤ a) (ha2 : a < 18446744073709551616) (hb : 0 ≤ b) (hb2 : b < 18446744073709551616) (hc : 0 ≤ c) (hc2 : c < 18446744073709551616) : cleatref24_Good.f a b c d = some (goodB a b c d) := by
  unfold cleatref24_Good.f goodB
  rw [even_is, even_is, even_is, apart_is a b ha ha2 hb hb2, apart_is a c ha ha2 hc hc2, apart_is b c hb hb2 hc hc2]
  simp only [Option.bind_some]
  cases badPlace a <;> cases badPlace b <;> cases badPlace c <;> cases tooNear b a <;> cases tooNear c a <;> cases tooNear c b <;> try rfl
  unfold okReach
  by_cases h1 : Int.tmod d 4 = 0
  · by_cases h2 : d ≥ 8192
    · simp [h1, h2]
    · simp [h1, h2]
  · simp [h1]

theorem does_l0 (l : List S34) (hl : l.length ≤ 400) (a1 a2 : Int) (xs : List Int) (e e2 : Int) (hxs : xs.length ≤ 400) (o0 o1 o2 o3 : Int) (h0 : 0 ≤ o0) (h0' : o0 < 18446744073709551616) (h1 : 0 ≤ o1) (h1' : o1 < 18446744073709551616) (h2 : 0 ≤ o2) (h2' : o2 < 18446744073709551616) : ∀ (d k i : Nat), i + d = l.length → 500 + d ≤ k →
    cleatlaw24_PlaceDoes.l0 k l l a1 a2 a1 a2 xs e e2 xs e e2 (i : Int) o0 o1 o2 o3 = some true := by
  intro d
  induction d with
  | zero =>
    intro k i hi hk
    obtain ⟨k, rfl⟩ : ∃ m, k = m + 1 := ⟨k - 1, by omega⟩
    have h8 := laid_ok k (by omega)
    have hs := same_ok xs hxs k (by omega)
    simp only [cleatlaw24_PlaceDoes.l0]
    rw [if_neg (by omega), h8, hs, refgood_is o0 o1 o2 o3 h0 h0' h1 h1' h2 h2', show place_Good.f k o0 o1 o2 o3 = some (goodB o0 o1 o2 o3) from rfl]
    simp
  | succ d ih =>
    intro k i hi hk
    obtain ⟨k, rfl⟩ : ∃ m, k = m + 1 := ⟨k - 1, by omega⟩
    have ih' := ih k (i + 1) (by omega) (by omega)
    simp only [cleatlaw24_PlaceDoes.l0]
    rw [if_pos (by omega), if_pos (by omega), if_pos (by omega), if_neg (by simp), wrap_next (by omega) hl]
    exact ih'

/-- The statement over lists and numbers. -/
theorem PlaceDoes (o0 o1 o2 o3 a n : Int) (l : List S34) (base : Int) (h0 : 0 ≤ o0) (h0' : o0 < 18446744073709551616) (h1 : 0 ≤ o1) (h1' : o1 < 18446744073709551616) (h2 : 0 ≤ o2) (h2' : o2 < 18446744073709551616) (ha : 0 ≤ a) (hb : 0 ≤ base) :
    ∃ k, cleatlaw24_PlaceDoes.f k o0 o1 o2 o3 a n l base = some true := by
  obtain ⟨K, hK⟩ : ∃ K : Nat, 7000 ≤ K := ⟨7000, Nat.le_refl _⟩
  refine ⟨K, ?_⟩
  unfold cleatlaw24_PlaceDoes.f
  by_cases hl : (l.length : Int) > 300
  · rw [if_pos hl]
  rw [if_neg hl]
  have eo : cleatref24_Own.f l = some l := by unfold cleatref24_Own.f; rw [if_pos (by simp; omega)]; rfl
  have hlen : (layR l base).1.length ≤ 400 := by
    unfold layR
    split
    · split
      · simp
      · split
        · simp
        · simp [ints, layF_length]; omega
    · simp
  obtain ⟨r, hr⟩ : ∃ r, place_Up.f 1 a n = some r := by
    by_cases g1 : n < 0 ∨ 12 < n
    · exact ⟨_, up_arg 0 a n g1⟩
    by_cases g2 : 9223372036854775808 < a
    · exact ⟨_, up_range 0 a n (by omega) (by omega) g2⟩
    obtain ⟨x, rfl⟩ : ∃ x : Nat, a = (x : Int) := ⟨a.toNat, by omega⟩
    obtain ⟨m, rfl⟩ : ∃ m : Nat, n = (m : Int) := ⟨n.toNat, by omega⟩
    exact ⟨_, up_ok 0 x m (by omega) (by omega)⟩
  rw [eo, up_any a n K (by omega), refup_same a n ha K (by omega), hr, lay_is l base hb (by omega) K (by omega)]
  simp only [Option.bind_some]
  rw [reflay_is l base hb (by omega) K (by omega)]
  simp only [Option.bind_some]
  exact does_l0 l (by omega) r.1 r.2 _ _ _ hlen o0 o1 o2 o3 h0 h0' h1 h1' h2 h2' l.length K 0 (by omega) (by omega)
end Go.Proofs.Ytcfejagfognipaa.Pure
