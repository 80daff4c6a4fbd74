/-
  Plain laws of place.Lay: what it answers, in numbers and lists. Condition of the lemmas: at most 400 blocks.
-/
import Derived.Test.YtcfejagfognipaaPlLay
import Derived.Test.YtcfejagfognipaaPurA
namespace Go.Proofs.Ytcfejagfognipaa.Pure
open Go.RowKit Go.Proofs.Ytcfejagfognipaa.Pl Go.Proofs.YtcfejagfognipaaW.PrintWords Go.Proofs.YtcfejagfognipaaW.PrintLast Go.Proofs.YtcfejagfognipaaW.PrintMore

/-- A block that may be laid. -/
def Fine (b : S34) : Prop := 0 ≤ b.f0 ∧ b.f0 ≤ 16384 ∧ 0 ≤ b.f1 ∧ b.f1 ≤ 12
instance (b : S34) : Decidable (Fine b) := by unfold Fine; exact inferInstance
/-- Where blocks are laid, and where the last one ends. -/
def layF : List S34 → Nat → List Nat × Nat
  | [], e => ([], e)
  | b :: bs, e => (upv e b.f1.toNat :: (layF bs (upv e b.f1.toNat + b.f0.toNat)).1, (layF bs (upv e b.f1.toNat + b.f0.toNat)).2)

def ints (l : List Nat) : List Int := l.map (fun x : Nat => (x : Int))

/-- What place.Lay answers. -/
def layR (l : List S34) (base : Int) : List Int × Int × Int :=
  if ∀ b ∈ l, Fine b then (if l.length > 256 then ([], 0, 2) else if base > 4611686018427387904 then ([], 0, 4) else (ints (layF l base.toNat).1, ((layF l base.toNat).2 : Int), 0)) else ([], 0, 1)

theorem wrap_next {i n : Nat} (h : i < n) (hn : n ≤ 400) : wrap64 ((i : Int) + 1) = ((i + 1 : Nat) : Int) := by unfold wrap64; omega

theorem getD_at (l : List S34) (i : Nat) (h : i < l.length) : l.getD i z34 = l[i] := by simp [List.getD, h]
theorem rd_T34_at (l : List S34) (i : Nat) : rd_T34 l (i : Int) = l.getD i z34 := by unfold rd_T34; simp

theorem lay_l0_ok (l : List S34) (base : Int) (hl : l.length ≤ 400) (k : Nat) : ∀ (d i : Nat), i + d = l.length → (∀ b ∈ l, Fine b) →
    place_Lay.l0 (d + 1 + k) l base l (l.length : Int) (i : Int) = (if (l.length : Int) > 256 then some ([], 0, 2) else if base > 4611686018427387904 then some ([], 0, 4) else place_Lay.l1 k base [] l (l.length : Int) 0) := by
  intro d
  induction d with
  | zero =>
    intro i hi hf
    rw [show 0 + 1 + k = k + 1 from by omega]
    simp only [place_Lay.l0]
    rw [if_neg (show ¬ ((i : Int) < (l.length : Int)) by omega)]
  | succ d ih =>
    intro i hi hf
    have hlt : i < l.length := by omega
    obtain ⟨b, hb, hm⟩ : ∃ b, rd_T34 l (i : Int) = b ∧ b ∈ l := ⟨_, rfl, by rw [rd_T34_at, getD_at _ _ hlt]; exact List.getElem_mem _⟩
    obtain ⟨h1, h2, h3, h4⟩ := hf b hm
    rw [show d + 1 + 1 + k = (d + 1 + k) + 1 from by omega]
    simp only [place_Lay.l0]
    rw [hb, if_pos (by omega), if_pos (by omega), if_pos (by omega), if_neg (by omega), if_neg (by omega), if_neg (by omega), if_neg (by omega), wrap_next hlt hl]
    exact ih (i + 1) (by omega) hf

theorem lay_l0_bad (l : List S34) (base : Int) (hl : l.length ≤ 400) : ∀ (d k i : Nat), i + d = l.length → (∃ j, i ≤ j ∧ j < l.length ∧ ¬ Fine (l.getD j z34)) → d < k →
    place_Lay.l0 k l base l (l.length : Int) (i : Int) = some ([], 0, 1) := by
  intro d
  induction d with
  | zero =>
    intro k i hi hf hk
    obtain ⟨j, h1, h2, _⟩ := hf
    omega
  | succ d ih =>
    intro k i hi hf hk
    obtain ⟨k, rfl⟩ : ∃ m, k = m + 1 := ⟨k - 1, by omega⟩
    have hlt : i < l.length := by omega
    obtain ⟨b, hb, hg⟩ : ∃ b, rd_T34 l (i : Int) = b ∧ l.getD i z34 = b := ⟨_, rfl, (rd_T34_at l i).symm⟩
    simp only [place_Lay.l0]
    rw [hb, if_pos (by omega), if_pos (by omega), if_pos (by omega)]
    by_cases c1 : b.f0 < 0
    · rw [if_pos c1]
    rw [if_neg c1]
    by_cases c2 : b.f0 > 16384
    · rw [if_pos c2]
    rw [if_neg c2]
    by_cases c3 : b.f1 < 0
    · rw [if_pos c3]
    rw [if_neg c3]
    by_cases c4 : b.f1 > 12
    · rw [if_pos c4]
    rw [if_neg c4, wrap_next hlt hl]
    refine ih k (i + 1) (by omega) ?_ (by omega)
    obtain ⟨j, h1, h2, h3⟩ := hf
    refine ⟨j, ?_, h2, h3⟩
    have : j ≠ i := by
      rintro rfl
      rw [hg] at h3
      exact h3 ⟨by omega, by omega, by omega, by omega⟩
    omega

theorem lay_l1 (l : List S34) (hl : l.length ≤ 400) (hf : ∀ b ∈ l, Fine b) (k : Nat) : ∀ (d i : Nat) (e : Nat) (out : List Int), i + d = l.length → out.length ≤ i → e ≤ 4611686018427387904 + i * 20480 →
    place_Lay.l1 (d + 2 + k) (e : Int) out l (l.length : Int) (i : Int) = some (out ++ ints (layF (l.drop i) e).1, ((layF (l.drop i) e).2 : Int), 0) := by
  intro d
  induction d with
  | zero =>
    intro i e out hi ho he
    rw [show 0 + 2 + k = (k + 1) + 1 from by omega, List.drop_eq_nil_of_le (by omega)]
    simp only [place_Lay.l1]
    rw [if_neg (show ¬ ((i : Int) < (l.length : Int)) by omega)]
    simp [layF, ints]
  | succ d ih =>
    intro i e out hi ho he
    have hlt : i < l.length := by omega
    obtain ⟨b, hb, hg⟩ : ∃ b, rd_T34 l (i : Int) = b ∧ l[i] = b := ⟨_, rfl, by rw [rd_T34_at, getD_at _ _ hlt]⟩
    have hm : b ∈ l := by rw [← hg]; exact List.getElem_mem _
    obtain ⟨h1, h2, h3, h4⟩ := hf b hm
    obtain ⟨n, hn⟩ : ∃ n : Nat, b.f1 = (n : Int) := ⟨b.f1.toNat, by omega⟩
    obtain ⟨s, hs⟩ : ∃ s : Nat, b.f0 = (s : Int) := ⟨b.f0.toNat, by omega⟩
    have hu := upv_lt e n
    have hp := pow_le n (by omega)
    have hup : place_Up.f (d + 2 + k) (e : Int) (n : Int) = some (((upv e n : Nat) : Int), 0) := by
      rw [show d + 2 + k = (d + 1 + k) + 1 from by omega]
      exact up_ok _ e n (by omega) (by omega)
    have ih' := ih (i + 1) (upv e n + s) (out ++ [((upv e n : Nat) : Int)]) (by omega) (by simp; omega) (by omega)
    rw [show d + 1 + 2 + k = (d + 2 + k) + 1 from by omega]
    generalize d + 2 + k = K at hup ih' ⊢
    simp only [place_Lay.l1]
    rw [hb, if_pos (by omega), if_pos (by omega), if_pos (by omega), hn, hup]
    simp only [Option.bind_some]
    rw [if_pos (by omega), wrap_next hlt hl, hs]
    have e1 : IntKind.u64.wrap (((upv e n : Nat) : Int) + IntKind.u64.wrap (s : Int)) = ((upv e n + s : Nat) : Int) := by
      rw [wrap_u64, wrap_u64]; omega
    rw [e1, ih']
    rw [List.drop_eq_getElem_cons hlt, hg]
    simp only [layF, hn, hs, Int.toNat_natCast, ints, List.map_cons, List.append_assoc, List.singleton_append]

theorem lay_is (l : List S34) (base : Int) (hb : 0 ≤ base) (hl : l.length ≤ 400) (k : Nat) (hk : 1000 ≤ k) : place_Lay.f k l base = some (layR l base) := by
  unfold place_Lay.f layR
  by_cases hf : ∀ b ∈ l, Fine b
  · rw [if_pos hf]
    obtain ⟨k2, rfl⟩ : ∃ m, k = l.length + 1 + m := ⟨k - (l.length + 1), by omega⟩
    have h0 := lay_l0_ok l base hl k2 l.length 0 (by omega) hf
    rw [show ((0 : Nat) : Int) = 0 from rfl] at h0
    rw [h0]
    by_cases c1 : l.length > 256
    · rw [if_pos (by omega), if_pos c1]
    rw [if_neg (by omega), if_neg c1]
    by_cases c2 : base > 4611686018427387904
    · rw [if_pos c2, if_pos c2]
    rw [if_neg c2, if_neg c2]
    obtain ⟨e, rfl⟩ : ∃ e : Nat, base = (e : Int) := ⟨base.toNat, by omega⟩
    obtain ⟨k3, rfl⟩ : ∃ m, k2 = l.length + 2 + m := ⟨k2 - (l.length + 2), by omega⟩
    have h1 := lay_l1 l hl hf k3 l.length 0 e [] (by omega) (by simp) (by omega)
    rw [show ((0 : Nat) : Int) = 0 from rfl] at h1
    rw [h1]
    simp
  · rw [if_neg hf]
    have hx : ∃ j, 0 ≤ j ∧ j < l.length ∧ ¬ Fine (l.getD j z34) := by
      obtain ⟨b, hbm, hbf⟩ : ∃ b, b ∈ l ∧ ¬ Fine b := by
        refine Classical.byContradiction fun h => hf fun b hb => Classical.byContradiction fun hn => h ⟨b, hb, hn⟩
      obtain ⟨j, hj, rfl⟩ := List.getElem_of_mem hbm
      exact ⟨j, by omega, hj, by rw [getD_at _ _ hj]; exact hbf⟩
    exact lay_l0_bad l base hl l.length k 0 (by omega) hx (by omega)

theorem layF_length : ∀ (l : List S34) (e : Nat), (layF l e).1.length = l.length
  | [], _ => rfl
  | _ :: bs, _ => by simp [layF, layF_length bs]
theorem layF_append : ∀ (l m : List S34) (e : Nat), layF (l ++ m) e = ((layF l e).1 ++ (layF m (layF l e).2).1, (layF m (layF l e).2).2)
  | [], _, _ => by simp [layF]
  | _ :: bs, m, e => by simp [layF, layF_append bs m]
theorem layF_end (l : List S34) (hf : ∀ b ∈ l, Fine b) : ∀ e, e ≤ (layF l e).2 ∧ (layF l e).2 ≤ e + l.length * 20480 := by
  induction l with
  | nil => intro e; simp [layF]
  | cons b bs ih =>
    intro e
    obtain ⟨h1, h2, h3, h4⟩ := hf b (by simp)
    have hu := upv_lt e b.f1.toNat
    have hv := upv_ge e b.f1.toNat
    have hp := pow_le b.f1.toNat (by omega)
    have := ih (fun x hx => hf x (by simp [hx])) (upv e b.f1.toNat + b.f0.toNat)
    simp only [layF, List.length_cons]
    omega
end Go.Proofs.Ytcfejagfognipaa.Pure
