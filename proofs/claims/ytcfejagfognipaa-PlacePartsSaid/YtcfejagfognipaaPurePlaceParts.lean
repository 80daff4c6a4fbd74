/-
  What is laid in two parts is as in one.
-/
import Derived.Test.YtcfejagfognipaaPlParts
import Derived.Test.YtcfejagfognipaaPurLaid
import Derived.Test.YtcfejagfognipaaPurSame
namespace Go.Proofs.Ytcfejagfognipaa.Pure
open Go.RowKit Go.Proofs.Ytcfejagfognipaa.Pl Go.Proofs.YtcfejagfognipaaW.PrintWords Go.Proofs.YtcfejagfognipaaW.PrintLast Go.Proofs.YtcfejagfognipaaW.PrintMore

/-- A block takes no more than four pages, counted from page to page. -/
theorem layF_pages (l : List S34) (hf : ∀ b ∈ l, Fine b) : ∀ e, (layF l e).2 ≤ upv e 12 + l.length * 16384 := by
  induction l with
  | nil => intro e; have := upv_ge e 12; simp [layF]; omega
  | cons b bs ih =>
    intro e
    obtain ⟨h1, h2, h3, h4⟩ := hf b (by simp)
    have hm := upv_mod e 12
    have h5 : upv e b.f1.toNat ≤ upv e 12 := upv_le e _ _ (upv_ge e 12) (mod_less _ _ 12 (by omega) hm)
    have h6 : upv (upv e b.f1.toNat + b.f0.toNat) 12 ≤ upv e 12 + 16384 := upv_le _ _ 12 (by omega) (by omega)
    have := ih (fun x hx => hf x (by simp [hx])) (upv e b.f1.toNat + b.f0.toNat)
    simp only [layF, List.length_cons]
    omega

/-- The statement over lists and numbers. -/
theorem PlaceParts (l m : List S34) (a : Int) (hl : l.length * 16 ≤ 140737488351232) (hm : m.length * 16 ≤ 140737488351232) (ha : 0 ≤ a) : ∃ k, cleatlaw24_PlaceParts.f k l m a = some true := by
  refine ⟨1001, ?_⟩
  unfold cleatlaw24_PlaceParts.f
  have e0 : wrap64 ((l.length : Int) + (m.length : Int)) = ((l.length + m.length : Nat) : Int) := by unfold wrap64; omega
  rw [e0]
  by_cases hn : ((l.length + m.length : Nat) : Int) > 250
  · rw [if_pos hn]
  rw [if_neg hn, lay_is l a ha (by omega) 1001 (by omega)]
  simp only [Option.bind_some]
  have bad : ∀ (x : List Int) (y e : Int), e ≠ 0 → cleatlaw24_PlaceParts.j0 1001 l m a x y e true = some true := by
    intro x y e he
    have h8 := laid_ok 1000 (by omega)
    show cleatlaw24_PlaceParts.j0 (1000 + 1) l m a x y e true = some true
    generalize 1000 = K at h8 ⊢
    simp only [cleatlaw24_PlaceParts.j0]
    rw [if_pos trivial, h8]
    simp only [Option.bind_some]
    rw [if_pos trivial, if_neg he]
  by_cases hf : ∀ b ∈ l, Fine b
  case neg =>
    have e1 : layR l a = ([], 0, 1) := by unfold layR; rw [if_neg hf]
    rw [e1]; rw [if_neg (by decide)]; exact bad _ _ _ (by decide)
  by_cases c2 : a > 4611686018427387904
  · have e1 : layR l a = ([], 0, 4) := by unfold layR; rw [if_pos hf, if_neg (by omega), if_pos c2]
    rw [e1]; rw [if_neg (by decide)]; exact bad _ _ _ (by decide)
  obtain ⟨e, rfl⟩ : ∃ e : Nat, a = (e : Int) := ⟨a.toNat, by omega⟩
  have e1 : layR l (e : Int) = (ints (layF l e).1, ((layF l e).2 : Int), 0) := by unfold layR; rw [if_pos hf, if_neg (by omega), if_neg c2, Int.toNat_natCast]
  rw [e1, if_pos rfl]
  show cleatlaw24_PlaceParts.j0 (1000 + 1) l m e (ints (layF l e).1) ((layF l e).2 : Int) 0 (decide (((layF l e).2 : Int) > 4611686018427387904)) = some true
  have h8 := laid_ok 1000 (by omega)
  have hpg := layF_pages l hf e
  have hup := upv_lt e 12
  by_cases c3 : ((layF l e).2 : Int) > 4611686018427387904
  · rw [decide_eq_true c3]
    generalize 1000 = K at h8 ⊢
    simp only [cleatlaw24_PlaceParts.j0]
    rw [if_pos trivial, h8]
    simp only [Option.bind_some]
    rw [if_pos trivial, if_pos trivial, decide_eq_true (by omega)]
  rw [decide_eq_false c3]
  have hM := lay_is m ((layF l e).2 : Int) (by omega) (by omega) 1000 (by omega)
  have hA := lay_is (l ++ m) (e : Int) (by omega) (by simp; omega) 1000 (by omega)
  have hS := same_ok (ints (layF (l ++ m) e).1) (by simp [ints, layF_length]; omega) 1000 (by omega)
  generalize 1000 = K at h8 hM hA hS ⊢
  simp only [cleatlaw24_PlaceParts.j0]
  rw [if_neg (by decide), hM]
  simp only [Option.bind_some, List.nil_append, List.length_nil]
  rw [if_pos (by omega), if_pos (by omega), hA]
  simp only [Option.bind_some]
  by_cases hg : ∀ b ∈ m, Fine b
  · have hfg : ∀ b ∈ l ++ m, Fine b := fun b hb => (List.mem_append.mp hb).elim (hf b) (hg b)
    have e2 : layR m ((layF l e).2 : Int) = (ints (layF m (layF l e).2).1, ((layF m (layF l e).2).2 : Int), 0) := by unfold layR; rw [if_pos hg, if_neg (by omega), if_neg c3, Int.toNat_natCast]
    have e3 : layR (l ++ m) (e : Int) = (ints (layF (l ++ m) e).1, ((layF (l ++ m) e).2 : Int), 0) := by unfold layR; rw [if_pos hfg, if_neg (by simp; omega), if_neg c2, Int.toNat_natCast]
    have e4 : ints (layF l e).1 ++ ints (layF m (layF l e).2).1 = ints (layF (l ++ m) e).1 := by rw [layF_append]; simp [ints]
    have e5 : (layF (l ++ m) e).2 = (layF m (layF l e).2).2 := by rw [layF_append]
    rw [e2, e3]
    simp only
    rw [if_pos trivial, if_pos (by simp [ints, layF_length]; omega), if_pos (by simp [ints, layF_length]; omega), h8]
    simp only [Option.bind_some]
    rw [if_pos trivial, if_pos trivial, e4, hS]
    simp only [Option.bind_some]
    rw [if_pos trivial, e5]
    simp
  · have hfg : ¬ ∀ b ∈ l ++ m, Fine b := fun h => hg fun b hb => h b (List.mem_append.mpr (.inr hb))
    have e2 : layR m ((layF l e).2 : Int) = ([], 0, 1) := by unfold layR; rw [if_neg hg]
    have e3 : layR (l ++ m) (e : Int) = ([], 0, 1) := by unfold layR; rw [if_neg hfg]
    rw [e2, e3]
    simp only
    rw [if_neg (by decide), h8]
    rfl
end Go.Proofs.Ytcfejagfognipaa.Pure
