/-
  A need that a machine can hold has a literal that a machine can hold. No condition.
-/
import Derived.Test.YtcfejagfognipaaPoOf
namespace Go.Proofs.Ytcfejagfognipaa.Po
open Go.RowKit
theorem wf_big {k : IntKind} {n : Int} (h : k.min ≤ n ∧ n ≤ k.max) : (Lit.int k n).wf = true := by
  unfold Lit.wf
  simpa using h
/-- A need that a machine can hold. -/
def WfN (n : S49) : Prop := n.f1.size ≤ maxLen ∧ (Lit.int .i64 n.f2).wf = true ∧ (Lit.int .u64 n.f4).wf = true
theorem wfEmpty : (⟨#[]⟩ : ByteArray).size ≤ maxLen := by decide
theorem ofF_wf (n : S49) (h : WfN n) : (ofF n).2 = 0 → Wf (ofF n).1 := by
  obtain ⟨h1, h2, h3⟩ := h
  unfold ofF
  intro he
  by_cases c0 : (n.f0 != 10) = true
  · rw [if_pos c0] at he; cases he
  rw [if_neg c0] at he ⊢
  by_cases c1 : n.f1.toList.isEmpty = true
  · rw [if_pos c1]
    by_cases c2 : n.f3 = true
    · rw [if_pos c2]
      exact ⟨wfEmpty, (by decide : (Lit.int .i64 0).wf = true), wf_big (wrap_within .u64 _)⟩
    · rw [if_neg c2]
      exact ⟨wfEmpty, (by decide : (Lit.int .i64 0).wf = true), h3⟩
  · rw [if_neg c1] at he ⊢
    by_cases c2 : (n.f4 != 0) = true
    · rw [if_pos c2] at he; cases he
    rw [if_neg c2] at he ⊢
    by_cases c3 : n.f3 = true
    · rw [if_pos c3] at he; cases he
    rw [if_neg c3]
    exact ⟨h1, h2, (by decide : (Lit.int .u64 0).wf = true)⟩

end Go.Proofs.Ytcfejagfognipaa.Po
