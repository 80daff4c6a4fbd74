/-
  An argument of type []api.Need reads as a list of needs, and its cells are theirs. No condition.
-/
import Derived.Test.YtcfejagfognipaaOpenN
import Derived.Test.YtcfejagfognipaaPoSt
import Derived.SizedLaws
namespace Go.Proofs.Ytcfejagfognipaa.OpenL
open Go.Joins Go.ChangeShapes Go.WideShapes Go.Deep
open Go.RowKit Go.Proofs.Ytcfejagfognipaa.Po Go.Proofs.YtcfejagfognipaaW.PrintWords Go.Proofs.YtcfejagfognipaaW.PrintLast Go.Proofs.YtcfejagfognipaaW.PrintMore
section
variable {H : Type} {enc : TypeId × Value → H} {P : Program} {w : World} {base : Nat} {spare : Nat → Bool} {held : Bool}
theorem open_slice_fields {t e : TypeId} {fs : Array Field} {fuel : Nat} {cs : List Value} {x : DataW H × List MemPlace} (ht : P.underlying t = some (.slice e)) (he : P.underlying e = some (.struct fs))
    (hone : oneCellFields P fs = true) (hC : P.cellsOf e = fs.size) (h : DataW.trod enc P w base spare held fuel t cs = some x) :
    (cs = [.slice none 0 0] ∧ x = (.nil, [])) ∨
    ∃ (a : Addr) (len cap m : Nat) (D : Nat → DataW H) (Pl : Nat → List MemPlace), cs = [.slice (some a) len cap] ∧ base ≤ a.block ∧ len ≤ cap ∧ cap ≤ maxLen ∧ m = (if spare a.block then cap else len) ∧
      x = (.slice ((List.range len).map D) ((List.range (m - len)).map fun j => D (len + j)), MemPlace.row a (m * fs.size) ++ (List.range m).flatMap Pl) ∧
      ∀ i, i < m → ∃ (ys : List (DataW H × List MemPlace)) (n : Nat), D i = .agg (ys.map (·.1)) ∧ Pl i = ys.flatMap (·.2) ∧ ys.length = fs.size ∧
        ∀ (j : Nat) (f : Field), fs[j]? = some f → ∃ (v : Value) (y : DataW H × List MemPlace), w.cell? (a.add (i * fs.size + j)) = some v ∧ ys[j]? = some y ∧ DataW.trod enc P w base spare held n f.type [v] = some y := by
  rcases open_slice ht h with h0 | ⟨a, len, cap, m, n, D, Pl, hcs, hb, hl, hm, hmm, hx, hi⟩
  · exact .inl h0
  · refine .inr ⟨a, len, cap, m, D, Pl, hcs, hb, hl, hm, hmm, by rw [hC] at hx; exact hx, fun i him => ?_⟩
    obtain ⟨cs', hc, ht'⟩ := hi i him
    rw [hC] at hc
    obtain ⟨ys, n', hn', hy, hlen, hyl, hf⟩ := DataW.trod_struct he ht'
    obtain ⟨_, hcl, hat⟩ := World.cells?_some hc
    simp only [Prod.mk.injEq] at hy
    refine ⟨ys, n', hy.1, hy.2, hyl, fun j f hj => ?_⟩
    obtain ⟨ho, hk⟩ := hone_of hone j f hj
    have hjl : j < fs.size := (Array.getElem?_eq_some_iff.1 hj).1
    have hcell := hat j hjl
    have hv : cs'[j]? = some (cs'[j]'(by omega)) := List.getElem?_eq_getElem (by omega)
    have h1 := hf j f hj
    rw [ho, hk] at h1
    have hone' : (cs'.drop j).take 1 = [cs'[j]'(by omega)] := by
      rw [List.drop_eq_getElem_cons (by omega)]
      rfl
    rw [hone'] at h1
    have hys : ys[j]? = some (ys[j]'(by omega)) := List.getElem?_eq_getElem (by omega)
    refine ⟨_, _, ?_, hys, h1.trans hys⟩
    rw [← Go.Deep.add_add, hcell, hv]

/-- From a property of each index, a list. -/
theorem list_of {α : Type} [Inhabited α] (n : Nat) (p : Nat → α → Prop) (h : ∀ i, i < n → ∃ x, p i x) : ∃ xs : List α, xs.length = n ∧ ∀ i x, xs[i]? = some x → p i x := by
  induction n with
  | zero => exact ⟨[], rfl, by simp⟩
  | succ n ih =>
    obtain ⟨xs, h1, h2⟩ := ih (fun i hi => h i (by omega))
    obtain ⟨x, hx⟩ := h n (by omega)
    refine ⟨xs ++ [x], by simp [h1], fun i y hy => ?_⟩
    by_cases hi : i < n
    · rw [List.getElem?_append_left (by omega)] at hy; exact h2 i y hy
    · have hin : i = n := by
        have := (List.getElem?_eq_some_iff.1 hy).1
        simp [h1] at this; omega
      subst hin
      rw [List.getElem?_append_right (by omega)] at hy
      simp [h1] at hy; subst hy; exact hx
end


theorem open_needs {H : Type} {enc : TypeId × Value → H} {W : World} {spare : Nat → Bool} {held : Bool} {a : Option Addr} {len cap : Nat} {d : DataW H} {p : List MemPlace} (h : DataW.Trod enc Try.prog W 0 spare held 59 (.slice a len cap) d p) :
    ∃ xs : List S49, xs.length = len ∧ len ≤ cap ∧ Kd.C k49 W a len xs ∧ ∀ n ∈ xs, WfN n := by
  obtain ⟨fuel, hf⟩ := h
  rcases open_slice_fields Try.underlying59 Try.underlying49 (by kernel_rfl) (by kernel_rfl) hf with ⟨hcs, _⟩ | ⟨x, l, c, m, D, Pl, hcs, _, hl, hm, hmm, _, hi⟩
  · simp [Value.cells] at hcs
    obtain ⟨rfl, rfl, rfl⟩ := hcs
    exact ⟨[], rfl, Nat.le_refl _, Kd.C_nil _ _, by simp⟩
  · simp [Value.cells] at hcs
    obtain ⟨rfl, rfl, rfl⟩ := hcs
    have hlm : len ≤ m := by rw [hmm]; split <;> omega
    obtain ⟨xs, h1, h2⟩ := list_of len (fun i (b : S49) => (W.cell? (x.add (i * 5 + 0)) = some (.int .i64 b.f0) ∧ W.cell? (x.add (i * 5 + 1)) = some (.string b.f1) ∧ W.cell? (x.add (i * 5 + 2)) = some (.int .i64 b.f2) ∧ W.cell? (x.add (i * 5 + 3)) = some (.bool b.f3) ∧ W.cell? (x.add (i * 5 + 4)) = some (.int .u64 b.f4)) ∧ WfN b) (fun i hil => by
      obtain ⟨ys, n, _, _, _, hfs⟩ := hi i (by omega)
      obtain ⟨v0, y0, hc0, _, ht0⟩ := hfs 0 _ rfl
      obtain ⟨v1, y1, hc1, _, ht1⟩ := hfs 1 _ rfl
      obtain ⟨v2, y2, hc2, _, ht2⟩ := hfs 2 _ rfl
      obtain ⟨v3, y3, hc3, _, ht3⟩ := hfs 3 _ rfl
      obtain ⟨v4, y4, hc4, _, ht4⟩ := hfs 4 _ rfl
      obtain ⟨a0, e0, _, w0⟩ := DataW.trod_int Try.underlying3 ht0
      obtain ⟨a1, e1, _, w1⟩ := DataW.trod_string Try.underlying9 ht1
      obtain ⟨a2, e2, _, w2⟩ := DataW.trod_int Try.underlying3 ht2
      obtain ⟨a3, e3, _⟩ := DataW.trod_bool Try.underlying4 ht3
      obtain ⟨a4, e4, _, w4⟩ := DataW.trod_int Try.underlying22 ht4
      injection e0 with e0
      injection e1 with e1
      injection e2 with e2
      injection e3 with e3
      injection e4 with e4
      subst e0 e1 e2 e3 e4
      exact ⟨⟨a0, a1, a2, a3, a4⟩, ⟨hc0, hc1, hc2, hc3, hc4⟩, w1, w2, w4⟩)
    refine ⟨xs, h1, hl, ⟨h1, ?_, fun _ => ⟨x, rfl, fun j p hj => ?_⟩⟩, fun n hn => ?_⟩
    · unfold maxLen at hm; omega
    · obtain ⟨⟨g0, g1, g2, g3, g4⟩, _⟩ := h2 j p hj
      refine ⟨_, rfl, k49_mk W p, fun i u hu => ?_⟩
      match i, hu with
      | 0, hu => injection hu with hu; subst hu; exact g0
      | 1, hu => injection hu with hu; subst hu; exact g1
      | 2, hu => injection hu with hu; subst hu; exact g2
      | 3, hu => injection hu with hu; subst hu; exact g3
      | 4, hu => injection hu with hu; subst hu; exact g4
    · obtain ⟨j, hj⟩ := List.getElem?_of_mem hn
      exact (h2 j n hj).2
end Go.Proofs.Ytcfejagfognipaa.OpenL
