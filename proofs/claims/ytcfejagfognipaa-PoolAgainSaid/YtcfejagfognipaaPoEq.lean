/-
  Equality of two literals, as the machine runs it. No condition.
-/
import Derived.Test.YtcfejagfognipaaPoB
import Derived.Test.YtcfejagfognipaaWEqStruct
import Derived.WalkKit
namespace Go.Proofs.Ytcfejagfognipaa.Po
open Go.RowKit Go.Proofs.YtcfejagfognipaaW.PrintWords Go.Proofs.YtcfejagfognipaaW.PrintLast Go.Proofs.YtcfejagfognipaaW.PrintMore

theorem eqA53 (d : Nat) (w : World) (x0 y0 : ByteArray) (x1 y1 x2 y2 : Int) :
    (Op.equalIn (d + 2) 53 (.agg #[.string x0, .int .i64 x1, .int .u64 x2]) (.agg #[.string y0, .int .i64 y1, .int .u64 y2])).run Try.prog w = .ok ((x0.toList == y0.toList) && ((x1 == y1) && (x2 == y2))) w := by
  refine eqA_of Try.underlying53 (by kernel_rfl) ?_
  refine eqf_cons (by rfl) (by go_simp; rfl) (by go_simp; rfl) (by go_simp) ?_
  refine eqf_cons (by rfl) (by go_simp; rfl) (by go_simp; rfl) (by go_simp) ?_
  exact eqf_last (by rfl) (by go_simp; rfl) (by go_simp; rfl) (by go_simp)

/-- Are two literals the same? -/
def eqB (x y : S53) : Bool := (x.f0.toList == y.f0.toList) && ((x.f1 == y.f1) && (x.f2 == y.f2))
theorem eqB_self (x : S53) : eqB x x = true := by simp [eqB]
theorem toList_inj {a b : ByteArray} (h : a.toList = b.toList) : a = b := by
  rw [ByteArray.toList_eq, ByteArray.toList_eq] at h
  exact WideShapes.bytes_inj h
theorem eqB_ne {x y : S53} (h : x ≠ y) : eqB x y = false := by
  cases hb : eqB x y with
  | false => rfl
  | true =>
    exfalso
    apply h
    obtain ⟨a, b, c⟩ := x
    obtain ⟨a', b', c'⟩ := y
    simp [eqB] at hb
    obtain ⟨h1, rfl, rfl⟩ := hb
    rw [toList_inj h1]
theorem eqS (d : Nat) (w : World) (x y : S53) :
    (Op.equalIn (d + 2) 53 (.agg #[.string x.f0, .int .i64 x.f1, .int .u64 x.f2]) (.agg #[.string y.f0, .int .i64 y.f1, .int .u64 y.f2])).run Try.prog w = .ok (eqB x y) w := eqA53 d w _ _ _ _ _ _

/-- A row that is not empty lies at the head of a block. -/
theorem lit_head {w : World} {base : Nat} {ok : Nat → Prop} {A : Option Addr} {n c : Nat} {L : List S53} (h : Kd.R k53 53 w base ok (.slice A n c) L) (hp : 0 < L.length) : ∃ g, A = some ⟨g, 0, none⟩ ∧ n = L.length ∧ ok g ∧ base ≤ g ∧ g < w.heap.size := by
  obtain ⟨g, cap, e, hb, hlt, _⟩ := Kd.R_form h hp
  injection e with e1 e2 e3
  subst e1 e2 e3
  exact ⟨g, rfl, rfl, h.1 g rfl, hb, hlt⟩
/-- A literal's cells in a row. -/
theorem lit_cells {w : World} {base : Nat} {ok : Nat → Prop} {g n c : Nat} {L : List S53} (h : Kd.R k53 53 w base ok (.slice (some ⟨g, 0, none⟩) n c) L) {i : Nat} {x : S53} (hi : L[i]? = some x) :
    w.cell? ⟨g, i * 3, none⟩ = some (.string x.f0) ∧ w.cell? ⟨g, i * 3 + 1, none⟩ = some (.int .i64 x.f1) ∧ w.cell? ⟨g, i * 3 + 2, none⟩ = some (.int .u64 x.f2) := by
  obtain ⟨rfl, _, hC⟩ := Kd.R_reads' h
  have hlt := (List.getElem?_eq_some_iff.1 hi).1
  obtain ⟨ad, e, hc⟩ := hC.2.2 (by omega)
  obtain rfl := Option.some.inj e
  obtain ⟨cs, _, hK, hcell⟩ := hc i x hi
  rw [k53_open hK] at hcell
  have h0 := hcell 0 _ rfl
  have h1 := hcell 1 _ rfl
  have h2 := hcell 2 _ rfl
  have e : k53.sz = 3 := rfl
  simp only [Addr.add_lit, Nat.zero_add, Nat.add_zero, e] at h0 h1 h2
  exact ⟨h0, h1, h2⟩
end Go.Proofs.Ytcfejagfognipaa.Po
