/-
  Literals of a pool as Lean structures: how they lie in memory, and what they are as keys of a map. No condition.
-/
import Derived.Test.YtcfejagfognipaaProg
import Derived.Test.YtcfejagfognipaaWWords
import Derived.Test.YtcfejagfognipaaWLast
import Derived.Test.YtcfejagfognipaaWMore
import Derived.Maps.Own
import Derived.Maps.OwnOps
import Derived.Maps.OwnSet
import Derived.Maps.Views
import Derived.DeepKeys5
import Derived.KernelRfl
namespace Go.Proofs.Ytcfejagfognipaa.Po
open Go.RowKit Go.Proofs.YtcfejagfognipaaW.PrintWords Go.Proofs.YtcfejagfognipaaW.PrintLast Go.Proofs.YtcfejagfognipaaW.PrintMore
open Go.Maps (Keyed)

/-- A literal: its symbol, what is added, its number. -/
structure S53 where
  f0 : ByteArray
  f1 : Int
  f2 : Int
def z53 : S53 := ⟨⟨#[]⟩, 0, 0⟩
instance : Inhabited S53 := ⟨z53⟩
def k53 : Kd S53 := Kd.iso (Kd.pair Kd.string (Kd.pair (Kd.int .i64) (Kd.int .u64))) (fun x : S53 => (x.f0, x.f1, x.f2))
theorem k53_open {w : World} {x : S53} {cs : List Value} (h : k53.K w x cs) : cs = [.string x.f0, .int .i64 x.f1, .int .u64 x.f2] := by
  obtain ⟨_, _, rfl, rfl, ⟨_, _, rfl, rfl, rfl⟩⟩ := h
  exact rfl
theorem k53_openM {w : World} {base : Nat} {ok : Nat → Prop} {x : S53} {cs : List Value} (h : k53.M w base ok x cs) : cs = [.string x.f0, .int .i64 x.f1, .int .u64 x.f2] := by
  obtain ⟨_, _, rfl, rfl, ⟨_, _, rfl, rfl, rfl⟩⟩ := h
  exact rfl
theorem k53_mk (w : World) (x : S53) : k53.K w x [.string x.f0, .int .i64 x.f1, .int .u64 x.f2] := ⟨[.string x.f0], [.int .i64 x.f1, .int .u64 x.f2], rfl, rfl, ⟨[.int .i64 x.f1], [.int .u64 x.f2], rfl, rfl, rfl⟩⟩
theorem k53_mkM (w : World) (base : Nat) (ok : Nat → Prop) (x : S53) : k53.M w base ok x [.string x.f0, .int .i64 x.f1, .int .u64 x.f2] := ⟨[.string x.f0], [.int .i64 x.f1, .int .u64 x.f2], rfl, rfl, ⟨[.int .i64 x.f1], [.int .u64 x.f2], rfl, rfl, rfl⟩⟩

/-- The value that a literal is. -/
def S53.val (x : S53) : Value := .agg #[.string x.f0, .int .i64 x.f1, .int .u64 x.f2]
theorem val_inj {x y : S53} (h : x.val = y.val) : x = y := by
  cases x; cases y
  unfold S53.val at h
  injection h with h
  simp at h
  obtain ⟨rfl, rfl, rfl⟩ := h
  rfl
/-- A literal that a machine can hold. -/
def Wf (x : S53) : Prop := x.f0.size ≤ maxLen ∧ (Lit.int .i64 x.f1).wf = true ∧ (Lit.int .u64 x.f2).wf = true

/-- What a literal is as a key. -/
def S53.key (x : S53) : Lit := .string (keyBytes [.string x.f0.data.toList, .int .i64 x.f1, .int .u64 x.f2])

theorem laidOut : laidOutB Try.prog = true := by kernel_rfl
theorem law53 : Keyed Try.prog 53 := Keyed.of_law (deep_law_gate laidOut (of_decide_eq_true (by kernel_rfl)) (of_decide_eq_true (by kernel_rfl)) (by kernel_rfl) (by kernel_rfl))

theorem keyType53 : Try.prog.keyType 53 = true := by kernel_rfl
theorem size98 : Try.prog.types.size + 1 = 97 + 2 := by kernel_rfl
theorem cells53 : Try.prog.cellsOf 53 = 3 := by kernel_rfl
theorem cells9 : Try.prog.cellsOf 9 = 1 := by kernel_rfl
theorem cells3 : Try.prog.cellsOf 3 = 1 := by kernel_rfl
theorem cells22 : Try.prog.cellsOf 22 = 1 := by kernel_rfl

theorem lit9 (n : Nat) (s : ByteArray) (h : s.size ≤ maxLen) : Try.prog.keyLits (n + 1) 9 [.string s] = some [.string s.data.toList] := by
  unfold Program.keyLits
  simp only [Try.underlying9]
  rw [if_pos h]
theorem lit3 (n : Nat) (a : Int) (h : (Lit.int .i64 a).wf = true) : Try.prog.keyLits (n + 1) 3 [.int .i64 a] = some [.int .i64 a] := by
  unfold Program.keyLits
  simp only [Try.underlying3]
  rw [if_pos ⟨trivial, h⟩]
theorem lit22 (n : Nat) (a : Int) (h : (Lit.int .u64 a).wf = true) : Try.prog.keyLits (n + 1) 22 [.int .u64 a] = some [.int .u64 a] := by
  unfold Program.keyLits
  simp only [Try.underlying22]
  rw [if_pos ⟨trivial, h⟩]
theorem key_of (x : S53) (h : Wf x) : keyOf Try.prog 53 x.val = some x.key := by
  obtain ⟨h0, h1, h2⟩ := h
  unfold keyOf S53.val S53.key
  simp only [Try.underlying53]
  have hf : Value.formed Try.prog 53 (.agg #[.string x.f0, .int .i64 x.f1, .int .u64 x.f2]) = true := by
    simp [Value.formed, Try.underlying53, cells53]
  rw [hf, keyType53, if_pos (by decide), size98]
  unfold Program.keyLits
  simp only [Try.underlying53, Value.cells]
  rw [if_pos (by simp [cells53])]
  have e9 : Try.prog.keyLits 98 9 [.string x.f0] = some [.string x.f0.data.toList] := lit9 97 _ h0
  have e3 : Try.prog.keyLits 98 3 [.int .i64 x.f1] = some [.int .i64 x.f1] := lit3 97 _ h1
  have e22 : Try.prog.keyLits 98 22 [.int .u64 x.f2] = some [.int .u64 x.f2] := lit22 97 _ h2
  simp only [List.mapM_cons, List.mapM_nil, cells9, cells3, cells22, List.drop_zero, List.take_succ_cons, List.take_zero, List.drop_succ_cons, e9, e3, e22]
  rfl

theorem key_inj {x y : S53} (hx : Wf x) (hy : Wf y) (h : x.key = y.key) : x = y := by
  have a := key_of x hx
  have b := key_of y hy
  rw [h] at a
  exact val_inj (law53.inj a b)
theorem key_isKey {x : S53} (hx : Wf x) : WideAt.IsKeyLit x.key := law53.key (key_of x hx)
theorem wf_small (n : Nat) (h : n ≤ 1000) : (Lit.int .i64 (n : Int)).wf = true := by
  have e1 : IntKind.i64.min = -9223372036854775808 := by decide
  have e2 : IntKind.i64.max = 9223372036854775807 := by decide
  have : IntKind.i64.min ≤ (n : Int) ∧ (n : Int) ≤ IntKind.i64.max := by omega
  simpa [Lit.wf] using this
end Go.Proofs.Ytcfejagfognipaa.Po
