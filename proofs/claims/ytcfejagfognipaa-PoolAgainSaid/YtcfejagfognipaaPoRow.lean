/-
  A pool beside a row of numbers: what of them stays over Put and over append. No condition.
-/
import Derived.Test.YtcfejagfognipaaPoSt
import Derived.Test.YtcfejagfognipaaPoPooled
namespace Go.Proofs.Ytcfejagfognipaa.Po
open Go.RowKit Go.Proofs.YtcfejagfognipaaW.PrintWords Go.Proofs.YtcfejagfognipaaW.PrintLast Go.Proofs.YtcfejagfognipaaW.PrintMore
set_option linter.unusedVariables false

theorem info3 : (Try.prog.info? 3).map (fun i => (i.zero, i.size, i.bytes)) = some (some (.int .i64 0), 1, 8) := by kernel_rfl
/-- The numbers' row. -/
def Nums (w : World) (B : Nat) (v : Value) (xs : List Int) : Prop := Kd.R (Kd.int .i64) 3 w B (fun _ => True) v xs
/-- What a pool may have beside it. -/
def beside (B : Nat) (v : Value) (b : Nat) : Prop := B ≤ b ∧ some b ≠ v.ownBlock
theorem Nums.move {w w1 : World} {B : Nat} {v : Value} {xs : List Int} (h : Nums w B v xs) (hm : ∀ k, v.ownBlock = some k → w1.heap[k]? = w.heap[k]?) : Nums w1 B v xs :=
  Kd.R_mono (Kd.R_step (Kd.R_of_own (Kd.own_of_R h) (ok := fun k => v.ownBlock = some k) (fun _ e => e)) (fun k hk _ => hm k hk)) (fun _ _ => trivial)
theorem Nums.stays {w w1 : World} {B : Nat} {v : Value} {xs : List Int} (h : Nums w B v xs) {ok : Nat → Prop} (hs : Stays ok w w1) (hok : ∀ k, ok k → some k ≠ v.ownBlock) : Nums w1 B v xs :=
  h.move fun k e => hs.block k (Kd.R_lt h k e) (fun ho => hok k ho e.symm)
theorem Nums.below {w w1 : World} {B : Nat} {v : Value} {xs : List Int} (h : Nums w B v xs) (hb : Below w.heap.size w w1) : Nums w1 B v xs := Kd.R_below h hb
theorem Pool.appended {w w1 : World} {g B : Nat} {v v1 : Value} {L : List S53} (h : Pool w g (beside B v) L) (hg : w.grownBy w1 v.ownBlock) (hat : v1.ownBlock = v.ownBlock ∨ ∃ b, v1.ownBlock = some b ∧ w.heap.size ≤ b) : Pool w1 g (beside B v1) L :=
  (h.bound.move fun k hk hlt => hg.block k hlt hk.1.2).mono fun k hk => ⟨hk.1.1, by
    rcases hat with e | ⟨b, e, hb⟩
    · rw [e]; exact hk.1.2
    · rw [e]
      intro he
      injection he with he
      have := hk.2
      omega⟩

/-- Put, beside a row. -/
theorem put_beside (n : S49) (hn : WfN n) {w : World} {g B : Nat} {v : Value} {xs : List Int} {L : List S53} (h : Pool w g (beside B v) L) (hr : Nums w B v xs) (hB : B ≤ w.heap.size) :
    Calls Try.prog 28 #[.pointer (some ⟨g, 0, none⟩), .agg #[.int .i64 n.f0, .string n.f1, .int .i64 n.f2, .bool n.f3, .int .u64 n.f4]] w fun en w' =>
      en = .returned (.tuple #[.int .i64 (putF L n).1, .int .i64 (putF L n).2.1]) ∧ Pool w' g (beside B v) (putF L n).2.2 ∧ Nums w' B v xs ∧ Below B w w' ∧ B ≤ w'.heap.size :=
  (put_walk n (ofF_wf n hn) h (fun k hk => ⟨Nat.le_trans hB hk, fun e => by have := Kd.R_lt hr k e.symm; omega⟩) (putF_R L n)).mono fun _ _ ⟨h1, h2, h3⟩ =>
    ⟨h1, h2, hr.stays h3 (fun _ hk => hk.2), h3.below hB (fun _ hk => hk.1), Nat.le_trans hB h3.size⟩
/-- Take, beside a row. -/
theorem take_beside {w : World} {g B : Nat} {v : Value} {xs : List Int} {L : List S53} (h : Pool w g (beside B v) L) (hr : Nums w B v xs) (hB : B ≤ w.heap.size) :
    Calls Try.prog 31 #[.pointer (some ⟨g, 0, none⟩)] w fun e w' => ∃ N A c, e = .returned (.slice A L.length c) ∧ Kd.R k53 53 w' N (fun _ => True) (.slice A L.length c) L ∧
      Pool w' g (fun k => beside B v k ∧ k < N) [] ∧ Nums w' B v xs ∧ Below B w w' ∧ B ≤ w'.heap.size ∧ B ≤ N ∧ ∀ k, v.ownBlock = some k → k < N :=
  (take_walk h).mono fun _ _ ⟨v', h0, h1, h2, h3⟩ => by
    obtain ⟨A, c, rfl⟩ := Kd.R_slice h1
    exact ⟨w.heap.size, A, c, h0, h1, h2, hr.stays h3 (fun _ hk => hk.2), h3.below hB (fun _ hk => hk.1), Nat.le_trans hB h3.size, hB, Kd.R_lt hr⟩
theorem pool_len {w : World} {g : Nat} {ok : Nat → Prop} {L : List S53} (h : Pool w g ok L) : L.length ≤ 64 := by
  obtain ⟨_, _, h⟩ := h
  exact h.len

/-- The block of a row that is not empty. -/
theorem row_block {w : World} {base g n c : Nat} {ok : Nat → Prop} {L : List S53} (h : Kd.R k53 53 w base ok (.slice (some ⟨g, 0, none⟩) n c) L) (hp : 0 < L.length) :
    base ≤ g ∧ ∃ cs, w.heap[g]? = some (.cells cs 53 (0, 0)) ∧ L.length * 3 ≤ cs.size := by
  obtain ⟨g', cap, e, hb, hlt, cells, hc⟩ := Kd.R_form h hp
  injection e with e1 e2 e3
  injection e1 with e1
  injection e1 with e1
  subst e1 e2
  refine ⟨hb, cells, hc, ?_⟩
  have hx : L[L.length - 1]? = some (L[L.length - 1]'(by omega)) := List.getElem?_eq_getElem (by omega)
  have := (lit_cells h hx).2.2
  rw [blk_cell hc] at this
  have := (Array.getElem?_eq_some_iff.1 this).1
  omega
/-- A number of the row. -/
theorem nums_form {w : World} {B : Nat} {v : Value} {xs : List Int} (h : Nums w B v xs) (hp : 0 < xs.length) : ∃ g c, v = .slice (some ⟨g, 0, none⟩) xs.length c := by
  obtain ⟨g, c, e, _⟩ := Kd.R_form h hp
  exact ⟨g, c, e⟩
theorem nums_cell {w : World} {B g n c : Nat} {xs : List Int} (h : Nums w B (.slice (some ⟨g, 0, none⟩) n c) xs) {k : Nat} {x : Int} (hx : xs[k]? = some x) : w.cell? ⟨g, k, none⟩ = some (.int .i64 x) := by
  have hlt := (List.getElem?_eq_some_iff.1 hx).1
  have h1 := (Kd.R_celln (0 : Int) h (k : Int) (by omega) (by have := (Kd.R_reads' h).1; omega)).1
  have e : rdOf (0 : Int) xs (k : Int) = x := by simp [rdOf, hx]
  rw [e] at h1
  exact h1
/-- Where a row of literals lies, if it is not empty. -/
def Lies (w : World) (N : Nat) (A : Option Addr) (m : Nat) : Prop := 0 < m → ∃ g cs, A = some ⟨g, 0, none⟩ ∧ N ≤ g ∧ w.heap[g]? = some (.cells cs 53 (0, 0)) ∧ m * 3 ≤ cs.size
theorem lies {w : World} {N c : Nat} {ok : Nat → Prop} {A : Option Addr} {L : List S53} (h : Kd.R k53 53 w N ok (.slice A L.length c) L) : Lies w N A L.length := by
  intro hp
  obtain ⟨g, rfl, _⟩ := lit_head h hp
  obtain ⟨hb, cs, hc, hs⟩ := row_block h hp
  exact ⟨g, cs, rfl, hb, hc, hs⟩
/-- A store past the pool and past the numbers. -/
theorem Pool.past {w : World} {g B N : Nat} {v : Value} {L : List S53} (h : Pool w g (fun k => beside B v k ∧ k < N) L) {p : Addr} (hp : N ≤ p.block) (u : Value) : Pool (w.setCell p u) g (fun k => beside B v k ∧ k < N) L :=
  h.move fun k hk _ => Below.heap_setCell w p u k (by have := hk.2; omega)
theorem Nums.past {w : World} {B N : Nat} {v : Value} {xs : List Int} (h : Nums w B v xs) (hN : ∀ k, v.ownBlock = some k → k < N) {p : Addr} (hp : N ≤ p.block) (u : Value) : Nums (w.setCell p u) B v xs :=
  h.move fun k e => Below.heap_setCell w p u k (by have := hN k e; omega)
end Go.Proofs.Ytcfejagfognipaa.Po
