/-
  The walk of row.find: a literal's place, or none. Condition: the pool stands, the literal is one that a machine can hold.
-/
import Derived.Test.YtcfejagfognipaaPoB
import Derived.WalkKit
import Derived.BigQuiet
namespace Go.Proofs.Ytcfejagfognipaa.Po
open Go.RowKit Go.Proofs.YtcfejagfognipaaW.PrintWords Go.Proofs.YtcfejagfognipaaW.PrintLast Go.Proofs.YtcfejagfognipaaW.PrintMore
set_option linter.unusedVariables false
set_option linter.unusedSimpArgs false

set_option maxHeartbeats 1000000 in
set_option maxRecDepth 100000 in
theorem find_walk (g : Nat) (x : S53) (c : Int) (r : Bool) (sl : Value) (mo : Option Nat) (w : World) (hb : w.heap[g]? = some (.cells #[sl, .map mo] 75 (0, 0)))
    (hl : ∀ n, (Instr.lookup 71 (.map mo) (.agg #[.string x.f0, .int .i64 x.f1, .int .u64 x.f2]) true).run Try.prog ((w.alloc (.cells #[.string x.f0, .int .i64 x.f1, .int .u64 x.f2] 53 (0, 0))).drewN n) = .ok (.tuple #[.int .i64 c, .bool r]) ((w.alloc (.cells #[.string x.f0, .int .i64 x.f1, .int .u64 x.f2] 53 (0, 0))).drewN n)) :
    Calls Try.prog 38 #[.pointer (some ⟨g, 0, none⟩), .agg #[.string x.f0, .int .i64 x.f1, .int .u64 x.f2]] w fun e w' => e = .returned (.tuple #[.int .i64 c, .bool r]) ∧ Below w.heap.size w w' := by
  have hu53 := Try.underlying53
  have hc1 : w.cell? ⟨g, 1, none⟩ = some (.map mo) := (blk_cell hb 1).trans rfl
  have hlt := blk_lt hb
  have hne : g ≠ w.heap.size := by omega
  clear hb
  go_enter Try.func38, Try.ntmps38
  go_wp2
  go_quiet (fail)
  go_wp2
  go_ret2
  exact ⟨rfl, pw_below_drewN (below_alloc (Below.refl _ _) _) _⟩

theorem find_in {w : World} {g : Nat} {ok : Nat → Prop} {sl : Value} {mo : Option Nat} {L : List S53} (h : PoolAt w g ok sl mo L) {x : S53} (hx : Wf x) {i : Nat} (hi : L[i]? = some x) :
    Calls Try.prog 38 #[.pointer (some ⟨g, 0, none⟩), .agg #[.string x.f0, .int .i64 x.f1, .int .u64 x.f2]] w fun e w' => e = .returned (.tuple #[.int .i64 (i : Int), .bool true]) ∧ Below w.heap.size w w' :=
  find_walk g x i true sl mo w h.blk (fun n => look_found (h.map.below (pw_below_drewN (below_alloc (Below.refl _ _) _) n)) hx hi)
theorem find_no {w : World} {g : Nat} {ok : Nat → Prop} {sl : Value} {mo : Option Nat} {L : List S53} (h : PoolAt w g ok sl mo L) {x : S53} (hx : Wf x) (hn : x ∉ L) :
    Calls Try.prog 38 #[.pointer (some ⟨g, 0, none⟩), .agg #[.string x.f0, .int .i64 x.f1, .int .u64 x.f2]] w fun e w' => e = .returned (.tuple #[.int .i64 0, .bool false]) ∧ Below w.heap.size w w' :=
  find_walk g x 0 false sl mo w h.blk (fun n => look_none (h.map.below (pw_below_drewN (below_alloc (Below.refl _ _) _) n)) hx hn)
end Go.Proofs.Ytcfejagfognipaa.Po
