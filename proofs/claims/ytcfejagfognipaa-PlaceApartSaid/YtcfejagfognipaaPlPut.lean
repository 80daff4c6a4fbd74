/-
  The walk of the closure inside place.Lay: it lays one block. Condition: its variable lies in a block of its own.
-/
import Derived.Test.YtcfejagfognipaaPlUp
import Derived.WalkKit
namespace Go.Proofs.Ytcfejagfognipaa.Pl
open Go.RowKit Go.Proofs.YtcfejagfognipaaW.PrintWords Go.Proofs.YtcfejagfognipaaW.PrintLast Go.Proofs.YtcfejagfognipaaW.PrintMore
set_option linter.unusedVariables false
set_option linter.unusedSimpArgs false
set_option maxHeartbeats 400000 in
set_option maxRecDepth 100000 in
theorem lay_put (k : Nat) (a0 a1 x t u : Int) (gE : Nat) (w : World) (hE : w.heap[gE]? = some (.cells #[.int .u64 x] 22 (0, 0)))
    (hu : place_Up.f k x a1 = some (t, u)) :
    Calls Try.prog 35 #[.agg #[.int .i64 a0, .int .i64 a1], .pointer (some ⟨gE, 0, none⟩)] w fun e w' => e = .returned (.int .u64 t) ∧
      ∃ n, w' = (((w.alloc (.cells #[.int .i64 a0, .int .i64 a1] 34 (0, 0))).drewN n).setCell ⟨gE, 0, none⟩ (.int .u64 (IntKind.u64.wrap (t + IntKind.u64.wrap a0)))) := by
  have hu34 := Try.underlying34
  have HU := Aside0.mk hu
  have hcE : w.cell? ⟨gE, 0, none⟩ = some (.int .u64 x) := (blk_cell hE 0).trans rfl
  have hfE := blk_frozen hE 0
  have hlt := blk_lt hE
  have hne : gE ≠ w.heap.size := by omega
  have hne2 : w.heap.size ≠ gE := by omega
  clear hu hE
  go_enter Try.func35, Try.ntmps35
  go_wp2_with (go_at_call 14; refine (place_Up.calls k x a1 t u _ HU.out).mono ?_; rintro e w' ⟨rfl, ⟨nd, rfl⟩⟩)
  go_ret
  refine ⟨rfl, ?_⟩
  exact ⟨_, rfl⟩
/-- The same, with the world behind the call told by what it keeps. -/
theorem lay_put_keeps (k : Nat) (a0 a1 x t u : Int) (gE : Nat) (w : World) (hE : w.heap[gE]? = some (.cells #[.int .u64 x] 22 (0, 0)))
    (hu : place_Up.f k x a1 = some (t, u)) :
    Calls Try.prog 35 #[.agg #[.int .i64 a0, .int .i64 a1], .pointer (some ⟨gE, 0, none⟩)] w fun e w' => e = .returned (.int .u64 t) ∧
      w'.heap[gE]? = some (.cells #[.int .u64 (IntKind.u64.wrap (t + IntKind.u64.wrap a0))] 22 (0, 0)) ∧ KeepBut w w' gE none ∧ Below gE w w' := by
  refine (lay_put k a0 a1 x t u gE w hE hu).mono ?_
  rintro e w' ⟨he, n, rfl⟩
  refine ⟨he, ?_, ?_, ?_⟩
  · exact blk_put (cs := #[.int .u64 x]) (blk_drewN (blk_alloc hE _) _) 0 _ rfl
  · exact KeepBut.set_ (keep_drewN (keep_alloc (KeepBut.refl _ _ _) _) _) _ _
  · exact (pw_below_drewN ((Below.refl _ _).alloc (Nat.le_of_lt (blk_lt hE)) _) _).setCell (Nat.le_refl _) _
end Go.Proofs.Ytcfejagfognipaa.Pl
