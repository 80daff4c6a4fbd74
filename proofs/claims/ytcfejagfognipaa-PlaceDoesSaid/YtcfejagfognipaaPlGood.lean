/-
  The walk of place.Good, each way by itself: what it answers is goodB. No condition.
-/
import Derived.Test.YtcfejagfognipaaPlx0
import Derived.WalkKit
import Derived.Laws.Rows
import Derived.LoopN
namespace Go.Proofs.Ytcfejagfognipaa.Pl
open Go.RowKit Go.Proofs.YtcfejagfognipaaW.PrintWords Go.Proofs.YtcfejagfognipaaW.PrintLast Go.Proofs.YtcfejagfognipaaW.PrintMore
attribute [local go_sem] max2_int min2_int max_two min_two max_three min_three max_four min_four   -- for this text's walks alone
set_option linter.unusedVariables false
set_option linter.unusedSimpArgs false

/-- Is a place out of the question? -/
def badPlace (x : Int) : Bool := Int.tmod x 4096 != 0 || decide (2305843009213693952 < x)
/-- Are two places too near? -/
def tooNear (x y : Int) : Bool := decide (IntKind.u64.wrap (mx x y - mn x y) < 16777216)
/-- May a branch go so far? -/
def okReach (d : Int) : Bool := (Int.tmod d 4 == 0) && decide (8192 ≤ d) && decide (d ≤ 134217724)
/-- What place.Good answers. -/
def goodB (a b c d : Int) : Bool :=
  if badPlace a = true then false else if badPlace b = true then false else if tooNear b a = true then false else if badPlace c = true then false else if tooNear c a = true then false else if tooNear c b = true then false else okReach d
def place_Good.f (_k : Nat) (a b c d : Int) : Option Bool := some (goodB a b c d)
theorem place_Good.mono : ∀ a0 a1 a2 a3 k, LeO (place_Good.f k a0 a1 a2 a3) (place_Good.f (k + 1) a0 a1 a2 a3) := fun _ _ _ _ _ => LeO.refl _

theorem bad_no {x : Int} (h : badPlace x = false) : (Int.tmod x 4096 != 0) = false ∧ decide (2305843009213693952 < x) = false := by
  unfold badPlace at h
  exact Bool.or_eq_false_iff.mp h
theorem bad_yes {x : Int} (h : badPlace x = true) : (Int.tmod x 4096 != 0) = true ∨ ((Int.tmod x 4096 != 0) = false ∧ decide (2305843009213693952 < x) = true) := by
  unfold badPlace at h
  cases hb : (Int.tmod x 4096 != 0) with
  | true => exact .inl rfl
  | false => rw [hb] at h; exact .inr ⟨rfl, by simpa using h⟩
theorem near_is {x y : Int} {b : Bool} (h : tooNear x y = b) : decide (IntKind.u64.wrap (mx x y - mn x y) < 16777216) = b := h
set_option maxHeartbeats 2000000 in
set_option maxRecDepth 100000 in
theorem good_bad1a (a b c d : Int) (w : World) (ha1 : (Int.tmod a 4096 != 0) = true) :
    Calls Try.prog 19 #[.agg #[.int .u64 a, .int .u64 b, .int .u64 c, .int .i64 d]] w fun e w' => e = .returned (.bool false) ∧ Below w.heap.size w w' := by
  have hu24 := Try.underlying24
  have i0 : ∀ (x y z : Value) (w : World), (Instr.index 68 (.agg #[x, y, z]) (.int .i64 0)).run Try.prog w = .ok x w := fun _ _ _ _ => by kernel_rfl
  have i1 : ∀ (x y z : Value) (w : World), (Instr.index 68 (.agg #[x, y, z]) (.int .i64 1)).run Try.prog w = .ok y w := fun _ _ _ _ => by kernel_rfl
  have i2 : ∀ (x y z : Value) (w : World), (Instr.index 68 (.agg #[x, y, z]) (.int .i64 2)).run Try.prog w = .ok z w := fun _ _ _ _ => by kernel_rfl
  go_enter Try.func19, Try.ntmps19
  go_wp2
  refine wp_loop_rounds 4 ?_
  rw [rounds_succ]
  go_wp2
  first | go_ret | (go_quiet (fail); go_wp2; go_ret)
  exact ⟨rfl, by repeat (first | exact Below.refl _ _ | apply below_alloc | apply pw_below_drewN | apply below_drew1)⟩
set_option maxHeartbeats 2000000 in
set_option maxRecDepth 100000 in
theorem good_bad2a (a b c d : Int) (w : World) (ha1 : (Int.tmod a 4096 != 0) = false) (ha2 : decide (2305843009213693952 < a) = true) :
    Calls Try.prog 19 #[.agg #[.int .u64 a, .int .u64 b, .int .u64 c, .int .i64 d]] w fun e w' => e = .returned (.bool false) ∧ Below w.heap.size w w' := by
  have hu24 := Try.underlying24
  have i0 : ∀ (x y z : Value) (w : World), (Instr.index 68 (.agg #[x, y, z]) (.int .i64 0)).run Try.prog w = .ok x w := fun _ _ _ _ => by kernel_rfl
  have i1 : ∀ (x y z : Value) (w : World), (Instr.index 68 (.agg #[x, y, z]) (.int .i64 1)).run Try.prog w = .ok y w := fun _ _ _ _ => by kernel_rfl
  have i2 : ∀ (x y z : Value) (w : World), (Instr.index 68 (.agg #[x, y, z]) (.int .i64 2)).run Try.prog w = .ok z w := fun _ _ _ _ => by kernel_rfl
  go_enter Try.func19, Try.ntmps19
  go_wp2
  refine wp_loop_rounds 4 ?_
  rw [rounds_succ]
  go_wp2
  first | go_ret | (go_quiet (fail); go_wp2; go_ret)
  exact ⟨rfl, by repeat (first | exact Below.refl _ _ | apply below_alloc | apply pw_below_drewN | apply below_drew1)⟩
set_option maxHeartbeats 2000000 in
set_option maxRecDepth 100000 in
theorem good_bad1b (a b c d : Int) (w : World) (ha1 : (Int.tmod a 4096 != 0) = false) (ha2 : decide (2305843009213693952 < a) = false) (hb1 : (Int.tmod b 4096 != 0) = true) :
    Calls Try.prog 19 #[.agg #[.int .u64 a, .int .u64 b, .int .u64 c, .int .i64 d]] w fun e w' => e = .returned (.bool false) ∧ Below w.heap.size w w' := by
  have hu24 := Try.underlying24
  have i0 : ∀ (x y z : Value) (w : World), (Instr.index 68 (.agg #[x, y, z]) (.int .i64 0)).run Try.prog w = .ok x w := fun _ _ _ _ => by kernel_rfl
  have i1 : ∀ (x y z : Value) (w : World), (Instr.index 68 (.agg #[x, y, z]) (.int .i64 1)).run Try.prog w = .ok y w := fun _ _ _ _ => by kernel_rfl
  have i2 : ∀ (x y z : Value) (w : World), (Instr.index 68 (.agg #[x, y, z]) (.int .i64 2)).run Try.prog w = .ok z w := fun _ _ _ _ => by kernel_rfl
  go_enter Try.func19, Try.ntmps19
  go_wp2
  refine wp_loop_rounds 4 ?_
  rw [rounds_succ]
  go_wp2
  refine wp_loop_rounds 1 ?_
  rw [rounds_succ]
  go_wp2
  rw [rounds_succ]
  go_wp2
  first | go_ret | (go_quiet (fail); go_wp2; go_ret)
  exact ⟨rfl, by repeat (first | exact Below.refl _ _ | apply below_alloc | apply pw_below_drewN | apply below_drew1)⟩
set_option maxHeartbeats 2000000 in
set_option maxRecDepth 100000 in
theorem good_bad2b (a b c d : Int) (w : World) (ha1 : (Int.tmod a 4096 != 0) = false) (ha2 : decide (2305843009213693952 < a) = false) (hb1 : (Int.tmod b 4096 != 0) = false) (hb2 : decide (2305843009213693952 < b) = true) :
    Calls Try.prog 19 #[.agg #[.int .u64 a, .int .u64 b, .int .u64 c, .int .i64 d]] w fun e w' => e = .returned (.bool false) ∧ Below w.heap.size w w' := by
  have hu24 := Try.underlying24
  have i0 : ∀ (x y z : Value) (w : World), (Instr.index 68 (.agg #[x, y, z]) (.int .i64 0)).run Try.prog w = .ok x w := fun _ _ _ _ => by kernel_rfl
  have i1 : ∀ (x y z : Value) (w : World), (Instr.index 68 (.agg #[x, y, z]) (.int .i64 1)).run Try.prog w = .ok y w := fun _ _ _ _ => by kernel_rfl
  have i2 : ∀ (x y z : Value) (w : World), (Instr.index 68 (.agg #[x, y, z]) (.int .i64 2)).run Try.prog w = .ok z w := fun _ _ _ _ => by kernel_rfl
  go_enter Try.func19, Try.ntmps19
  go_wp2
  refine wp_loop_rounds 4 ?_
  rw [rounds_succ]
  go_wp2
  refine wp_loop_rounds 1 ?_
  rw [rounds_succ]
  go_wp2
  rw [rounds_succ]
  go_wp2
  first | go_ret | (go_quiet (fail); go_wp2; go_ret)
  exact ⟨rfl, by repeat (first | exact Below.refl _ _ | apply below_alloc | apply pw_below_drewN | apply below_drew1)⟩
set_option maxHeartbeats 2000000 in
set_option maxRecDepth 100000 in
theorem good_nearba (a b c d : Int) (w : World) (ha1 : (Int.tmod a 4096 != 0) = false) (ha2 : decide (2305843009213693952 < a) = false) (hb1 : (Int.tmod b 4096 != 0) = false) (hb2 : decide (2305843009213693952 < b) = false) (Mba Nba : Int) (eMba : (if b < a then a else b) = Mba) (eNba : (if a < b then a else b) = Nba) (hba : decide (IntKind.u64.wrap (Mba - Nba) < 16777216) = true) :
    Calls Try.prog 19 #[.agg #[.int .u64 a, .int .u64 b, .int .u64 c, .int .i64 d]] w fun e w' => e = .returned (.bool false) ∧ Below w.heap.size w w' := by
  have hu24 := Try.underlying24
  have i0 : ∀ (x y z : Value) (w : World), (Instr.index 68 (.agg #[x, y, z]) (.int .i64 0)).run Try.prog w = .ok x w := fun _ _ _ _ => by kernel_rfl
  have i1 : ∀ (x y z : Value) (w : World), (Instr.index 68 (.agg #[x, y, z]) (.int .i64 1)).run Try.prog w = .ok y w := fun _ _ _ _ => by kernel_rfl
  have i2 : ∀ (x y z : Value) (w : World), (Instr.index 68 (.agg #[x, y, z]) (.int .i64 2)).run Try.prog w = .ok z w := fun _ _ _ _ => by kernel_rfl
  go_enter Try.func19, Try.ntmps19
  go_wp2
  refine wp_loop_rounds 4 ?_
  rw [rounds_succ]
  go_wp2
  refine wp_loop_rounds 1 ?_
  rw [rounds_succ]
  go_wp2
  rw [rounds_succ]
  go_wp2
  refine wp_loop_rounds 2 ?_
  rw [rounds_succ]
  go_wp2
  first | go_ret | (go_quiet (fail); go_wp2; go_ret)
  exact ⟨rfl, by repeat (first | exact Below.refl _ _ | apply below_alloc | apply pw_below_drewN | apply below_drew1)⟩
set_option maxHeartbeats 2000000 in
set_option maxRecDepth 100000 in
theorem good_bad1c (a b c d : Int) (w : World) (ha1 : (Int.tmod a 4096 != 0) = false) (ha2 : decide (2305843009213693952 < a) = false) (hb1 : (Int.tmod b 4096 != 0) = false) (hb2 : decide (2305843009213693952 < b) = false) (Mba Nba : Int) (eMba : (if b < a then a else b) = Mba) (eNba : (if a < b then a else b) = Nba) (hba : decide (IntKind.u64.wrap (Mba - Nba) < 16777216) = false) (hc1 : (Int.tmod c 4096 != 0) = true) :
    Calls Try.prog 19 #[.agg #[.int .u64 a, .int .u64 b, .int .u64 c, .int .i64 d]] w fun e w' => e = .returned (.bool false) ∧ Below w.heap.size w w' := by
  have hu24 := Try.underlying24
  have i0 : ∀ (x y z : Value) (w : World), (Instr.index 68 (.agg #[x, y, z]) (.int .i64 0)).run Try.prog w = .ok x w := fun _ _ _ _ => by kernel_rfl
  have i1 : ∀ (x y z : Value) (w : World), (Instr.index 68 (.agg #[x, y, z]) (.int .i64 1)).run Try.prog w = .ok y w := fun _ _ _ _ => by kernel_rfl
  have i2 : ∀ (x y z : Value) (w : World), (Instr.index 68 (.agg #[x, y, z]) (.int .i64 2)).run Try.prog w = .ok z w := fun _ _ _ _ => by kernel_rfl
  go_enter Try.func19, Try.ntmps19
  go_wp2
  refine wp_loop_rounds 4 ?_
  rw [rounds_succ]
  go_wp2
  refine wp_loop_rounds 1 ?_
  rw [rounds_succ]
  go_wp2
  rw [rounds_succ]
  go_wp2
  refine wp_loop_rounds 2 ?_
  rw [rounds_succ]
  go_wp2
  rw [rounds_succ]
  go_wp2
  rw [rounds_succ]
  go_wp2
  first | go_ret | (go_quiet (fail); go_wp2; go_ret)
  exact ⟨rfl, by repeat (first | exact Below.refl _ _ | apply below_alloc | apply pw_below_drewN | apply below_drew1)⟩
set_option maxHeartbeats 2000000 in
set_option maxRecDepth 100000 in
theorem good_bad2c (a b c d : Int) (w : World) (ha1 : (Int.tmod a 4096 != 0) = false) (ha2 : decide (2305843009213693952 < a) = false) (hb1 : (Int.tmod b 4096 != 0) = false) (hb2 : decide (2305843009213693952 < b) = false) (Mba Nba : Int) (eMba : (if b < a then a else b) = Mba) (eNba : (if a < b then a else b) = Nba) (hba : decide (IntKind.u64.wrap (Mba - Nba) < 16777216) = false) (hc1 : (Int.tmod c 4096 != 0) = false) (hc2 : decide (2305843009213693952 < c) = true) :
    Calls Try.prog 19 #[.agg #[.int .u64 a, .int .u64 b, .int .u64 c, .int .i64 d]] w fun e w' => e = .returned (.bool false) ∧ Below w.heap.size w w' := by
  have hu24 := Try.underlying24
  have i0 : ∀ (x y z : Value) (w : World), (Instr.index 68 (.agg #[x, y, z]) (.int .i64 0)).run Try.prog w = .ok x w := fun _ _ _ _ => by kernel_rfl
  have i1 : ∀ (x y z : Value) (w : World), (Instr.index 68 (.agg #[x, y, z]) (.int .i64 1)).run Try.prog w = .ok y w := fun _ _ _ _ => by kernel_rfl
  have i2 : ∀ (x y z : Value) (w : World), (Instr.index 68 (.agg #[x, y, z]) (.int .i64 2)).run Try.prog w = .ok z w := fun _ _ _ _ => by kernel_rfl
  go_enter Try.func19, Try.ntmps19
  go_wp2
  refine wp_loop_rounds 4 ?_
  rw [rounds_succ]
  go_wp2
  refine wp_loop_rounds 1 ?_
  rw [rounds_succ]
  go_wp2
  rw [rounds_succ]
  go_wp2
  refine wp_loop_rounds 2 ?_
  rw [rounds_succ]
  go_wp2
  rw [rounds_succ]
  go_wp2
  rw [rounds_succ]
  go_wp2
  first | go_ret | (go_quiet (fail); go_wp2; go_ret)
  exact ⟨rfl, by repeat (first | exact Below.refl _ _ | apply below_alloc | apply pw_below_drewN | apply below_drew1)⟩
set_option maxHeartbeats 2000000 in
set_option maxRecDepth 100000 in
theorem good_nearca (a b c d : Int) (w : World) (ha1 : (Int.tmod a 4096 != 0) = false) (ha2 : decide (2305843009213693952 < a) = false) (hb1 : (Int.tmod b 4096 != 0) = false) (hb2 : decide (2305843009213693952 < b) = false) (Mba Nba : Int) (eMba : (if b < a then a else b) = Mba) (eNba : (if a < b then a else b) = Nba) (hba : decide (IntKind.u64.wrap (Mba - Nba) < 16777216) = false) (hc1 : (Int.tmod c 4096 != 0) = false) (hc2 : decide (2305843009213693952 < c) = false) (Mca Nca : Int) (eMca : (if c < a then a else c) = Mca) (eNca : (if a < c then a else c) = Nca) (hca : decide (IntKind.u64.wrap (Mca - Nca) < 16777216) = true) :
    Calls Try.prog 19 #[.agg #[.int .u64 a, .int .u64 b, .int .u64 c, .int .i64 d]] w fun e w' => e = .returned (.bool false) ∧ Below w.heap.size w w' := by
  have hu24 := Try.underlying24
  have i0 : ∀ (x y z : Value) (w : World), (Instr.index 68 (.agg #[x, y, z]) (.int .i64 0)).run Try.prog w = .ok x w := fun _ _ _ _ => by kernel_rfl
  have i1 : ∀ (x y z : Value) (w : World), (Instr.index 68 (.agg #[x, y, z]) (.int .i64 1)).run Try.prog w = .ok y w := fun _ _ _ _ => by kernel_rfl
  have i2 : ∀ (x y z : Value) (w : World), (Instr.index 68 (.agg #[x, y, z]) (.int .i64 2)).run Try.prog w = .ok z w := fun _ _ _ _ => by kernel_rfl
  go_enter Try.func19, Try.ntmps19
  go_wp2
  refine wp_loop_rounds 4 ?_
  rw [rounds_succ]
  go_wp2
  refine wp_loop_rounds 1 ?_
  rw [rounds_succ]
  go_wp2
  rw [rounds_succ]
  go_wp2
  refine wp_loop_rounds 2 ?_
  rw [rounds_succ]
  go_wp2
  rw [rounds_succ]
  go_wp2
  rw [rounds_succ]
  go_wp2
  refine wp_loop_rounds 3 ?_
  rw [rounds_succ]
  go_wp2
  first | go_ret | (go_quiet (fail); go_wp2; go_ret)
  exact ⟨rfl, by repeat (first | exact Below.refl _ _ | apply below_alloc | apply pw_below_drewN | apply below_drew1)⟩
set_option maxHeartbeats 2000000 in
set_option maxRecDepth 100000 in
theorem good_nearcb (a b c d : Int) (w : World) (ha1 : (Int.tmod a 4096 != 0) = false) (ha2 : decide (2305843009213693952 < a) = false) (hb1 : (Int.tmod b 4096 != 0) = false) (hb2 : decide (2305843009213693952 < b) = false) (Mba Nba : Int) (eMba : (if b < a then a else b) = Mba) (eNba : (if a < b then a else b) = Nba) (hba : decide (IntKind.u64.wrap (Mba - Nba) < 16777216) = false) (hc1 : (Int.tmod c 4096 != 0) = false) (hc2 : decide (2305843009213693952 < c) = false) (Mca Nca : Int) (eMca : (if c < a then a else c) = Mca) (eNca : (if a < c then a else c) = Nca) (hca : decide (IntKind.u64.wrap (Mca - Nca) < 16777216) = false) (Mcb Ncb : Int) (eMcb : (if c < b then b else c) = Mcb) (eNcb : (if b < c then b else c) = Ncb) (hcb : decide (IntKind.u64.wrap (Mcb - Ncb) < 16777216) = true) :
    Calls Try.prog 19 #[.agg #[.int .u64 a, .int .u64 b, .int .u64 c, .int .i64 d]] w fun e w' => e = .returned (.bool false) ∧ Below w.heap.size w w' := by
  have hu24 := Try.underlying24
  have i0 : ∀ (x y z : Value) (w : World), (Instr.index 68 (.agg #[x, y, z]) (.int .i64 0)).run Try.prog w = .ok x w := fun _ _ _ _ => by kernel_rfl
  have i1 : ∀ (x y z : Value) (w : World), (Instr.index 68 (.agg #[x, y, z]) (.int .i64 1)).run Try.prog w = .ok y w := fun _ _ _ _ => by kernel_rfl
  have i2 : ∀ (x y z : Value) (w : World), (Instr.index 68 (.agg #[x, y, z]) (.int .i64 2)).run Try.prog w = .ok z w := fun _ _ _ _ => by kernel_rfl
  go_enter Try.func19, Try.ntmps19
  go_wp2
  refine wp_loop_rounds 4 ?_
  rw [rounds_succ]
  go_wp2
  refine wp_loop_rounds 1 ?_
  rw [rounds_succ]
  go_wp2
  rw [rounds_succ]
  go_wp2
  refine wp_loop_rounds 2 ?_
  rw [rounds_succ]
  go_wp2
  rw [rounds_succ]
  go_wp2
  rw [rounds_succ]
  go_wp2
  refine wp_loop_rounds 3 ?_
  rw [rounds_succ]
  go_wp2
  rw [rounds_succ]
  go_wp2
  first | go_ret | (go_quiet (fail); go_wp2; go_ret)
  exact ⟨rfl, by repeat (first | exact Below.refl _ _ | apply below_alloc | apply pw_below_drewN | apply below_drew1)⟩
set_option maxHeartbeats 2000000 in
set_option maxRecDepth 100000 in
theorem good_r1 (a b c d : Int) (w : World) (ha1 : (Int.tmod a 4096 != 0) = false) (ha2 : decide (2305843009213693952 < a) = false) (hb1 : (Int.tmod b 4096 != 0) = false) (hb2 : decide (2305843009213693952 < b) = false) (Mba Nba : Int) (eMba : (if b < a then a else b) = Mba) (eNba : (if a < b then a else b) = Nba) (hba : decide (IntKind.u64.wrap (Mba - Nba) < 16777216) = false) (hc1 : (Int.tmod c 4096 != 0) = false) (hc2 : decide (2305843009213693952 < c) = false) (Mca Nca : Int) (eMca : (if c < a then a else c) = Mca) (eNca : (if a < c then a else c) = Nca) (hca : decide (IntKind.u64.wrap (Mca - Nca) < 16777216) = false) (Mcb Ncb : Int) (eMcb : (if c < b then b else c) = Mcb) (eNcb : (if b < c then b else c) = Ncb) (hcb : decide (IntKind.u64.wrap (Mcb - Ncb) < 16777216) = false) (hr : (Int.tmod d 4 == 0) = false) :
    Calls Try.prog 19 #[.agg #[.int .u64 a, .int .u64 b, .int .u64 c, .int .i64 d]] w fun e w' => e = .returned (.bool false) ∧ Below w.heap.size w w' := by
  have hu24 := Try.underlying24
  have i0 : ∀ (x y z : Value) (w : World), (Instr.index 68 (.agg #[x, y, z]) (.int .i64 0)).run Try.prog w = .ok x w := fun _ _ _ _ => by kernel_rfl
  have i1 : ∀ (x y z : Value) (w : World), (Instr.index 68 (.agg #[x, y, z]) (.int .i64 1)).run Try.prog w = .ok y w := fun _ _ _ _ => by kernel_rfl
  have i2 : ∀ (x y z : Value) (w : World), (Instr.index 68 (.agg #[x, y, z]) (.int .i64 2)).run Try.prog w = .ok z w := fun _ _ _ _ => by kernel_rfl
  go_enter Try.func19, Try.ntmps19
  go_wp2
  refine wp_loop_rounds 4 ?_
  rw [rounds_succ]
  go_wp2
  refine wp_loop_rounds 1 ?_
  rw [rounds_succ]
  go_wp2
  rw [rounds_succ]
  go_wp2
  refine wp_loop_rounds 2 ?_
  rw [rounds_succ]
  go_wp2
  rw [rounds_succ]
  go_wp2
  rw [rounds_succ]
  go_wp2
  refine wp_loop_rounds 3 ?_
  rw [rounds_succ]
  go_wp2
  rw [rounds_succ]
  go_wp2
  rw [rounds_succ]
  go_wp2
  rw [rounds_succ]
  go_wp2
  first | go_ret | (go_quiet (fail); go_wp2; go_ret)
  exact ⟨rfl, by repeat (first | exact Below.refl _ _ | apply below_alloc | apply pw_below_drewN | apply below_drew1)⟩
set_option maxHeartbeats 2000000 in
set_option maxRecDepth 100000 in
theorem good_r2 (a b c d : Int) (w : World) (ha1 : (Int.tmod a 4096 != 0) = false) (ha2 : decide (2305843009213693952 < a) = false) (hb1 : (Int.tmod b 4096 != 0) = false) (hb2 : decide (2305843009213693952 < b) = false) (Mba Nba : Int) (eMba : (if b < a then a else b) = Mba) (eNba : (if a < b then a else b) = Nba) (hba : decide (IntKind.u64.wrap (Mba - Nba) < 16777216) = false) (hc1 : (Int.tmod c 4096 != 0) = false) (hc2 : decide (2305843009213693952 < c) = false) (Mca Nca : Int) (eMca : (if c < a then a else c) = Mca) (eNca : (if a < c then a else c) = Nca) (hca : decide (IntKind.u64.wrap (Mca - Nca) < 16777216) = false) (Mcb Ncb : Int) (eMcb : (if c < b then b else c) = Mcb) (eNcb : (if b < c then b else c) = Ncb) (hcb : decide (IntKind.u64.wrap (Mcb - Ncb) < 16777216) = false) (hr : (Int.tmod d 4 == 0) = true) (hr2 : decide (8192 ≤ d) = false) :
    Calls Try.prog 19 #[.agg #[.int .u64 a, .int .u64 b, .int .u64 c, .int .i64 d]] w fun e w' => e = .returned (.bool false) ∧ Below w.heap.size w w' := by
  have hu24 := Try.underlying24
  have i0 : ∀ (x y z : Value) (w : World), (Instr.index 68 (.agg #[x, y, z]) (.int .i64 0)).run Try.prog w = .ok x w := fun _ _ _ _ => by kernel_rfl
  have i1 : ∀ (x y z : Value) (w : World), (Instr.index 68 (.agg #[x, y, z]) (.int .i64 1)).run Try.prog w = .ok y w := fun _ _ _ _ => by kernel_rfl
  have i2 : ∀ (x y z : Value) (w : World), (Instr.index 68 (.agg #[x, y, z]) (.int .i64 2)).run Try.prog w = .ok z w := fun _ _ _ _ => by kernel_rfl
  go_enter Try.func19, Try.ntmps19
  go_wp2
  refine wp_loop_rounds 4 ?_
  rw [rounds_succ]
  go_wp2
  refine wp_loop_rounds 1 ?_
  rw [rounds_succ]
  go_wp2
  rw [rounds_succ]
  go_wp2
  refine wp_loop_rounds 2 ?_
  rw [rounds_succ]
  go_wp2
  rw [rounds_succ]
  go_wp2
  rw [rounds_succ]
  go_wp2
  refine wp_loop_rounds 3 ?_
  rw [rounds_succ]
  go_wp2
  rw [rounds_succ]
  go_wp2
  rw [rounds_succ]
  go_wp2
  rw [rounds_succ]
  go_wp2
  first | go_ret | (go_quiet (fail); go_wp2; go_ret)
  exact ⟨rfl, by repeat (first | exact Below.refl _ _ | apply below_alloc | apply pw_below_drewN | apply below_drew1)⟩
set_option maxHeartbeats 2000000 in
set_option maxRecDepth 100000 in
theorem good_r3 (a b c d : Int) (w : World) (ha1 : (Int.tmod a 4096 != 0) = false) (ha2 : decide (2305843009213693952 < a) = false) (hb1 : (Int.tmod b 4096 != 0) = false) (hb2 : decide (2305843009213693952 < b) = false) (Mba Nba : Int) (eMba : (if b < a then a else b) = Mba) (eNba : (if a < b then a else b) = Nba) (hba : decide (IntKind.u64.wrap (Mba - Nba) < 16777216) = false) (hc1 : (Int.tmod c 4096 != 0) = false) (hc2 : decide (2305843009213693952 < c) = false) (Mca Nca : Int) (eMca : (if c < a then a else c) = Mca) (eNca : (if a < c then a else c) = Nca) (hca : decide (IntKind.u64.wrap (Mca - Nca) < 16777216) = false) (Mcb Ncb : Int) (eMcb : (if c < b then b else c) = Mcb) (eNcb : (if b < c then b else c) = Ncb) (hcb : decide (IntKind.u64.wrap (Mcb - Ncb) < 16777216) = false) (hr : (Int.tmod d 4 == 0) = true) (hr2 : decide (8192 ≤ d) = true) :
    Calls Try.prog 19 #[.agg #[.int .u64 a, .int .u64 b, .int .u64 c, .int .i64 d]] w fun e w' => e = .returned (.bool (decide (d ≤ 134217724))) ∧ Below w.heap.size w w' := by
  have hu24 := Try.underlying24
  have i0 : ∀ (x y z : Value) (w : World), (Instr.index 68 (.agg #[x, y, z]) (.int .i64 0)).run Try.prog w = .ok x w := fun _ _ _ _ => by kernel_rfl
  have i1 : ∀ (x y z : Value) (w : World), (Instr.index 68 (.agg #[x, y, z]) (.int .i64 1)).run Try.prog w = .ok y w := fun _ _ _ _ => by kernel_rfl
  have i2 : ∀ (x y z : Value) (w : World), (Instr.index 68 (.agg #[x, y, z]) (.int .i64 2)).run Try.prog w = .ok z w := fun _ _ _ _ => by kernel_rfl
  go_enter Try.func19, Try.ntmps19
  go_wp2
  refine wp_loop_rounds 4 ?_
  rw [rounds_succ]
  go_wp2
  refine wp_loop_rounds 1 ?_
  rw [rounds_succ]
  go_wp2
  rw [rounds_succ]
  go_wp2
  refine wp_loop_rounds 2 ?_
  rw [rounds_succ]
  go_wp2
  rw [rounds_succ]
  go_wp2
  rw [rounds_succ]
  go_wp2
  refine wp_loop_rounds 3 ?_
  rw [rounds_succ]
  go_wp2
  rw [rounds_succ]
  go_wp2
  rw [rounds_succ]
  go_wp2
  rw [rounds_succ]
  go_wp2
  first | go_ret | (go_quiet (fail); go_wp2; go_ret)
  exact ⟨rfl, by repeat (first | exact Below.refl _ _ | apply below_alloc | apply pw_below_drewN | apply below_drew1)⟩
theorem place_Good.calls (k : Nat) (a0_0 : Int) (a0_1 : Int) (a0_2 : Int) (a0_3 : Int) (r : Bool) (w : World) (h : place_Good.f k a0_0 a0_1 a0_2 a0_3 = some r) :
    Calls Try.prog 19 #[.agg #[.int .u64 a0_0, .int .u64 a0_1, .int .u64 a0_2, .int .i64 a0_3]] w fun e w' => e = .returned (.bool r) ∧ Below w.heap.size w w' := by
  have H : goodB a0_0 a0_1 a0_2 a0_3 = r := Option.some.inj h
  subst H
  unfold goodB
  by_cases xa : badPlace a0_0 = true
  · rw [if_pos xa]
    rcases bad_yes xa with q | ⟨q, q'⟩
    · exact good_bad1a a0_0 a0_1 a0_2 a0_3 w q
    · exact good_bad2a a0_0 a0_1 a0_2 a0_3 w q q'
  rw [if_neg xa]
  obtain ⟨ga1, ga2⟩ := bad_no (Bool.eq_false_iff.mpr xa)
  by_cases xb : badPlace a0_1 = true
  · rw [if_pos xb]
    rcases bad_yes xb with q | ⟨q, q'⟩
    · exact good_bad1b a0_0 a0_1 a0_2 a0_3 w ga1 ga2 q
    · exact good_bad2b a0_0 a0_1 a0_2 a0_3 w ga1 ga2 q q'
  rw [if_neg xb]
  obtain ⟨gb1, gb2⟩ := bad_no (Bool.eq_false_iff.mpr xb)
  by_cases yba : tooNear a0_1 a0_0 = true
  · rw [if_pos yba]
    exact good_nearba a0_0 a0_1 a0_2 a0_3 w ga1 ga2 gb1 gb2 _ _ rfl rfl (near_is yba)
  rw [if_neg yba]
  have gba := near_is (Bool.eq_false_iff.mpr yba)
  by_cases xc : badPlace a0_2 = true
  · rw [if_pos xc]
    rcases bad_yes xc with q | ⟨q, q'⟩
    · exact good_bad1c a0_0 a0_1 a0_2 a0_3 w ga1 ga2 gb1 gb2 _ _ rfl rfl gba q
    · exact good_bad2c a0_0 a0_1 a0_2 a0_3 w ga1 ga2 gb1 gb2 _ _ rfl rfl gba q q'
  rw [if_neg xc]
  obtain ⟨gc1, gc2⟩ := bad_no (Bool.eq_false_iff.mpr xc)
  by_cases yca : tooNear a0_2 a0_0 = true
  · rw [if_pos yca]
    exact good_nearca a0_0 a0_1 a0_2 a0_3 w ga1 ga2 gb1 gb2 _ _ rfl rfl gba gc1 gc2 _ _ rfl rfl (near_is yca)
  rw [if_neg yca]
  have gca := near_is (Bool.eq_false_iff.mpr yca)
  by_cases ycb : tooNear a0_2 a0_1 = true
  · rw [if_pos ycb]
    exact good_nearcb a0_0 a0_1 a0_2 a0_3 w ga1 ga2 gb1 gb2 _ _ rfl rfl gba gc1 gc2 _ _ rfl rfl gca _ _ rfl rfl (near_is ycb)
  rw [if_neg ycb]
  have gcb := near_is (Bool.eq_false_iff.mpr ycb)
  unfold okReach
  cases z1 : (Int.tmod a0_3 4 == 0) with
  | false => exact good_r1 a0_0 a0_1 a0_2 a0_3 w ga1 ga2 gb1 gb2 _ _ rfl rfl gba gc1 gc2 _ _ rfl rfl gca _ _ rfl rfl gcb z1
  | true =>
    cases z2 : decide (8192 ≤ a0_3) with
    | false => exact good_r2 a0_0 a0_1 a0_2 a0_3 w ga1 ga2 gb1 gb2 _ _ rfl rfl gba gc1 gc2 _ _ rfl rfl gca _ _ rfl rfl gcb z1 z2
    | true => exact good_r3 a0_0 a0_1 a0_2 a0_3 w ga1 ga2 gb1 gb2 _ _ rfl rfl gba gc1 gc2 _ _ rfl rfl gca _ _ rfl rfl gcb z1 z2
end Go.Proofs.Ytcfejagfognipaa.Pl
