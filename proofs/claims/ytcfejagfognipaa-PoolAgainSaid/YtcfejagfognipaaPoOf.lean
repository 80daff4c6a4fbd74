/-
  The walk of pool.Of, each way by itself: what it answers is ofF. No condition.
-/
import Derived.Test.YtcfejagfognipaaPoB
import Derived.WalkKit
import Derived.BigQuiet
namespace Go.Proofs.Ytcfejagfognipaa.Po
open Go.RowKit Go.Proofs.YtcfejagfognipaaW.PrintWords Go.Proofs.YtcfejagfognipaaW.PrintLast Go.Proofs.YtcfejagfognipaaW.PrintMore
set_option linter.unusedVariables false
set_option linter.unusedSimpArgs false

/-- A need. -/
structure S49 where
  f0 : Int
  f1 : ByteArray
  f2 : Int
  f3 : Bool
  f4 : Int
def S49.val (n : S49) : Value := .agg #[.int .i64 n.f0, .string n.f1, .int .i64 n.f2, .bool n.f3, .int .u64 n.f4]
/-- A need's literal, and its error. -/
def ofF (n : S49) : S53 × Int :=
  if (n.f0 != 10) = true then (z53, 1)
  else if n.f1.toList.isEmpty = true then (if n.f3 = true then (⟨⟨#[]⟩, 0, IntKind.u64.wrap (-n.f4)⟩, 0) else (⟨⟨#[]⟩, 0, n.f4⟩, 0))
  else if (n.f4 != 0) = true then (z53, 1)
  else if n.f3 = true then (z53, 1)
  else (⟨n.f1, n.f2, 0⟩, 0)
set_option maxHeartbeats 1000000 in
set_option maxRecDepth 100000 in
theorem of_kind (kd : Int) (s : ByteArray) (ad : Int) (mi : Bool) (v : Int) (w : World) (h1 : (kd != 10) = true) (h1b : (kd == 10) = false) :
    Calls Try.prog 30 #[.agg #[.int .i64 kd, .string s, .int .i64 ad, .bool mi, .int .u64 v]] w fun e w' => e = .returned (.tuple #[.agg #[.string ⟨#[]⟩, .int .i64 0, .int .u64 0], .int .i64 1]) ∧ Below w.heap.size w w' := by
  have hu49 := Try.underlying49
  have hu53 := Try.underlying53
  go_enter Try.func30, Try.ntmps30
  go_wp2
  exact bodyPost_ret (v := .tuple #[.agg #[.string ⟨#[]⟩, .int .i64 0, .int .u64 0], .int .i64 1]) (by simp [results, Try.results30, go_sem]) rfl ⟨rfl, by repeat (first | exact Below.refl _ _ | apply below_alloc | apply pw_below_drewN | apply below_drew | refine Below.setCell ?_ (by simp; omega) _)⟩
set_option maxHeartbeats 1000000 in
set_option maxRecDepth 100000 in
theorem of_num (s : ByteArray) (ad : Int) (v : Int) (w : World) (h1 : s.toList.isEmpty = true) :
    Calls Try.prog 30 #[.agg #[.int .i64 10, .string s, .int .i64 ad, .bool false, .int .u64 v]] w fun e w' => e = .returned (.tuple #[.agg #[.string ⟨#[]⟩, .int .i64 0, .int .u64 v], .int .i64 0]) ∧ Below w.heap.size w w' := by
  have hu49 := Try.underlying49
  have hu53 := Try.underlying53
  go_enter Try.func30, Try.ntmps30
  go_wp2
  exact bodyPost_ret (v := .tuple #[.agg #[.string ⟨#[]⟩, .int .i64 0, .int .u64 v], .int .i64 0]) (by simp [results, Try.results30, go_sem]) rfl ⟨rfl, by repeat (first | exact Below.refl _ _ | apply below_alloc | apply pw_below_drewN | apply below_drew | refine Below.setCell ?_ (by simp; omega) _)⟩
set_option maxHeartbeats 1000000 in
set_option maxRecDepth 100000 in
theorem of_minus (s : ByteArray) (ad : Int) (v : Int) (w : World) (h1 : s.toList.isEmpty = true) :
    Calls Try.prog 30 #[.agg #[.int .i64 10, .string s, .int .i64 ad, .bool true, .int .u64 v]] w fun e w' => e = .returned (.tuple #[.agg #[.string ⟨#[]⟩, .int .i64 0, .int .u64 (IntKind.u64.wrap (-v))], .int .i64 0]) ∧ Below w.heap.size w w' := by
  have hu49 := Try.underlying49
  have hu53 := Try.underlying53
  go_enter Try.func30, Try.ntmps30
  go_wp2
  exact bodyPost_ret (v := .tuple #[.agg #[.string ⟨#[]⟩, .int .i64 0, .int .u64 (IntKind.u64.wrap (-v))], .int .i64 0]) (by simp [results, Try.results30, go_sem]) rfl ⟨rfl, by repeat (first | exact Below.refl _ _ | apply below_alloc | apply pw_below_drewN | apply below_drew | refine Below.setCell ?_ (by simp; omega) _)⟩
set_option maxHeartbeats 1000000 in
set_option maxRecDepth 100000 in
theorem of_badv (s : ByteArray) (ad : Int) (mi : Bool) (v : Int) (w : World) (h1 : s.toList.isEmpty = false) (h2 : (v != 0) = true) (h3 : (v == 0) = false) :
    Calls Try.prog 30 #[.agg #[.int .i64 10, .string s, .int .i64 ad, .bool mi, .int .u64 v]] w fun e w' => e = .returned (.tuple #[.agg #[.string ⟨#[]⟩, .int .i64 0, .int .u64 0], .int .i64 1]) ∧ Below w.heap.size w w' := by
  have hu49 := Try.underlying49
  have hu53 := Try.underlying53
  go_enter Try.func30, Try.ntmps30
  go_wp2
  exact bodyPost_ret (v := .tuple #[.agg #[.string ⟨#[]⟩, .int .i64 0, .int .u64 0], .int .i64 1]) (by simp [results, Try.results30, go_sem]) rfl ⟨rfl, by repeat (first | exact Below.refl _ _ | apply below_alloc | apply pw_below_drewN | apply below_drew | refine Below.setCell ?_ (by simp; omega) _)⟩
set_option maxHeartbeats 1000000 in
set_option maxRecDepth 100000 in
theorem of_badm (s : ByteArray) (ad : Int) (w : World) (h1 : s.toList.isEmpty = false) :
    Calls Try.prog 30 #[.agg #[.int .i64 10, .string s, .int .i64 ad, .bool true, .int .u64 0]] w fun e w' => e = .returned (.tuple #[.agg #[.string ⟨#[]⟩, .int .i64 0, .int .u64 0], .int .i64 1]) ∧ Below w.heap.size w w' := by
  have hu49 := Try.underlying49
  have hu53 := Try.underlying53
  go_enter Try.func30, Try.ntmps30
  go_wp2
  exact bodyPost_ret (v := .tuple #[.agg #[.string ⟨#[]⟩, .int .i64 0, .int .u64 0], .int .i64 1]) (by simp [results, Try.results30, go_sem]) rfl ⟨rfl, by repeat (first | exact Below.refl _ _ | apply below_alloc | apply pw_below_drewN | apply below_drew | refine Below.setCell ?_ (by simp; omega) _)⟩
set_option maxHeartbeats 1000000 in
set_option maxRecDepth 100000 in
theorem of_sym (s : ByteArray) (ad : Int) (w : World) (h1 : s.toList.isEmpty = false) :
    Calls Try.prog 30 #[.agg #[.int .i64 10, .string s, .int .i64 ad, .bool false, .int .u64 0]] w fun e w' => e = .returned (.tuple #[.agg #[.string s, .int .i64 ad, .int .u64 0], .int .i64 0]) ∧ Below w.heap.size w w' := by
  have hu49 := Try.underlying49
  have hu53 := Try.underlying53
  go_enter Try.func30, Try.ntmps30
  go_wp2
  exact bodyPost_ret (v := .tuple #[.agg #[.string s, .int .i64 ad, .int .u64 0], .int .i64 0]) (by simp [results, Try.results30, go_sem]) rfl ⟨rfl, by repeat (first | exact Below.refl _ _ | apply below_alloc | apply pw_below_drewN | apply below_drew | refine Below.setCell ?_ (by simp; omega) _)⟩

theorem of_walk (n : S49) (w : World) :
    Calls Try.prog 30 #[.agg #[.int .i64 n.f0, .string n.f1, .int .i64 n.f2, .bool n.f3, .int .u64 n.f4]] w fun e w' => e = .returned (.tuple #[.agg #[.string (ofF n).1.f0, .int .i64 (ofF n).1.f1, .int .u64 (ofF n).1.f2], .int .i64 (ofF n).2]) ∧ Below w.heap.size w w' := by
  obtain ⟨kd, s, ad, mi, v⟩ := n
  unfold ofF z53
  by_cases h0 : (kd != 10) = true
  · rw [if_pos h0]
    exact of_kind kd s ad mi v w h0 (by simpa using h0)
  rw [if_neg h0]
  obtain rfl : kd = 10 := by simpa using h0
  by_cases h1 : s.toList.isEmpty = true
  · rw [if_pos h1]
    cases mi with
    | true => exact of_minus s ad v w h1
    | false => exact of_num s ad v w h1
  rw [if_neg h1]
  have h1' : s.toList.isEmpty = false := Bool.eq_false_iff.mpr h1
  by_cases h2 : (v != 0) = true
  · rw [if_pos h2]
    exact of_badv s ad mi v w h1' h2 (by simpa using h2)
  rw [if_neg h2]
  obtain rfl : v = 0 := by simpa using h2
  cases mi with
  | true => exact of_badm s ad w h1'
  | false => exact of_sym s ad w h1'
end Go.Proofs.Ytcfejagfognipaa.Po
