/-
  The walk of pool.Value.
-/
import Derived.Test.YtcfejagfognipaaPoB
import Derived.WalkKit
import Derived.BigQuiet
import Derived.LoopN
namespace Go.Proofs.Ytcfejagfognipaa.Po
open Go.RowKit Go.Proofs.YtcfejagfognipaaW.PrintWords Go.Proofs.YtcfejagfognipaaW.PrintLast Go.Proofs.YtcfejagfognipaaW.PrintMore
set_option linter.unusedVariables false
set_option linter.unusedSimpArgs false

/-- Eight bytes of a number, the lowest one first. -/
def bytes8 (v : Int) : List Int := [v % 256, v / 256 % 256, v / 65536 % 256, v / 16777216 % 256, v / 4294967296 % 256, v / 1099511627776 % 256, v / 281474976710656 % 256, v / 72057594037927936 % 256]
theorem conv8 (w : World) (g : Nat) (b0 b1 b2 b3 b4 b5 b6 b7 : Int) (h : w.heap[g]? = some (.cells #[.int .u8 b0, .int .u8 b1, .int .u8 b2, .int .u8 b3, .int .u8 b4, .int .u8 b5, .int .u8 b6, .int .u8 b7] 5 (0, 0))) :
    (convert 79 9 (.slice (some ⟨g, 0, none⟩) 8 8)).run Try.prog w = .ok (.string (strOfNums [b0, b1, b2, b3, b4, b5, b6, b7])) w := by
  refine Kd.C_string Try.underlying79 Try.underlying5 Try.underlying9 ?_
  refine Kd.C_of_reads (d := (0 : Int)) (h1 := fun _ => rfl) ⟨rfl, by decide, fun _ => ⟨_, rfl, fun j hj => ?_⟩⟩
  have hc := blk_cell h j
  have e : j = 0 ∨ j = 1 ∨ j = 2 ∨ j = 3 ∨ j = 4 ∨ j = 5 ∨ j = 6 ∨ j = 7 := by omega
  rcases e with rfl | rfl | rfl | rfl | rfl | rfl | rfl | rfl <;> exact hc

set_option maxHeartbeats 1000000 in
set_option maxRecDepth 100000 in
theorem val_e1 (s : ByteArray) (ad v : Int) (w : World) (h1 : s.toList.isEmpty = false) (h2 : (v != 0) = true) (h3 : (v == 0) = false) :
    Calls Try.prog 32 #[.agg #[.string s, .int .i64 ad, .int .u64 v]] w fun e w' => e = .returned (.tuple #[.string ⟨#[]⟩, .int .i64 1]) ∧ Below w.heap.size w w' := by
  have hu53 := Try.underlying53
  go_enter Try.func32, Try.ntmps32
  go_wp2
  go_ret2
  exact ⟨rfl, by repeat (first | exact Below.refl _ _ | apply below_alloc | apply pw_below_drewN | apply below_drew | refine Below.setCell ?_ (by simp; omega) _)⟩
set_option maxHeartbeats 1000000 in
set_option maxRecDepth 100000 in
theorem val_e2 (s : ByteArray) (ad v : Int) (w : World) (h1 : s.toList.isEmpty = true) (h2 : (ad != 0) = true) (h3 : (ad == 0) = false) :
    Calls Try.prog 32 #[.agg #[.string s, .int .i64 ad, .int .u64 v]] w fun e w' => e = .returned (.tuple #[.string ⟨#[]⟩, .int .i64 1]) ∧ Below w.heap.size w w' := by
  have hu53 := Try.underlying53
  go_enter Try.func32, Try.ntmps32
  go_wp2
  go_ret2
  exact ⟨rfl, by repeat (first | exact Below.refl _ _ | apply below_alloc | apply pw_below_drewN | apply below_drew | refine Below.setCell ?_ (by simp; omega) _)⟩
set_option maxHeartbeats 1000000 in
set_option maxRecDepth 100000 in
theorem val_num (s : ByteArray) (ad v : Int) (w : World) (h1 : s.toList.isEmpty = true) (h2 : (ad != 0) = false) (h3 : (ad == 0) = true) :
    Calls Try.prog 32 #[.agg #[.string s, .int .i64 ad, .int .u64 v]] w fun e w' => e = .returned (.tuple #[.string (strOfNums (bytes8 v)), .int .i64 0]) ∧ Below w.heap.size w w' := by
  have hu53 := Try.underlying53
  have hmk : ∀ w : World, (Instr.makeSlice 79 (.int .i64 8) (.int .i64 8)).run Try.prog w = .ok (.slice (some ⟨w.heap.size, 0, none⟩) 8 8) (w.alloc (.cells #[.int .u8 0, .int .u8 0, .int .u8 0, .int .u8 0, .int .u8 0, .int .u8 0, .int .u8 0, .int .u8 0] 5 (0, 0))) := fun _ => by kernel_rfl
  have hcv : (convert 79 9 (.slice (some ⟨w.heap.size + 1, 0, none⟩) 8 8)).run Try.prog ((w.alloc (.cells #[.string s, .int .i64 ad, .int .u64 v] 53 (0, 0))).alloc (.cells #[.int .u8 (v % 256), .int .u8 (v / 256 % 256), .int .u8 (v / 65536 % 256), .int .u8 (v / 16777216 % 256), .int .u8 (v / 4294967296 % 256), .int .u8 (v / 1099511627776 % 256), .int .u8 (v / 281474976710656 % 256), .int .u8 (v / 72057594037927936 % 256)] 5 (0, 0))) = .ok (.string (strOfNums (bytes8 v))) ((w.alloc (.cells #[.string s, .int .i64 ad, .int .u64 v] 53 (0, 0))).alloc (.cells #[.int .u8 (v % 256), .int .u8 (v / 256 % 256), .int .u8 (v / 65536 % 256), .int .u8 (v / 16777216 % 256), .int .u8 (v / 4294967296 % 256), .int .u8 (v / 1099511627776 % 256), .int .u8 (v / 281474976710656 % 256), .int .u8 (v / 72057594037927936 % 256)] 5 (0, 0))) := by
    refine conv8 _ _ _ _ _ _ _ _ _ _ ?_
    have := heap_alloc_new (w.alloc (.cells #[.string s, .int .i64 ad, .int .u64 v] 53 (0, 0))) (.cells #[.int .u8 (v % 256), .int .u8 (v / 256 % 256), .int .u8 (v / 65536 % 256), .int .u8 (v / 16777216 % 256), .int .u8 (v / 4294967296 % 256), .int .u8 (v / 1099511627776 % 256), .int .u8 (v / 281474976710656 % 256), .int .u8 (v / 72057594037927936 % 256)] 5 (0, 0))
    simpa using this
  go_enter Try.func32, Try.ntmps32
  go_wp2
  refine wp_loop_rounds 9 ?_
  rw [rounds_succ]
  go_wp2
  rw [rounds_succ]
  go_wp2
  rw [rounds_succ]
  go_wp2
  rw [rounds_succ]
  go_wp2
  rw [rounds_succ]
  go_wp2
  rw [rounds_succ]
  go_wp2
  rw [rounds_succ]
  go_wp2
  rw [rounds_succ]
  go_wp2
  rw [rounds_succ]
  go_wp2
  go_ret2
  exact ⟨rfl, by repeat (first | exact Below.refl _ _ | apply below_alloc | apply pw_below_drewN | apply below_drew | refine Below.setCell ?_ (by simp; omega) _)⟩
set_option maxHeartbeats 1000000 in
set_option maxRecDepth 100000 in
theorem val_sym (s : ByteArray) (ad v : Int) (w : World) (h1 : s.toList.isEmpty = false) (h2 : (v != 0) = false) (h3 : (v == 0) = true) :
    Calls Try.prog 32 #[.agg #[.string s, .int .i64 ad, .int .u64 v]] w fun e w' => e = .returned (.tuple #[.string (strOfNums (bytes8 v)), .int .i64 0]) ∧ Below w.heap.size w w' := by
  have hu53 := Try.underlying53
  have hmk : ∀ w : World, (Instr.makeSlice 79 (.int .i64 8) (.int .i64 8)).run Try.prog w = .ok (.slice (some ⟨w.heap.size, 0, none⟩) 8 8) (w.alloc (.cells #[.int .u8 0, .int .u8 0, .int .u8 0, .int .u8 0, .int .u8 0, .int .u8 0, .int .u8 0, .int .u8 0] 5 (0, 0))) := fun _ => by kernel_rfl
  have hcv : (convert 79 9 (.slice (some ⟨w.heap.size + 1, 0, none⟩) 8 8)).run Try.prog ((w.alloc (.cells #[.string s, .int .i64 ad, .int .u64 v] 53 (0, 0))).alloc (.cells #[.int .u8 (v % 256), .int .u8 (v / 256 % 256), .int .u8 (v / 65536 % 256), .int .u8 (v / 16777216 % 256), .int .u8 (v / 4294967296 % 256), .int .u8 (v / 1099511627776 % 256), .int .u8 (v / 281474976710656 % 256), .int .u8 (v / 72057594037927936 % 256)] 5 (0, 0))) = .ok (.string (strOfNums (bytes8 v))) ((w.alloc (.cells #[.string s, .int .i64 ad, .int .u64 v] 53 (0, 0))).alloc (.cells #[.int .u8 (v % 256), .int .u8 (v / 256 % 256), .int .u8 (v / 65536 % 256), .int .u8 (v / 16777216 % 256), .int .u8 (v / 4294967296 % 256), .int .u8 (v / 1099511627776 % 256), .int .u8 (v / 281474976710656 % 256), .int .u8 (v / 72057594037927936 % 256)] 5 (0, 0))) := by
    refine conv8 _ _ _ _ _ _ _ _ _ _ ?_
    have := heap_alloc_new (w.alloc (.cells #[.string s, .int .i64 ad, .int .u64 v] 53 (0, 0))) (.cells #[.int .u8 (v % 256), .int .u8 (v / 256 % 256), .int .u8 (v / 65536 % 256), .int .u8 (v / 16777216 % 256), .int .u8 (v / 4294967296 % 256), .int .u8 (v / 1099511627776 % 256), .int .u8 (v / 281474976710656 % 256), .int .u8 (v / 72057594037927936 % 256)] 5 (0, 0))
    simpa using this
  go_enter Try.func32, Try.ntmps32
  go_wp2
  refine wp_loop_rounds 9 ?_
  rw [rounds_succ]
  go_wp2
  rw [rounds_succ]
  go_wp2
  rw [rounds_succ]
  go_wp2
  rw [rounds_succ]
  go_wp2
  rw [rounds_succ]
  go_wp2
  rw [rounds_succ]
  go_wp2
  rw [rounds_succ]
  go_wp2
  rw [rounds_succ]
  go_wp2
  rw [rounds_succ]
  go_wp2
  go_ret2
  exact ⟨rfl, by repeat (first | exact Below.refl _ _ | apply below_alloc | apply pw_below_drewN | apply below_drew | refine Below.setCell ?_ (by simp; omega) _)⟩

/-- What pool.Value answers. -/
def valF (x : S53) : ByteArray × Int :=
  if x.f0.toList.isEmpty = true then (if (x.f1 != 0) = true then (⟨#[]⟩, 1) else (strOfNums (bytes8 x.f2), 0))
  else (if (x.f2 != 0) = true then (⟨#[]⟩, 1) else (strOfNums (bytes8 x.f2), 0))
theorem val_walk (x : S53) (w : World) :
    Calls Try.prog 32 #[.agg #[.string x.f0, .int .i64 x.f1, .int .u64 x.f2]] w fun e w' => e = .returned (.tuple #[.string (valF x).1, .int .i64 (valF x).2]) ∧ Below w.heap.size w w' := by
  unfold valF
  by_cases h1 : x.f0.toList.isEmpty = true
  · rw [if_pos h1]
    by_cases h2 : (x.f1 != 0) = true
    · rw [if_pos h2]
      exact val_e2 _ _ _ w h1 h2 (by simpa using h2)
    · rw [if_neg h2]
      exact val_num _ _ _ w h1 (Bool.eq_false_iff.mpr h2) (by simpa using h2)
  · rw [if_neg h1]
    have h1' : x.f0.toList.isEmpty = false := Bool.eq_false_iff.mpr h1
    by_cases h2 : (x.f2 != 0) = true
    · rw [if_pos h2]
      exact val_e1 _ _ _ w h1' h2 (by simpa using h2)
    · rw [if_neg h2]
      exact val_sym _ _ _ w h1' (Bool.eq_false_iff.mpr h2) (by simpa using h2)
end Go.Proofs.Ytcfejagfognipaa.Po
