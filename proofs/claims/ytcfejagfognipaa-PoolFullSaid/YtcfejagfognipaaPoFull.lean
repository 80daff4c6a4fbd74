/-
  The walk of cleatlaw15.PoolFull: it answers true at every number.
-/
import Derived.Test.YtcfejagfognipaaPoPooled
namespace Go.Proofs.Ytcfejagfognipaa.Po
open Go.RowKit Go.Proofs.YtcfejagfognipaaW.PrintWords Go.Proofs.YtcfejagfognipaaW.PrintLast Go.Proofs.YtcfejagfognipaaW.PrintMore
set_option linter.unusedVariables false
set_option linter.unusedSimpArgs false

/-- The literal of a number. -/
def num (v : Int) : S53 := ⟨⟨#[]⟩, 0, v⟩
/-- So many literals. -/
def nums (k : Nat) : List S53 := (List.range k).map (fun j : Nat => num (1000 + (j : Int)))
theorem nums_length (k : Nat) : (nums k).length = k := by simp [nums]
theorem nums_succ (k : Nat) : nums (k + 1) = nums k ++ [num (1000 + (k : Int))] := by simp [nums, List.range_succ]
theorem num_inj {a b : Int} (h : num a = num b) : a = b := congrArg S53.f2 h
theorem nums_not (k : Nat) : num (1000 + (k : Int)) ∉ nums k := by
  intro h
  simp only [nums, List.mem_map, List.mem_range] at h
  obtain ⟨j, hj, e⟩ := h
  have := num_inj e
  omega
theorem nums_at (k j : Nat) (h : j < k) : (nums k)[j]? = some (num (1000 + (j : Int))) := by simp [nums, h]
theorem empty_empty : (⟨#[]⟩ : ByteArray).toList.isEmpty = true := by kernel_rfl
theorem ofNum (v : Int) : ofF ⟨10, ⟨#[]⟩, 0, false, v⟩ = (num v, 0) := by
  unfold ofF
  rw [if_neg (show ¬ ((10 : Int) != 10) = true by decide), if_pos empty_empty, if_neg (show ¬ (false = true) by decide)]
  rfl
theorem wfNum (v : Int) (h0 : 0 ≤ v) (h1 : v ≤ 10000) : Wf (num v) := by
  refine ⟨(by decide : (⟨#[]⟩ : ByteArray).size ≤ maxLen), (by decide : (Lit.int .i64 0).wf = true), ?_⟩
  have e1 : IntKind.u64.min = 0 := by decide
  have e2 : IntKind.u64.max = 18446744073709551615 := by decide
  have : IntKind.u64.min ≤ v ∧ v ≤ IntKind.u64.max := by omega
  show (Lit.int .u64 v).wf = true
  unfold Lit.wf
  simpa using this
theorem rNew (k : Nat) (h : k < 64) : PutR (nums k) ⟨10, ⟨#[]⟩, 0, false, 1000 + (k : Int)⟩ k 0 (nums (k + 1)) := by
  have := PutR.new (L := nums k) (n := ⟨10, ⟨#[]⟩, 0, false, 1000 + (k : Int)⟩) (by rw [ofNum]) (by rw [ofNum]; exact nums_not k) (by rw [nums_length]; exact h)
  rw [ofNum, nums_length, ← nums_succ] at this
  exact this
theorem rOld (k : Nat) (h : k < 64) : PutR (nums 64) ⟨10, ⟨#[]⟩, 0, false, 1000 + (k : Int)⟩ k 0 (nums 64) :=
  PutR.found (L := nums 64) (n := ⟨10, ⟨#[]⟩, 0, false, 1000 + (k : Int)⟩) k (by rw [ofNum]) (by rw [ofNum]; exact nums_at 64 k h)
theorem rFull : PutR (nums 64) ⟨10, ⟨#[97]⟩, 0, false, 0⟩ 0 2 (nums 64) :=
  PutR.full (L := nums 64) (n := ⟨10, ⟨#[97]⟩, 0, false, 0⟩) (by rw [of4]) (by
    rw [of4]
    intro h
    simp only [nums, List.mem_map, List.mem_range] at h
    obtain ⟨j, _, e⟩ := h
    have := congrArg S53.f2 e
    simp [num, xc] at this
    omega) (by rw [nums_length]; exact Nat.le_refl _)

set_option maxHeartbeats 1000000 in
set_option maxRecDepth 100000 in
theorem full_out (n : Int) (w : World) (h : n < 0 ∨ (0 ≤ n ∧ 63 < n)) : Calls Try.prog 9 #[.int .i64 n] w fun e w' => e = .returned (.bool true) ∧ Below w.heap.size w w' := by
  rcases h with h | ⟨h, h2⟩
  all_goals
    go_enter Try.func9, Try.ntmps9
    go_wp2_with (go_at_call 26; refine (pooled_walk _).mono ?_; rintro e w1 ⟨rfl, hb1⟩)
    go_ret
    exact ⟨rfl, by assumption⟩

set_option maxHeartbeats 2000000 in
set_option maxRecDepth 100000 in
theorem full_in (n : Nat) (w : World) (h : n ≤ 63) : Calls Try.prog 9 #[.int .i64 (n : Int)] w fun e w' => e = .returned (.bool true) ∧ Below w.heap.size w w' := by
  have hu49 := Try.underlying49
  have hu53 := Try.underlying53
  go_enter Try.func9, Try.ntmps9
  go_wp2_with fail
  refine (new_walk _).mono ?_
  rintro e w1 ⟨rfl, h1, hb1⟩
  have P1 := Aside0.mk h1
  have B1 := Aside0.mk hb1
  clear h1 hb1
  go_wp2_with fail
  go_loopw [4] (fun i wr => ∃ k : Nat, k ≤ 64 ∧ i = .int .i64 k ∧ Aside0 (Pool wr w.heap.size (fun k => w.heap.size ≤ k) (nums k)) ∧ Aside0 (Below w.heap.size w wr)) (fun i _ => 64 - (intOf i).toNat)
  case atStart => exact ⟨0, by omega, rfl, P1, B1⟩
  case round =>
    obtain ⟨k, hk, rfl, P2, B2⟩ := hrel
    by_cases hlt : k < 64
    · go_wp2_with fail
      refine (put_from ⟨10, ⟨#[]⟩, 0, false, 1000 + (k : Int)⟩ (fun _ => by rw [ofNum]; exact wfNum _ (by omega) (by omega)) P2.out B2.out.size (rNew k hlt)).mono ?_
      rintro e w3 ⟨rfl, h1, hb1, hs1⟩
      have P3 := Aside0.mk h1
      have B3 := Aside0.mk (B2.out.trans hb1)
      clear h1 hb1 hs1
      go_wp2
      go_roundw
      case rel => exact ⟨k + 1, by omega, by go_num, P3, B3⟩
      case measure => simp [intOf]; omega
    · obtain rfl : k = 64 := by omega
      go_wp2_with fail
      refine (put_from ⟨10, ⟨#[97]⟩, 0, false, 0⟩ (fun _ => by rw [of4]; exact wfc) P2.out B2.out.size rFull).mono ?_
      rintro e w3 ⟨rfl, h1, hb1, hs1⟩
      have P3 := Aside0.mk h1
      have B3 := Aside0.mk (B2.out.trans hb1)
      clear h1 hb1 hs1
      go_wp2_with fail
      refine (put_from ⟨10, ⟨#[]⟩, 0, false, 1000 + (n : Int)⟩ (fun _ => by rw [ofNum]; exact wfNum _ (by omega) (by omega)) P3.out B3.out.size (rOld n (by omega))).mono ?_
      rintro e w4 ⟨rfl, h1, hb1, hs1⟩
      have P4 := Aside0.mk h1
      have B4 := Aside0.mk (B3.out.trans hb1)
      clear h1 hb1 hs1
      go_wp2_with fail
      refine (pooled_walk _).mono ?_
      rintro e w5 ⟨rfl, hb1⟩
      have P5 := Aside0.mk (P4.out.below hb1)
      have B5 := Aside0.mk (B4.out.trans (hb1.mono B4.out.size))
      clear hb1
      go_wp2_with fail
      refine (size_walk P5.out).mono ?_
      rintro e w6 ⟨rfl, rfl⟩
      have hln := nums_length 64
      go_wp2
      go_ret
      exact ⟨rfl, B5.out⟩

/-- Whatever the number. -/
theorem full_walk (n : Int) (w : World) : Calls Try.prog 9 #[.int .i64 n] w fun e w' => e = .returned (.bool true) ∧ Below w.heap.size w w' := by
  by_cases h : n < 0
  · exact full_out n w (.inl h)
  by_cases h2 : 63 < n
  · exact full_out n w (.inr ⟨by omega, h2⟩)
  obtain ⟨m, rfl⟩ : ∃ m : Nat, n = (m : Int) := ⟨n.toNat, by omega⟩
  exact full_in m w (by omega)
end Go.Proofs.Ytcfejagfognipaa.Po
