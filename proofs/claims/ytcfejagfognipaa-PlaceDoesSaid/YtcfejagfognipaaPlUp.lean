/-
  The walk of place.Up: what it answers is place_Up.f. No condition but that f answers.
-/
import Derived.Test.YtcfejagfognipaaPlx0
namespace Go.Proofs.Ytcfejagfognipaa.Pl
open Go.RowKit Go.Proofs.YtcfejagfognipaaW.PrintWords Go.Proofs.YtcfejagfognipaaW.PrintLast Go.Proofs.YtcfejagfognipaaW.PrintMore
attribute [local go_sem] max2_int min2_int max_two min_two max_three min_three max_four min_four   -- for this text's walks alone
set_option linter.unusedVariables false
set_option linter.unusedSimpArgs false

/-! ### place_Up: function 14 -/
def place_Up.j0 : Nat → Int → Int → Bool → Option (Int × Int)
  | 0, _, _, _ => none
  | k + 1, x0, x1, x7 => if x7 = true then (some (0, 1)) else (if x0 > 9223372036854775808 then (some (0, 4)) else (if 0 ≤ x1 then (some (Go.bits .andNot .u64 (IntKind.u64.wrap ((IntKind.u64.wrap (x0 + (shl .u64 1 x1))) - 1)) (IntKind.u64.wrap ((shl .u64 1 x1) - 1)), 0)) else (none)))
def place_Up.f (k : Nat) (a0 : Int) (a1 : Int) : Option (Int × Int) := if a1 < 0 then (place_Up.j0 k a0 a1 true) else (place_Up.j0 k a0 a1 (decide (a1 > 12)))
theorem place_Up.mono_l : ∀ k, (∀ y0 y1 y2, LeO (place_Up.j0 k y0 y1 y2) (place_Up.j0 (k + 1) y0 y1 y2))
  | 0 => fun _ _ _ r h => by simp [place_Up.j0] at h
  | k + 1 => by
    have ih0 := place_Up.mono_l k
    · intro y0 y1 y2
      unfold place_Up.j0
      repeat' first
      | (with_reducible exact ih0 _ _ _)
      | (with_reducible exact LeO.refl _)
      | (with_reducible exact LeO.none _)
      | (with_reducible refine LeO.ite ?_ ?_)
      | (with_reducible refine LeO.bind ?_ (fun _ => ?_))
      | exact ih0 _ _ _
      | exact LeO.none _
      | refine LeO.ite ?_ ?_
      | refine LeO.bind ?_ (fun _ => ?_)
theorem place_Up.mono : ∀ a0 a1 k, LeO (place_Up.f k a0 a1) (place_Up.f (k + 1) a0 a1) := by
  intro a0 a1 k
  have ih0 := place_Up.mono_l k
  unfold place_Up.f
  repeat' first
      | (with_reducible exact ih0 _ _ _)
      | (with_reducible exact LeO.refl _)
      | (with_reducible exact LeO.none _)
      | (with_reducible refine LeO.ite ?_ ?_)
      | (with_reducible refine LeO.bind ?_ (fun _ => ?_))
      | exact ih0 _ _ _
      | exact LeO.none _
      | refine LeO.ite ?_ ?_
      | refine LeO.bind ?_ (fun _ => ?_)
set_option maxHeartbeats 8000000 in
set_option maxRecDepth 100000 in
theorem place_Up.calls (k : Nat) (a0 : Int) (a1 : Int) (r1 : Int) (r2 : Int) (w : World) (h : place_Up.f k a0 a1 = some (r1, r2)) :
    Calls Try.prog 14 #[.int .u64 a0, .int .i64 a1] w fun e w' => e = .returned (.tuple #[.int .u64 r1, .int .i64 r2]) ∧ Drawn0 w w' := by
  have H : (if a1 < 0 then (place_Up.j0 k a0 a1 true) else (place_Up.j0 k a0 a1 (decide (a1 > 12)))) = some (r1, r2) := h
  clear h
  have HC3 := Aside0.mk H
  clear H
  go_enter Try.func14, Try.ntmps14
  go_upto_region 1 with (fail)
  go_cut [7] (fun v7 wc => ∃ (kq : Nat) (x7_2 : Bool), v7 = .bool x7_2 ∧ Aside0 (place_Up.j0 kq a0 a1 x7_2 = some (r1, r2)) ∧ Aside0 (kq ≤ k) ∧ Drawn0 w wc)
  case first =>
    have H := HC3.out
    clear HC3
    by_cases c4 : a1 < 0
    · rw [if_pos c4] at H
      have c4b0 : decide (a1 < 0) = true := decide_eq_true c4
      clear c4
      (first | rw [c4b0] | (simp only [i64_w, i32_w]; rw [c4b0]) | skip)
      have H' := Aside0.mk H
      clear H
      go_wp2
      go_meet
      case rel => exact ⟨_, (true), (by first | rfl | (simp; done) | (simp [*]; done)), H', ⟨by first | omega | exact Nat.le_refl _⟩, by repeat (first | exact Drawn0.refl _ | apply Drawn0.step)⟩
    · rw [if_neg c4] at H
      have c4b0 : decide (a1 < 0) = false := decide_eq_false c4
      clear c4
      (first | rw [c4b0] | (simp only [i64_w, i32_w]; rw [c4b0]) | skip)
      have H' := Aside0.mk H
      clear H
      go_wp2
      go_meet
      case rel => exact ⟨_, (decide (a1 > 12)), (by first | rfl | (simp; done) | (simp [*]; done)), H', ⟨by first | omega | exact Nat.le_refl _⟩, by repeat (first | exact Drawn0.refl _ | apply Drawn0.step)⟩
  case rest =>
    clear HC3
    try clear c1
    try clear p2
    try clear c4
    try clear c4b0
    obtain ⟨kq, x7_2, rfl, HA, HJ2, ⟨mc2, rfl⟩⟩ := hcut
    cases kq with
    | zero => exact absurd HA.out (by simp [place_Up.j0])
    | succ kj2 =>
      have H := HA.out
      clear HA
      simp only [place_Up.j0] at H
      by_cases c5 : x7_2 = true
      · subst c5
        have H1 : (some (0, 1)) = some (r1, r2) := by rw [if_pos rfl] at H; exact H
        clear H
        have H := H1
        clear H1
        simp only [Option.some.injEq, Prod.mk.injEq] at H
        obtain ⟨rfl, rfl⟩ := H
        go_wp2
        go_ret2
        exact ⟨by first | rfl | (simp; done) | (simp [*]; done), by repeat (first | exact Drawn0.refl _ | apply Drawn0.step)⟩
      · replace c5 := Bool.eq_false_iff.mpr c5
        subst c5
        have H1 : (if a0 > 9223372036854775808 then (some (0, 4)) else (if 0 ≤ a1 then (some (Go.bits .andNot .u64 (IntKind.u64.wrap ((IntKind.u64.wrap (a0 + (shl .u64 1 a1))) - 1)) (IntKind.u64.wrap ((shl .u64 1 a1) - 1)), 0)) else (none))) = some (r1, r2) := by rw [if_neg (show ¬ (false = true) by decide)] at H; exact H
        clear H
        have H := H1
        clear H1
        by_cases c6 : a0 > 9223372036854775808
        · rw [if_pos c6] at H
          have c6b0 : decide (9223372036854775808 < a0) = true := decide_eq_true c6
          clear c6
          simp only [Option.some.injEq, Prod.mk.injEq] at H
          obtain ⟨rfl, rfl⟩ := H
          go_wp2
          go_ret2
          exact ⟨by first | rfl | (simp; done) | (simp [*]; done), by repeat (first | exact Drawn0.refl _ | apply Drawn0.step)⟩
        · rw [if_neg c6] at H
          have c6b0 : decide (9223372036854775808 < a0) = false := decide_eq_false c6
          clear c6
          by_cases c7 : 0 ≤ a1
          · rw [if_pos c7] at H
            have c7b0 := eq_true c7
            have c7b1 : decide (0 ≤ a1) = true := decide_eq_true c7
            clear c7
            obtain ⟨ji8, hji8⟩ : ∃ j_ : Int, (shl .u64 1 a1) = j_ := ⟨_, rfl⟩
            replace H : (some (Go.bits .andNot .u64 (IntKind.u64.wrap ((IntKind.u64.wrap (a0 + (ji8))) - 1)) (IntKind.u64.wrap ((ji8) - 1)), 0)) = some (r1, r2) := by first | (rw [hji8] at H; exact H) | (simp only [hji8] at H ⊢; exact H)
            have hji8_ : (IntKind.u64.wrap (1 * 2 ^ min a1.toNat 64)) = ji8 := hji8
            have hji8z : a1 ≤ 64 → (IntKind.u64.wrap (1 * 2 ^ a1.toNat)) = ji8 := shl_small hji8
            have hji8u : (IntKind.u64.wrap (2 ^ min a1.toNat 64)) = ji8 := by have h_ := hji8_; rw [Int.one_mul] at h_; exact h_
            have hji8v : a1 ≤ 64 → (IntKind.u64.wrap (2 ^ a1.toNat)) = ji8 := fun hle_ => by have h_ := hji8z hle_; rw [Int.one_mul] at h_; exact h_
            simp only [Option.some.injEq, Prod.mk.injEq] at H
            obtain ⟨rfl, rfl⟩ := H
            go_wp2
            go_ret2
            exact ⟨by first | rfl | (simp; done) | (simp only [← hji8] <;> (first | rfl | simp)) | (simp [*]; done), by repeat (first | exact Drawn0.refl _ | apply Drawn0.step)⟩
          · rw [if_neg c7] at H
            exact absurd H (by simp)

end Go.Proofs.Ytcfejagfognipaa.Pl
