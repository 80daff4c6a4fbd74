/-
  The walks of the reference: Far, Near. No condition but that f answers.
-/
import Derived.Test.YtcfejagfognipaaPlx0
namespace Go.Proofs.Ytcfejagfognipaa.Pl
open Go.RowKit Go.Proofs.YtcfejagfognipaaW.PrintWords Go.Proofs.YtcfejagfognipaaW.PrintLast Go.Proofs.YtcfejagfognipaaW.PrintMore
attribute [local go_sem] max2_int min2_int max_two min_two max_three min_three max_four min_four   -- for this text's walks alone
set_option linter.unusedVariables false
set_option linter.unusedSimpArgs false

/-! ### cleatref24_Far: function 23 -/
def cleatref24_Far.f (a0 : Int) (a1 : Int) : Option (Int) := if (IntKind.u64.wrap (a1 - a0)) < 9223372036854775808 then (some (wrap64 (IntKind.u64.wrap (a1 - a0)))) else (some (wrap64 ((-1) - (wrap64 (IntKind.u64.wrap (18446744073709551615 - (IntKind.u64.wrap (a1 - a0))))))))
set_option maxHeartbeats 8000000 in
set_option maxRecDepth 100000 in
theorem cleatref24_Far.calls (a0 : Int) (a1 : Int) (r : Int) (w : World) (h : cleatref24_Far.f a0 a1 = some r) :
    Calls Try.prog 23 #[.int .u64 a0, .int .u64 a1] w fun e w' => e = .returned (.int .i64 r) ∧ Drawn0 w w' := by
  have H : (if (IntKind.u64.wrap (a1 - a0)) < 9223372036854775808 then (some (wrap64 (IntKind.u64.wrap (a1 - a0)))) else (some (wrap64 ((-1) - (wrap64 (IntKind.u64.wrap (18446744073709551615 - (IntKind.u64.wrap (a1 - a0))))))))) = some r := h
  clear h
  by_cases c3 : (IntKind.u64.wrap (a1 - a0)) < 9223372036854775808
  · rw [if_pos c3] at H
    have c3b0 : decide ((IntKind.u64.wrap (a1 - a0)) < 9223372036854775808) = true := decide_eq_true c3
    clear c3
    obtain rfl := Option.some.inj H
    go_enter Try.func23, Try.ntmps23
    go_wp2
    go_ret
    exact ⟨by first | rfl | (simp; done) | (simp [*]; done), by repeat (first | exact Drawn0.refl _ | apply Drawn0.step)⟩
  · rw [if_neg c3] at H
    have c3b0 : decide ((IntKind.u64.wrap (a1 - a0)) < 9223372036854775808) = false := decide_eq_false c3
    clear c3
    obtain rfl := Option.some.inj H
    go_enter Try.func23, Try.ntmps23
    go_wp2
    go_ret
    exact ⟨by first | rfl | (simp; done) | (simp [*]; done), by repeat (first | exact Drawn0.refl _ | apply Drawn0.step)⟩

/-! ### cleatref24_Near: function 25 -/
def cleatref24_Near.f (a0 : Int) (a1 : Int) (a2 : Int) : Option (Bool) := if a2 < 0 then (some false) else ((cleatref24_Far.f a0 a1).bind fun t190 => (if t190 ≥ (wrap64 (-a2)) then (some (decide (t190 ≤ (wrap64 (a2 - 4))))) else (some false)))
set_option maxHeartbeats 8000000 in
set_option maxRecDepth 100000 in
theorem cleatref24_Near.calls (a0 : Int) (a1 : Int) (a2 : Int) (r : Bool) (w : World) (h : cleatref24_Near.f a0 a1 a2 = some r) :
    Calls Try.prog 25 #[.int .u64 a0, .int .u64 a1, .int .i64 a2] w fun e w' => e = .returned (.bool r) ∧ Drawn0 w w' := by
  have H : (if a2 < 0 then (some false) else ((cleatref24_Far.f a0 a1).bind fun t190 => (if t190 ≥ (wrap64 (-a2)) then (some (decide (t190 ≤ (wrap64 (a2 - 4))))) else (some false)))) = some r := h
  clear h
  by_cases c4 : a2 < 0
  · rw [if_pos c4] at H
    have c4b0 : decide (a2 < 0) = true := decide_eq_true c4
    clear c4
    obtain rfl := Option.some.inj H
    go_enter Try.func25, Try.ntmps25
    go_wp2
    go_ret
    exact ⟨by first | rfl | (simp; done) | (simp [*]; done), by repeat (first | exact Drawn0.refl _ | apply Drawn0.step)⟩
  · rw [if_neg c4] at H
    have c4b0 : decide (a2 < 0) = false := decide_eq_false c4
    clear c4
    replace H := Option.bind_eq_some_iff.mp H
    obtain ⟨t190, A50, H⟩ := H
    replace H : (if t190 ≥ (wrap64 (-a2)) then (some (decide (t190 ≤ (wrap64 (a2 - 4))))) else (some false)) = some r := H
    have A5 := Aside0.mk A50
    clear A50
    by_cases c6 : t190 ≥ (wrap64 (-a2))
    · rw [if_pos c6] at H
      have c6b0 : decide ((wrap64 (-a2)) ≤ t190) = true := decide_eq_true c6
      clear c6
      obtain rfl := Option.some.inj H
      go_enter Try.func25, Try.ntmps25
      go_wp2_with (first | ((with_reducible refine gate_callee (f := 23) rfl ?_); refine goesL_ (some 12) rfl rfl Try.func23 (by kernel_rfl) rfl #[.int .u64 a0, .int .u64 a1] rfl (by (try simp only [List.map_toArray, List.map_cons, List.map_nil]); first | done | rfl | (simp only [List.length_drop, List.length_take]; rfl)) ?_; (with_reducible refine (cleatref24_Far.calls a0 a1 t190 _ A5.out).mono ?_); rintro e w' ⟨rfl, ⟨nd, rfl⟩⟩; refine ⟨_, rfl, ?_⟩))
      go_ret
      exact ⟨by first | rfl | (simp; done) | (simp [*]; done), by repeat (first | exact Drawn0.refl _ | apply Drawn0.step)⟩
    · rw [if_neg c6] at H
      have c6b0 : decide ((wrap64 (-a2)) ≤ t190) = false := decide_eq_false c6
      clear c6
      obtain rfl := Option.some.inj H
      go_enter Try.func25, Try.ntmps25
      go_wp2_with (first | ((with_reducible refine gate_callee (f := 23) rfl ?_); refine goesL_ (some 12) rfl rfl Try.func23 (by kernel_rfl) rfl #[.int .u64 a0, .int .u64 a1] rfl (by (try simp only [List.map_toArray, List.map_cons, List.map_nil]); first | done | rfl | (simp only [List.length_drop, List.length_take]; rfl)) ?_; (with_reducible refine (cleatref24_Far.calls a0 a1 t190 _ A5.out).mono ?_); rintro e w' ⟨rfl, ⟨nd, rfl⟩⟩; refine ⟨_, rfl, ?_⟩))
      go_ret
      exact ⟨by first | rfl | (simp; done) | (simp [*]; done), by repeat (first | exact Drawn0.refl _ | apply Drawn0.step)⟩

end Go.Proofs.Ytcfejagfognipaa.Pl
