/-
  The walk of cleatlaw24.PlaceFar. No condition but that f answers.
-/
import Derived.Test.YtcfejagfognipaaPlRefFar
import Derived.Test.YtcfejagfognipaaPlLaid
namespace Go.Proofs.Ytcfejagfognipaa.Pl
open Go.RowKit Go.Proofs.YtcfejagfognipaaW.PrintWords Go.Proofs.YtcfejagfognipaaW.PrintLast Go.Proofs.YtcfejagfognipaaW.PrintMore
attribute [local go_sem] max2_int min2_int max_two min_two max_three min_three max_four min_four   -- for this text's walks alone
set_option linter.unusedVariables false
set_option linter.unusedSimpArgs false

/-! ### cleatlaw24_PlaceFar: function 4 -/
def cleatlaw24_PlaceFar.f (k : Nat) (a0 : Int) (a1 : Int) (a2 : Int) : Option (Bool) := (cleatlaw24_laid.f k).bind fun t191 => (if t191 = true then ((place_Far.f a0 a1).bind fun t192 => ((cleatref24_Far.f a0 a1).bind fun t193 => (if t192 = t193 then ((place_Near.f a0 a1 a2).bind fun t194 => ((cleatref24_Near.f a0 a1 a2).bind fun t195 => (some (t194 == t195)))) else (some false)))) else (some false))
theorem cleatlaw24_PlaceFar.mono : ∀ a0 a1 a2 k, LeO (cleatlaw24_PlaceFar.f k a0 a1 a2) (cleatlaw24_PlaceFar.f (k + 1) a0 a1 a2) := by
  intro a0 a1 a2 k
  unfold cleatlaw24_PlaceFar.f
  repeat' first
      | (with_reducible exact cleatlaw24_laid.mono _)
      | (with_reducible exact LeO.refl _)
      | (with_reducible exact LeO.none _)
      | (with_reducible refine LeO.ite ?_ ?_)
      | (with_reducible refine LeO.bind ?_ (fun _ => ?_))
      | exact cleatlaw24_laid.mono _
      | exact LeO.none _
      | refine LeO.ite ?_ ?_
      | refine LeO.bind ?_ (fun _ => ?_)
set_option maxHeartbeats 8000000 in
set_option maxRecDepth 100000 in
theorem cleatlaw24_PlaceFar.calls (k : Nat) (a0 : Int) (a1 : Int) (a2 : Int) (r : Bool) (w : World) (h : cleatlaw24_PlaceFar.f k a0 a1 a2 = some r) :
    Calls Try.prog 4 #[.int .u64 a0, .int .u64 a1, .int .i64 a2] w fun e w' => e = .returned (.bool r) ∧ Below w.heap.size w w' := by
  have HB := Aside0.mk (Below.refl w.heap.size w)
  have H : ((cleatlaw24_laid.f k).bind fun t191 => (if t191 = true then ((place_Far.f a0 a1).bind fun t192 => ((cleatref24_Far.f a0 a1).bind fun t193 => (if t192 = t193 then ((place_Near.f a0 a1 a2).bind fun t194 => ((cleatref24_Near.f a0 a1 a2).bind fun t195 => (some (t194 == t195)))) else (some false)))) else (some false))) = some r := h
  clear h
  replace H := Option.bind_eq_some_iff.mp H
  obtain ⟨t191, A40, H⟩ := H
  replace H : (if t191 = true then ((place_Far.f a0 a1).bind fun t192 => ((cleatref24_Far.f a0 a1).bind fun t193 => (if t192 = t193 then ((place_Near.f a0 a1 a2).bind fun t194 => ((cleatref24_Near.f a0 a1 a2).bind fun t195 => (some (t194 == t195)))) else (some false)))) else (some false)) = some r := H
  have A4 := Aside0.mk A40
  clear A40
  by_cases c5 : t191 = true
  · subst c5
    have H1 : ((place_Far.f a0 a1).bind fun t192 => ((cleatref24_Far.f a0 a1).bind fun t193 => (if t192 = t193 then ((place_Near.f a0 a1 a2).bind fun t194 => ((cleatref24_Near.f a0 a1 a2).bind fun t195 => (some (t194 == t195)))) else (some false)))) = some r := by rw [if_pos rfl] at H; exact H
    clear H
    have H := H1
    clear H1
    replace H := Option.bind_eq_some_iff.mp H
    obtain ⟨t192, A60, H⟩ := H
    replace H : ((cleatref24_Far.f a0 a1).bind fun t193 => (if t192 = t193 then ((place_Near.f a0 a1 a2).bind fun t194 => ((cleatref24_Near.f a0 a1 a2).bind fun t195 => (some (t194 == t195)))) else (some false))) = some r := H
    have A6 := Aside0.mk A60
    clear A60
    replace H := Option.bind_eq_some_iff.mp H
    obtain ⟨t193, A70, H⟩ := H
    replace H : (if t192 = t193 then ((place_Near.f a0 a1 a2).bind fun t194 => ((cleatref24_Near.f a0 a1 a2).bind fun t195 => (some (t194 == t195)))) else (some false)) = some r := H
    have A7 := Aside0.mk A70
    clear A70
    by_cases c8 : t192 = t193
    · rw [if_pos c8] at H
      have c8b0 : (t192 == t193) = true := beq_iff_eq.mpr c8
      have c8b1 : (t192 != t193) = false := bne_eq_false_iff_eq.mpr c8
      clear c8
      replace H := Option.bind_eq_some_iff.mp H
      obtain ⟨t194, A90, H⟩ := H
      replace H : ((cleatref24_Near.f a0 a1 a2).bind fun t195 => (some (t194 == t195))) = some r := H
      have A9 := Aside0.mk A90
      clear A90
      replace H := Option.bind_eq_some_iff.mp H
      obtain ⟨t195, A100, H⟩ := H
      replace H : (some (t194 == t195)) = some r := H
      have A10 := Aside0.mk A100
      clear A100
      obtain rfl := Option.some.inj H
      go_enter Try.func4, Try.ntmps4
      go_wp2_with (first | ((with_reducible refine gate_callee (f := 18) rfl ?_); refine goesL_ (some 7) rfl rfl Try.func18 (by kernel_rfl) rfl #[] rfl (by (try simp only [List.map_toArray, List.map_cons, List.map_nil]); first | done | rfl | (simp only [List.length_drop, List.length_take]; rfl)) ?_; (with_reducible refine (cleatlaw24_laid.calls k  true _ A4.out).mono ?_); rintro e w11 ⟨rfl, hb⟩; refine ⟨_, rfl, ?_⟩; have n0_ := Aside0.mk (below_step (by repeat (first | (with_reducible first | exact HB.out | apply below_alloc | apply pw_below_drewN | apply below_drew1) | exact HB.out)) hb); clear HB; have HB := n0_; clear n0_; (try clear hb); (try clear hb2); (try clear hk); (try clear hi)) | (go_at_call 22; (with_reducible refine (place_Far.calls a0 a1 t192 _ A6.out).mono ?_); rintro e w' ⟨rfl, ⟨nd, rfl⟩⟩) | (go_at_call 23; (with_reducible refine (cleatref24_Far.calls a0 a1 t193 _ A7.out).mono ?_); rintro e w' ⟨rfl, ⟨nd, rfl⟩⟩) | (go_at_call 24; (with_reducible refine (place_Near.calls a0 a1 a2 t194 _ A9.out).mono ?_); rintro e w' ⟨rfl, ⟨nd, rfl⟩⟩) | (go_at_call 25; (with_reducible refine (cleatref24_Near.calls a0 a1 a2 t195 _ A10.out).mono ?_); rintro e w' ⟨rfl, ⟨nd, rfl⟩⟩))
      go_ret
      exact ⟨by first | rfl | (simp [errW_none, errW_some] <;> rfl) | (simp [*, errW_none, errW_some] <;> rfl), by repeat (first | (with_reducible first | exact HB.out | apply below_alloc | apply pw_below_drewN | apply below_drew1) | exact HB.out)⟩
    · rw [if_neg c8] at H
      have c8b0 : (t192 == t193) = false := beq_eq_false_iff_ne.mpr c8
      have c8b1 : (t192 != t193) = true := bne_iff_ne.mpr c8
      obtain rfl := Option.some.inj H
      go_enter Try.func4, Try.ntmps4
      go_wp2_with (first | ((with_reducible refine gate_callee (f := 18) rfl ?_); refine goesL_ (some 7) rfl rfl Try.func18 (by kernel_rfl) rfl #[] rfl (by (try simp only [List.map_toArray, List.map_cons, List.map_nil]); first | done | rfl | (simp only [List.length_drop, List.length_take]; rfl)) ?_; (with_reducible refine (cleatlaw24_laid.calls k  true _ A4.out).mono ?_); rintro e w12 ⟨rfl, hb⟩; refine ⟨_, rfl, ?_⟩; have n0_ := Aside0.mk (below_step (by repeat (first | (with_reducible first | exact HB.out | apply below_alloc | apply pw_below_drewN | apply below_drew1) | exact HB.out)) hb); clear HB; have HB := n0_; clear n0_; (try clear hb); (try clear hb2); (try clear hk); (try clear hi)) | (go_at_call 22; (with_reducible refine (place_Far.calls a0 a1 t192 _ A6.out).mono ?_); rintro e w' ⟨rfl, ⟨nd, rfl⟩⟩) | (go_at_call 23; (with_reducible refine (cleatref24_Far.calls a0 a1 t193 _ A7.out).mono ?_); rintro e w' ⟨rfl, ⟨nd, rfl⟩⟩))
      go_ret
      exact ⟨by first | rfl | (simp [errW_none, errW_some] <;> rfl) | (simp [*, errW_none, errW_some] <;> rfl), by repeat (first | (with_reducible first | exact HB.out | apply below_alloc | apply pw_below_drewN | apply below_drew1) | exact HB.out)⟩
  · replace c5 := Bool.eq_false_iff.mpr c5
    subst c5
    have H1 : (some false) = some r := by rw [if_neg (show ¬ (false = true) by decide)] at H; exact H
    clear H
    have H := H1
    clear H1
    obtain rfl := Option.some.inj H
    go_enter Try.func4, Try.ntmps4
    go_wp2_with (first | ((with_reducible refine gate_callee (f := 18) rfl ?_); refine goesL_ (some 7) rfl rfl Try.func18 (by kernel_rfl) rfl #[] rfl (by (try simp only [List.map_toArray, List.map_cons, List.map_nil]); first | done | rfl | (simp only [List.length_drop, List.length_take]; rfl)) ?_; (with_reducible refine (cleatlaw24_laid.calls k  false _ A4.out).mono ?_); rintro e w13 ⟨rfl, hb⟩; refine ⟨_, rfl, ?_⟩; have n0_ := Aside0.mk (below_step (by repeat (first | (with_reducible first | exact HB.out | apply below_alloc | apply pw_below_drewN | apply below_drew1) | exact HB.out)) hb); clear HB; have HB := n0_; clear n0_; (try clear hb); (try clear hb2); (try clear hk); (try clear hi)))
    go_ret
    exact ⟨by first | rfl | (simp [errW_none, errW_some] <;> rfl) | (simp [*, errW_none, errW_some] <;> rfl), by repeat (first | (with_reducible first | exact HB.out | apply below_alloc | apply pw_below_drewN | apply below_drew1) | exact HB.out)⟩

/-- THE ONE PURE STATEMENT of cleatlaw24_PlaceFar: yours. -/
def cleatlaw24_PlaceFar.Pure : Prop := ∀ (a0 : Int) (a1 : Int) (a2 : Int), (Lit.int .u64 a0).wf = true → (Lit.int .u64 a1).wf = true → (Lit.int .i64 a2).wf = true → ∃ k, cleatlaw24_PlaceFar.f k a0 a1 a2 = some true
theorem cleatlaw24_PlaceFar.walk (P : cleatlaw24_PlaceFar.Pure) (a0 : Int) (a1 : Int) (a2 : Int) (w : World) (w0 : (Lit.int .u64 a0).wf = true) (w1 : (Lit.int .u64 a1).wf = true) (w2 : (Lit.int .i64 a2).wf = true) :
    Calls Try.prog 4 #[.int .u64 a0, .int .u64 a1, .int .i64 a2] w fun e w' => e = .returned (.bool true) ∧ Below w.heap.size w w' := by
  obtain ⟨k, h⟩ := P a0 a1 a2 w0 w1 w2
  refine (cleatlaw24_PlaceFar.calls k a0 a1 a2 true w h).mono ?_
  rintro e w' ⟨rfl, hd⟩
  exact ⟨rfl, hd⟩

end Go.Proofs.Ytcfejagfognipaa.Pl
