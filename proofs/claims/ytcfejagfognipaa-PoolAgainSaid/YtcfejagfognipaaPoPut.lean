/-
  The walks of New, Size and Put. Condition: the pool stands.
-/
import Derived.Test.YtcfejagfognipaaPoFind
import Derived.Test.YtcfejagfognipaaPoAdd
import Derived.Test.YtcfejagfognipaaPoOf
import Derived.Deep.RegionWith
namespace Go.Proofs.Ytcfejagfognipaa.Po
open Go.RowKit Go.Proofs.YtcfejagfognipaaW.PrintWords Go.Proofs.YtcfejagfognipaaW.PrintLast Go.Proofs.YtcfejagfognipaaW.PrintMore
set_option linter.unusedVariables false
set_option linter.unusedSimpArgs false

/-- A pool, whatever its row and its map are. -/
def Pool (w : World) (g : Nat) (ok : Nat → Prop) (L : List S53) : Prop := ∃ sl mo, PoolAt w g ok sl mo L
theorem Pool.below {w w1 : World} {g : Nat} {ok : Nat → Prop} {L : List S53} (h : Pool w g ok L) (hb : Below w.heap.size w w1) : Pool w1 g ok L := by
  obtain ⟨sl, mo, h⟩ := h
  exact ⟨sl, mo, h.below hb⟩
theorem Pool.move {w w1 : World} {g : Nat} {ok : Nat → Prop} {L : List S53} (h : Pool w g ok L) (hm : ∀ k, ok k → k < w.heap.size → w1.heap[k]? = w.heap[k]?) : Pool w1 g ok L := by
  obtain ⟨sl, mo, h⟩ := h
  exact ⟨sl, mo, h.move hm⟩
theorem Pool.bound {w : World} {g : Nat} {ok : Nat → Prop} {L : List S53} (h : Pool w g ok L) : Pool w g (fun k => ok k ∧ k < w.heap.size) L := by
  obtain ⟨sl, mo, h⟩ := h
  exact ⟨sl, mo, h.bound⟩
theorem Pool.mono {w : World} {g : Nat} {ok ok' : Nat → Prop} {L : List S53} (h : Pool w g ok L) (hk : ∀ k, ok k → ok' k) : Pool w g ok' L := by
  obtain ⟨sl, mo, h⟩ := h
  exact ⟨sl, mo, h.mono hk⟩

set_option maxHeartbeats 1000000 in
set_option maxRecDepth 100000 in
theorem new_walk (w : World) :
    Calls Try.prog 27 #[] w fun e w' => e = .returned (.pointer (some ⟨w.heap.size, 0, none⟩)) ∧ Pool w' w.heap.size (fun k => w.heap.size ≤ k) [] ∧ Below w.heap.size w w' := by
  have hu75 := Try.underlying75
  go_enter Try.func27, Try.ntmps27
  go_wp2
  go_ret
  refine ⟨rfl, ⟨.slice none 0 0, none, Nat.le_refl _, ?_, Kd.R_nil _ _ _ _ _, .inl ⟨rfl, rfl⟩, by simp, by simp⟩, by repeat (first | exact Below.refl _ _ | apply below_alloc | apply pw_below_drewN | apply below_drew)⟩
  exact heap_alloc_new _ _

set_option maxHeartbeats 1000000 in
set_option maxRecDepth 100000 in
theorem size_nil (w : World) : Calls Try.prog 29 #[.pointer none] w fun e w' => e = .returned (.int .i64 0) ∧ w' = w := by
  go_enter Try.func29, Try.ntmps29
  go_wp2
  go_ret
  exact ⟨rfl, rfl⟩
set_option maxHeartbeats 1000000 in
set_option maxRecDepth 100000 in
theorem size_walk {w : World} {g : Nat} {ok : Nat → Prop} {L : List S53} (h : Pool w g ok L) : Calls Try.prog 29 #[.pointer (some ⟨g, 0, none⟩)] w fun e w' => e = .returned (.int .i64 (L.length : Int)) ∧ w' = w := by
  obtain ⟨sl, mo, h⟩ := h
  obtain ⟨A, cc, rfl⟩ := Kd.R_slice h.row
  have hc0 : w.cell? ⟨g, 0, none⟩ = some (.slice A L.length cc) := (blk_cell h.blk 0).trans rfl
  clear h
  go_enter Try.func29, Try.ntmps29
  go_wp2
  go_ret
  exact ⟨rfl, rfl⟩

theorem bcell {W w1 : World} (hb : Below W.heap.size W w1) : (∀ b o, b < W.heap.size → w1.cell? ⟨b, o, none⟩ = W.cell? ⟨b, o, none⟩) ∧ (∀ b o, b < W.heap.size → w1.frozen? ⟨b, o, none⟩ = W.frozen? ⟨b, o, none⟩) :=
  ⟨fun b o h => hb.cell (p := ⟨b, o, none⟩) h, fun b o h => hb.frozen (p := ⟨b, o, none⟩) h⟩

theorem of_is (n : S49) (x : S53) (er : Int) (h : ofF n = (x, er)) (w : World) :
    Calls Try.prog 30 #[.agg #[.int .i64 n.f0, .string n.f1, .int .i64 n.f2, .bool n.f3, .int .u64 n.f4]] w fun e w' => e = .returned (.tuple #[.agg #[.string x.f0, .int .i64 x.f1, .int .u64 x.f2], .int .i64 er]) ∧ Below w.heap.size w w' := by
  have := of_walk n w
  rw [h] at this
  exact this

set_option maxHeartbeats 1000000 in
set_option maxRecDepth 100000 in
theorem put_nil (n : S49) (w : World) : Calls Try.prog 28 #[.pointer none, .agg #[.int .i64 n.f0, .string n.f1, .int .i64 n.f2, .bool n.f3, .int .u64 n.f4]] w fun e w' => e = .returned (.tuple #[.int .i64 0, .int .i64 1]) ∧ Below w.heap.size w w' := by
  have hu49 := Try.underlying49
  have hu53 := Try.underlying53
  go_enter Try.func28, Try.ntmps28
  go_wp2
  go_ret2
  exact ⟨rfl, by repeat (first | exact Below.refl _ _ | apply below_alloc | apply pw_below_drewN | apply below_drew)⟩

set_option maxHeartbeats 1000000 in
set_option maxRecDepth 100000 in
theorem put_err (n : S49) (x : S53) (er : Int) (hof : ofF n = (x, er)) (he : (er != 0) = true) (g : Nat) (w : World) : 
    Calls Try.prog 28 #[.pointer (some ⟨g, 0, none⟩), .agg #[.int .i64 n.f0, .string n.f1, .int .i64 n.f2, .bool n.f3, .int .u64 n.f4]] w fun e w' => e = .returned (.tuple #[.int .i64 0, .int .i64 er]) ∧ Below w.heap.size w w' := by
  have hu49 := Try.underlying49
  have hu53 := Try.underlying53
  have HO := Aside0.mk hof
  clear hof
  go_enter Try.func28, Try.ntmps28
  go_wp2_with (go_at_call 30; refine (of_is n x er HO.out _).mono ?_; rintro e w1 ⟨rfl, hb1⟩; obtain ⟨hc1, hf1⟩ := bcell hb1; have hz1 := hb1.size; have HB1 := Aside0.mk (below_step (by repeat (first | exact Below.refl _ _ | apply below_alloc | apply pw_below_drewN | apply below_drew) : Below w.heap.size w _) hb1); clear hb1)
  go_ret2
  exact ⟨rfl, (by repeat (first | exact Below.refl _ _ | exact HB1.out | apply below_alloc | apply pw_below_drewN | apply below_drew))⟩
set_option maxHeartbeats 1000000 in
set_option maxRecDepth 100000 in
theorem put_found (n : S49) (x : S53) (hof : ofF n = (x, 0)) (hx : Wf x) {w : World} {g : Nat} {ok : Nat → Prop} {sl : Value} {mo : Option Nat} {L : List S53} (h : PoolAt w g ok sl mo L) (i : Nat) (hi : L[i]? = some x) : 
    Calls Try.prog 28 #[.pointer (some ⟨g, 0, none⟩), .agg #[.int .i64 n.f0, .string n.f1, .int .i64 n.f2, .bool n.f3, .int .u64 n.f4]] w fun e w' => e = .returned (.tuple #[.int .i64 (i : Int), .int .i64 0]) ∧ Below w.heap.size w w' := by
  have hu49 := Try.underlying49
  have hu53 := Try.underlying53
  have HO := Aside0.mk hof
  clear hof
  have HP := Aside0.mk h
  have HX := Aside0.mk hx
  have HI := Aside0.mk hi
  clear h hx hi
  go_enter Try.func28, Try.ntmps28
  go_wp2_with (go_at_call 30; refine (of_is n x 0 HO.out _).mono ?_; rintro e w1 ⟨rfl, hb1⟩; obtain ⟨hc1, hf1⟩ := bcell hb1; have hz1 := hb1.size; have HB1 := Aside0.mk (below_step (by repeat (first | exact Below.refl _ _ | apply below_alloc | apply pw_below_drewN | apply below_drew) : Below w.heap.size w _) hb1); have HP1 := Aside0.mk (HP.out.below HB1.out); clear hb1)
  go_region_with (go_at_call 38; refine (find_in (HP1.out.below (by repeat (first | exact Below.refl _ _ | apply below_alloc | apply pw_below_drewN | apply below_drew))) HX.out HI.out).mono ?_; rintro e w2 ⟨rfl, hb2⟩; obtain ⟨hc2, hf2⟩ := bcell hb2; have hz2 := hb2.size; have HB2 := Aside0.mk (below_step (w := w) (by repeat (first | exact HB1.out | apply below_alloc | apply pw_below_drewN | apply below_drew)) hb2); clear hb2)
  all_goals
    go_wp2
    go_ret2
    exact ⟨rfl, (by repeat (first | exact HB2.out | apply below_alloc | apply pw_below_drewN | apply below_drew))⟩
set_option maxHeartbeats 1000000 in
set_option maxRecDepth 100000 in
theorem put_full (n : S49) (x : S53) (hof : ofF n = (x, 0)) (hx : Wf x) {w : World} {g : Nat} {ok : Nat → Prop} {sl : Value} {mo : Option Nat} {L : List S53} (h : PoolAt w g ok sl mo L) (hi : x ∉ L) (hl : 64 ≤ L.length) : 
    Calls Try.prog 28 #[.pointer (some ⟨g, 0, none⟩), .agg #[.int .i64 n.f0, .string n.f1, .int .i64 n.f2, .bool n.f3, .int .u64 n.f4]] w fun e w' => e = .returned (.tuple #[.int .i64 0, .int .i64 2]) ∧ Below w.heap.size w w' := by
  have hu49 := Try.underlying49
  have hu53 := Try.underlying53
  have HO := Aside0.mk hof
  clear hof
  obtain ⟨A, cc, rfl⟩ := Kd.R_slice h.row
  have HP := Aside0.mk h
  have HX := Aside0.mk hx
  have HI := Aside0.mk hi
  have l1 : decide ((64 : Int) ≤ (L.length : Int)) = true := decide_eq_true (by omega)
  have l2 : decide (64 ≤ L.length) = true := decide_eq_true hl
  clear h hx hi
  go_enter Try.func28, Try.ntmps28
  go_wp2_with (go_at_call 30; refine (of_is n x 0 HO.out _).mono ?_; rintro e w1 ⟨rfl, hb1⟩; obtain ⟨hc1, hf1⟩ := bcell hb1; have hz1 := hb1.size; have HB1 := Aside0.mk (below_step (by repeat (first | exact Below.refl _ _ | apply below_alloc | apply pw_below_drewN | apply below_drew) : Below w.heap.size w _) hb1); have HP1 := Aside0.mk (HP.out.below HB1.out); clear hb1)
  go_region_with (go_at_call 38; refine (find_no (HP1.out.below (by repeat (first | exact Below.refl _ _ | apply below_alloc | apply pw_below_drewN | apply below_drew))) HX.out HI.out).mono ?_; rintro e w2 ⟨rfl, hb2⟩; obtain ⟨hc2, hf2⟩ := bcell hb2; have hz2 := hb2.size; have HB2 := Aside0.mk (below_step (w := w) (by repeat (first | exact HB1.out | apply below_alloc | apply pw_below_drewN | apply below_drew)) hb2); have HP2 := Aside0.mk (HP.out.below HB2.out); have hcg : w2.cell? ⟨g, 0, none⟩ = some (.slice A L.length cc) := (blk_cell HP2.out.blk 0).trans rfl; clear hb2)
  all_goals
    go_wp2
    go_ret2
    exact ⟨rfl, (by repeat (first | exact HB2.out | apply below_alloc | apply pw_below_drewN | apply below_drew))⟩
set_option maxHeartbeats 1000000 in
set_option maxRecDepth 100000 in
theorem put_new (n : S49) (x : S53) (hof : ofF n = (x, 0)) (hx : Wf x) {w : World} {g : Nat} {ok : Nat → Prop} {sl : Value} {mo : Option Nat} {L : List S53} (h : PoolAt w g ok sl mo L) (hi : x ∉ L) (hl : L.length < 64) (hfresh : ∀ k, w.heap.size ≤ k → ok k) : 
    Calls Try.prog 28 #[.pointer (some ⟨g, 0, none⟩), .agg #[.int .i64 n.f0, .string n.f1, .int .i64 n.f2, .bool n.f3, .int .u64 n.f4]] w fun e w' => e = .returned (.tuple #[.int .i64 (L.length : Int), .int .i64 0]) ∧ (∃ sl' mo', PoolAt w' g ok sl' mo' (L ++ [x])) ∧ Stays ok w w' := by
  have hu49 := Try.underlying49
  have hu53 := Try.underlying53
  have HO := Aside0.mk hof
  clear hof
  obtain ⟨A, cc, rfl⟩ := Kd.R_slice h.row
  have HP := Aside0.mk h
  have HX := Aside0.mk hx
  have HI := Aside0.mk hi
  have HL := Aside0.mk hl
  have HF := Aside0.mk hfresh
  have l1 : decide ((64 : Int) ≤ (L.length : Int)) = false := decide_eq_false (by omega)
  have l2 : decide (64 ≤ L.length) = false := decide_eq_false (by omega)
  clear h hx hi hl hfresh
  go_enter Try.func28, Try.ntmps28
  go_wp2_with (go_at_call 30; refine (of_is n x 0 HO.out _).mono ?_; rintro e w1 ⟨rfl, hb1⟩; obtain ⟨hc1, hf1⟩ := bcell hb1; have hz1 := hb1.size; have HB1 := Aside0.mk (below_step (by repeat (first | exact Below.refl _ _ | apply below_alloc | apply pw_below_drewN | apply below_drew) : Below w.heap.size w _) hb1); have HP1 := Aside0.mk (HP.out.below HB1.out); clear hb1)
  go_region_with (go_at_call 38; refine (find_no (HP1.out.below (by repeat (first | exact Below.refl _ _ | apply below_alloc | apply pw_below_drewN | apply below_drew))) HX.out HI.out).mono ?_; rintro e w2 ⟨rfl, hb2⟩; obtain ⟨hc2, hf2⟩ := bcell hb2; have hz2 := hb2.size; have HB2 := Aside0.mk (below_step (w := w) (by repeat (first | exact HB1.out | apply below_alloc | apply pw_below_drewN | apply below_drew)) hb2); have HP2 := Aside0.mk (HP.out.below HB2.out); have hcg : w2.cell? ⟨g, 0, none⟩ = some (.slice A L.length cc) := (blk_cell HP2.out.blk 0).trans rfl; clear hb2)
  all_goals
    go_wp2
    go_region_with (go_at_call 39; refine (add_walk (HP2.out.below (by repeat (first | exact Below.refl _ _ | apply below_alloc | apply pw_below_drewN | apply below_drew))) HX.out HI.out HL.out (fun k hk => HF.out k (Nat.le_trans (below_size (by repeat (first | exact HB2.out | apply below_alloc | apply pw_below_drewN | apply below_drew))) hk))).mono ?_; rintro e w3 ⟨rfl, hp3, hs3⟩; have HP3 := Aside0.mk hp3; have HS3 := Aside0.mk (Stays.trans (Stays.of_below (w := w) (by repeat (first | exact HB2.out | apply below_alloc | apply pw_below_drewN | apply below_drew))) hs3); clear hp3 hs3)
  all_goals
    go_wp2
    go_ret2
    exact ⟨rfl, HP3.out, HS3.out⟩

/-- What a pool answers, and has, behind Put. -/
inductive PutR (L : List S53) (n : S49) : Int → Int → List S53 → Prop
  | err (he : (ofF n).2 ≠ 0) : PutR L n 0 (ofF n).2 L
  | found (i : Nat) (h0 : (ofF n).2 = 0) (hi : L[i]? = some (ofF n).1) : PutR L n i 0 L
  | full (h0 : (ofF n).2 = 0) (hi : (ofF n).1 ∉ L) (hl : 64 ≤ L.length) : PutR L n 0 2 L
  | new (h0 : (ofF n).2 = 0) (hi : (ofF n).1 ∉ L) (hl : L.length < 64) : PutR L n L.length 0 (L ++ [(ofF n).1])

theorem put_walk (n : S49) (hx : (ofF n).2 = 0 → Wf (ofF n).1) {w : World} {g : Nat} {ok : Nat → Prop} {L : List S53} (h : Pool w g ok L) (hfresh : ∀ k, w.heap.size ≤ k → ok k) {a e : Int} {L' : List S53} (hr : PutR L n a e L') :
    Calls Try.prog 28 #[.pointer (some ⟨g, 0, none⟩), .agg #[.int .i64 n.f0, .string n.f1, .int .i64 n.f2, .bool n.f3, .int .u64 n.f4]] w fun en w' => en = .returned (.tuple #[.int .i64 a, .int .i64 e]) ∧ Pool w' g ok L' ∧ Stays ok w w' := by
  obtain ⟨sl, mo, h⟩ := h
  cases hr with
  | err he => exact (put_err n (ofF n).1 (ofF n).2 rfl (bne_iff_ne.mpr he) g w).mono fun _ _ ⟨h1, h2⟩ => ⟨h1, ⟨sl, mo, h.below h2⟩, Stays.of_below h2⟩
  | found i h0 hi => exact (put_found n _ (Prod.ext rfl h0) (hx h0) h i hi).mono fun _ _ ⟨h1, h2⟩ => ⟨h1, ⟨sl, mo, h.below h2⟩, Stays.of_below h2⟩
  | full h0 hi hl => exact (put_full n _ (Prod.ext rfl h0) (hx h0) h hi hl).mono fun _ _ ⟨h1, h2⟩ => ⟨h1, ⟨sl, mo, h.below h2⟩, Stays.of_below h2⟩
  | new h0 hi hl => exact (put_new n _ (Prod.ext rfl h0) (hx h0) h hi hl hfresh).mono fun _ _ ⟨h1, h2, h3⟩ => ⟨h1, h2, h3⟩
end Go.Proofs.Ytcfejagfognipaa.Po
