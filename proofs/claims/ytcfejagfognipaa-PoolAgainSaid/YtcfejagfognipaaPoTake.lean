/-
  The walks of slices.Clone, row.empty and Take. Condition: the pool stands.
-/
import Derived.Test.YtcfejagfognipaaPoPut
import Derived.WalkSpells
import Derived.Lib.SliceRun
namespace Go.Proofs.Ytcfejagfognipaa.Po
open Go.RowKit Go.Proofs.YtcfejagfognipaaW.PrintWords Go.Proofs.YtcfejagfognipaaW.PrintLast Go.Proofs.YtcfejagfognipaaW.PrintMore
set_option linter.unusedVariables false
set_option linter.unusedSimpArgs false

theorem eq_nil (w : World) (A : Option Addr) (n c : Nat) : (binOp .eql 56 (.slice A n c) (.slice none 0 0)).run Try.prog w = .ok (.bool A.isNone) w :=
  Lib.run_eql_slice_nil w 56 53 A n c 0 0 Try.underlying56
theorem row_new (w : World) : Kd.R k53 53 (w.alloc (.cells #[] 53 (0, 0))) w.heap.size (fun _ => True) (.slice (some ⟨w.heap.size, 0, none⟩) 0 0) [] :=
  ⟨fun _ _ => trivial, [], ⟨rfl, .inr ⟨w.heap.size, 0, #[], rfl, Nat.le_refl _, heap_alloc_new _ _, Nat.le_refl _, Nat.zero_le _, rfl, rfl⟩⟩, Reps.none _ _⟩

set_option maxHeartbeats 1000000 in
set_option maxRecDepth 100000 in
theorem clone_nil (w : World) (n c : Nat) :
    Calls Try.prog 41 #[.slice none n c] w fun e w' => e = .returned (.slice none 0 0) ∧ Below w.heap.size w w' := by
  have hen := fun (w : World) => eq_nil w none n c
  go_enter Try.func41, Try.ntmps41
  go_wp2
  go_ret
  exact ⟨rfl, by repeat (first | exact Below.refl _ _ | apply below_alloc | apply pw_below_drewN | apply below_drew)⟩
set_option maxHeartbeats 1000000 in
set_option maxRecDepth 100000 in
theorem clone_walk (w : World) (ad : Addr) (L : List S53) (c : Nat) (hl : L.length ≤ 64) (hr : Kd.C k53 w (some ad) L.length L) :
    Calls Try.prog 41 #[.slice (some ad) L.length c] w fun e w' => ∃ v, e = .returned v ∧ Kd.R k53 53 w' w.heap.size (fun _ => True) v L ∧ Below w.heap.size w w' := by
  have hen := fun (w : World) => eq_nil w (some ad) L.length c
  have HR := Aside0.mk hr
  clear hr
  go_enter Try.func41, Try.ntmps41
  go_wp2_with ((with_reducible refine gate_builtin (b := .append) (xs := #[.tmp 5, .tmp 6]) rfl ?_); at_builtin; refine Kd.R_append_rows k53 (w0 := w) w.heap.size rfl (.tmp 5) (.tmp 6) 56 53 (.agg #[.string ⟨#[]⟩, .int .i64 0, .int .u64 0]) 32 rfl Try.underlying56 info53 rfl (by decide) (by omega) (.slice (some ⟨w.heap.size, 0, none⟩) 0 0) ([] : List S53) L _ _ _ (fun _ => True) (fun _ => False) rfl rfl (row_new w) (Kd.C_alloc HR.out _) (fun x cs hk => (by rw [k53_open hk]; exact k53_mkM _ _ _ _)) (fun _ hk => hk.elim) (fun _ _ => trivial) (below_alloc (Below.refl _ _) _) (Nat.le_of_lt (by simp)) (by simp; omega) ?_; intro v1 w1 ho hb hg hat; have HO1 := Aside0.mk ho; have HB1 := Aside0.mk hb; clear ho hb hg hat)
  go_ret
  exact ⟨_, rfl, HO1.out, HB1.out⟩

/-- clear(m): the map is emptied. -/
theorem clear_run (W : World) (ty : TypeId) {b : Nat} {es : Array MapEntry} {clock : Nat} (hb : W.heap[b]? = some (.map es clock)) :
    ∃ w', (Builtin.clear_ #[71] ty #[.map (some b)]).run Try.prog W = .ok (.tuple #[]) w' ∧ w'.heap[b]? = some (.map #[] clock) ∧ W.grownBy w' (some b) := by
  refine ⟨ChangeMaps.setBlock W b (.map #[] clock), ?_, ChangeMaps.heap_setBlock_same hb _, ⟨rfl, rfl, rfl, by simp [ChangeMaps.setBlock], fun i _ hi => ChangeMaps.heap_setBlock_other hb _ (fun e => hi (by rw [e]))⟩⟩
  simp [Builtin.clear_, run_underlying Try.underlying71, MapKept.run_getObj_map hb, MapKept.run_setObj_map _ hb, Result.andThen]
  rfl

theorem map_empty {W w' : World} {ok : Nat → Prop} {b : Nat} {L : List S53} {clock : Nat} (h : MapAt W ok b L) (hb : w'.heap[b]? = some (.map #[] clock)) : MapAt w' ok b [] :=
  ⟨h.okb, 0, .map [], ⟨#[], clock, hb, ⟨by simp, MapKept.stamped_empty clock, by simp⟩, Nat.le_refl _, rfl⟩, Nat.le_refl _, fun y _ => by simp [Maps.has_eq], fun i y _ hi => by simp at hi⟩

/-- clear, at the operation. -/
theorem wpList_clear {w : World} {ops : Array Oper} {rest : List Oper} {o : Oper} {a : Act} {Q : Exit → Act → World → Prop} (hg : o.guard = none) (m : Operand)
    (hop : o.op = Op.call { callee := Callee.builtin Builtin.clear, args := #[m], argTypes := #[71] }) {ok : Nat → Prop} {b : Nat} {L : List S53} (hm : a.eval m = .map (some b)) (h : MapAt w ok b L)
    (hK : ∀ w', MapAt w' ok b [] → w.grownBy w' (some b) → wpList Try.prog ops Q rest (a.put o.dst (.tuple #[])) w') :
    wpList Try.prog ops Q (o :: rest) a w := by
  refine wpList_plain hg fun K' hK' => ?_
  obtain ⟨es, clock, hb⟩ := map_block h
  obtain ⟨w', hrun, r1, r2⟩ := clear_run w o.type hb
  unfold Oper.wp
  simp [execOp, hop, resolve, invoke, builtin, hm, hrun, Result.andThen]
  exact hK' _ _ (hK w' (map_empty h r1) r2)

theorem PoolAt.mapAt {w : World} {g : Nat} {ok : Nat → Prop} {sl : Value} {b : Nat} {L : List S53} (h : PoolAt w g ok sl (some b) L) : MapAt w ok b L := by
  rcases h.map with ⟨h', _⟩ | ⟨b', hb', hm⟩
  · cases h'
  · cases hb'
    exact hm
theorem wpList_clear_nil {w : World} {ops : Array Oper} {rest : List Oper} {o : Oper} {a : Act} {Q : Exit → Act → World → Prop} (hg : o.guard = none) (m : Operand)
    (hop : o.op = Op.call { callee := Callee.builtin Builtin.clear, args := #[m], argTypes := #[71] }) (hm : a.eval m = .map none)
    (hK : wpList Try.prog ops Q rest (a.put o.dst (.tuple #[])) w) :
    wpList Try.prog ops Q (o :: rest) a w := by
  refine wpList_plain hg fun K' hK' => ?_
  have hrun : (Builtin.clear_ #[71] o.type #[.map none]).run Try.prog w = .ok (.tuple #[]) w := by
    simp [Builtin.clear_, run_underlying Try.underlying71, Result.andThen]
  unfold Oper.wp
  simp [execOp, hop, resolve, invoke, builtin, hm, hrun, Result.andThen]
  exact hK' _ _ hK

set_option maxHeartbeats 1000000 in
set_option maxRecDepth 100000 in
theorem empty_ss (g : Nat) (w : World) (A : Addr) (cc b : Nat) {ok : Nat → Prop} {L : List S53} (h : PoolAt w g ok (.slice (some A) L.length cc) (some b) L) :
    Calls Try.prog 40 #[.pointer (some ⟨g, 0, none⟩)] w fun e w' => ∃ v, e = .returned v ∧ Kd.R k53 53 w' w.heap.size (fun _ => True) v L ∧ Pool w' g (fun k => ok k ∧ k < w.heap.size) [] ∧ Stays ok w w' := by
  have hc0 : w.cell? ⟨g, 0, none⟩ = some (.slice (some A) L.length cc) := (blk_cell h.blk 0).trans rfl
  have hf0 := blk_frozen h.blk 0
  have hlt := blk_lt h.blk
  have HP := Aside0.mk h.bound
  have HS0 := Aside0.mk h.okg
  have HR := Aside0.mk (Kd.R_reads' h.row)
  clear h
  go_enter Try.func40, Try.ntmps40
  go_wp2_with (first | (go_at_call 41; refine (clone_walk _ A L cc HP.out.len HR.out.2.2).mono ?_; rintro e w1 ⟨v, rfl, hv, hb1⟩; have HV := Aside0.mk hv; have HB1 := Aside0.mk hb1; have HP1 := Aside0.mk (HP.out.below hb1); have hc1 : w1.cell? ⟨g, 0, none⟩ = some (.slice (some A) L.length cc) := (blk_cell HP1.out.blk 0).trans rfl; have hc11 : w1.cell? ⟨g, 1, none⟩ = some (.map (some b)) := (blk_cell HP1.out.blk 1).trans rfl; have hf1 := blk_frozen HP1.out.blk 0; clear hv hb1; have HM1 := Aside0.mk HP1.out.mapAt) | ((with_reducible refine gate_builtin (b := .clear) (xs := #[.tmp 20]) rfl ?_); refine wpList_clear rfl (.tmp 20) rfl (L := L) (b := b) (ok := fun k => ok k ∧ k < w.heap.size) rfl (HM1.out.move (Below.heap_setCell _ _ _ _ (map_ne HM1.out HP1.out.blk)) HM1.out.okb) ?_; intro w2 hm2 hg2; have HM2 := Aside0.mk hm2; have HG2 := Aside0.mk hg2; clear hm2 hg2))
  go_ret
  have HMs : MapAt (w1.setCell ⟨g, 0, none⟩ (.slice (some A) 0 cc)) (fun k => ok k ∧ k < w.heap.size) b L := HM1.out.move (Below.heap_setCell _ _ _ _ (map_ne HM1.out HP1.out.blk)) HM1.out.okb
  have hgb : some g ≠ some b := fun e => map_ne HM1.out HP1.out.blk (Option.some.inj e).symm
  refine ⟨_, rfl, ?_, ⟨_, some b, HP1.out.okg, blk_grown (blk_put HP1.out.blk 0 _ rfl) HG2.out hgb, row_past (Kd.R_set (Kd.R_take (m := 0) HP1.out.row (Nat.zero_le _)) HP1.out.blk (by decide) 0 _) HMs HG2.out, .inr ⟨b, rfl, HM2.out⟩, by simp, by simp⟩, ?_⟩
  · exact row_past (Kd.R_set HV.out HP1.out.blk (by decide) 0 _) HMs HG2.out
  · exact ((Stays.of_below HB1.out).set (p := ⟨g, 0, none⟩) HS0.out _).grow1 HG2.out (fun k e => by obtain rfl := Option.some.inj e; exact HM1.out.okb.1)
set_option maxHeartbeats 1000000 in
set_option maxRecDepth 100000 in
theorem empty_sn (g : Nat) (w : World) (A : Addr) (cc : Nat) {ok : Nat → Prop} {L : List S53} (h : PoolAt w g ok (.slice (some A) L.length cc) none L) :
    Calls Try.prog 40 #[.pointer (some ⟨g, 0, none⟩)] w fun e w' => ∃ v, e = .returned v ∧ Kd.R k53 53 w' w.heap.size (fun _ => True) v L ∧ Pool w' g (fun k => ok k ∧ k < w.heap.size) [] ∧ Stays ok w w' := by
  have hc0 : w.cell? ⟨g, 0, none⟩ = some (.slice (some A) L.length cc) := (blk_cell h.blk 0).trans rfl
  have hf0 := blk_frozen h.blk 0
  have hlt := blk_lt h.blk
  have HP := Aside0.mk h.bound
  have HS0 := Aside0.mk h.okg
  have HR := Aside0.mk (Kd.R_reads' h.row)
  clear h
  go_enter Try.func40, Try.ntmps40
  go_wp2_with (first | (go_at_call 41; refine (clone_walk _ A L cc HP.out.len HR.out.2.2).mono ?_; rintro e w1 ⟨v, rfl, hv, hb1⟩; have HV := Aside0.mk hv; have HB1 := Aside0.mk hb1; have HP1 := Aside0.mk (HP.out.below hb1); have hc1 : w1.cell? ⟨g, 0, none⟩ = some (.slice (some A) L.length cc) := (blk_cell HP1.out.blk 0).trans rfl; have hc11 : w1.cell? ⟨g, 1, none⟩ = some (.map none) := (blk_cell HP1.out.blk 1).trans rfl; have hf1 := blk_frozen HP1.out.blk 0; clear hv hb1) | ((with_reducible refine gate_builtin (b := .clear) (xs := #[.tmp 20]) rfl ?_); refine wpList_clear_nil rfl (.tmp 20) rfl rfl ?_))
  go_ret
  refine ⟨_, rfl, ?_, ⟨_, _, HP1.out.okg, blk_put HP1.out.blk 0 _ rfl, Kd.R_set (Kd.R_take (m := 0) HP1.out.row (Nat.zero_le _)) HP1.out.blk (by decide) 0 _, .inl ⟨rfl, rfl⟩, by simp, by simp⟩, ?_⟩
  · exact Kd.R_set HV.out HP1.out.blk (by decide) 0 _
  · exact (Stays.of_below HB1.out).set (p := ⟨g, 0, none⟩) HS0.out _
set_option maxHeartbeats 1000000 in
set_option maxRecDepth 100000 in
theorem empty_ns (g : Nat) (w : World) (b : Nat) {ok : Nat → Prop} (h : PoolAt w g ok (.slice none 0 0) (some b) []) :
    Calls Try.prog 40 #[.pointer (some ⟨g, 0, none⟩)] w fun e w' => ∃ v, e = .returned v ∧ Kd.R k53 53 w' w.heap.size (fun _ => True) v [] ∧ Pool w' g (fun k => ok k ∧ k < w.heap.size) [] ∧ Stays ok w w' := by
  have hc0 : w.cell? ⟨g, 0, none⟩ = some (.slice none 0 0) := (blk_cell h.blk 0).trans rfl
  have hf0 := blk_frozen h.blk 0
  have hlt := blk_lt h.blk
  have HP := Aside0.mk h.bound
  have HS0 := Aside0.mk h.okg
  clear h
  go_enter Try.func40, Try.ntmps40
  go_wp2_with (first | (go_at_call 41; refine (clone_nil _ 0 0).mono ?_; rintro e w1 ⟨rfl, hb1⟩; have HB1 := Aside0.mk hb1; have HP1 := Aside0.mk (HP.out.below hb1); have hc1 : w1.cell? ⟨g, 0, none⟩ = some (.slice none 0 0) := (blk_cell HP1.out.blk 0).trans rfl; have hc11 : w1.cell? ⟨g, 1, none⟩ = some (.map (some b)) := (blk_cell HP1.out.blk 1).trans rfl; have hf1 := blk_frozen HP1.out.blk 0; clear hb1; have HM1 := Aside0.mk HP1.out.mapAt) | ((with_reducible refine gate_builtin (b := .clear) (xs := #[.tmp 20]) rfl ?_); refine wpList_clear rfl (.tmp 20) rfl (L := []) (b := b) (ok := fun k => ok k ∧ k < w.heap.size) rfl (HM1.out.move (Below.heap_setCell _ _ _ _ (map_ne HM1.out HP1.out.blk)) HM1.out.okb) ?_; intro w2 hm2 hg2; have HM2 := Aside0.mk hm2; have HG2 := Aside0.mk hg2; clear hm2 hg2))
  go_ret
  have HMs : MapAt (w1.setCell ⟨g, 0, none⟩ (.slice none 0 0)) (fun k => ok k ∧ k < w.heap.size) b [] := HM1.out.move (Below.heap_setCell _ _ _ _ (map_ne HM1.out HP1.out.blk)) HM1.out.okb
  have hgb : some g ≠ some b := fun e => map_ne HM1.out HP1.out.blk (Option.some.inj e).symm
  refine ⟨_, rfl, ?_, ⟨_, some b, HP1.out.okg, blk_grown (blk_put HP1.out.blk 0 _ rfl) HG2.out hgb, row_past (Kd.R_set (HP1.out.row) HP1.out.blk (by decide) 0 _) HMs HG2.out, .inr ⟨b, rfl, HM2.out⟩, by simp, by simp⟩, ?_⟩
  · exact Kd.R_nil _ _ _ _ _
  · exact ((Stays.of_below HB1.out).set (p := ⟨g, 0, none⟩) HS0.out _).grow1 HG2.out (fun k e => by obtain rfl := Option.some.inj e; exact HM1.out.okb.1)
set_option maxHeartbeats 1000000 in
set_option maxRecDepth 100000 in
theorem empty_nn (g : Nat) (w : World) {ok : Nat → Prop} (h : PoolAt w g ok (.slice none 0 0) none []) :
    Calls Try.prog 40 #[.pointer (some ⟨g, 0, none⟩)] w fun e w' => ∃ v, e = .returned v ∧ Kd.R k53 53 w' w.heap.size (fun _ => True) v [] ∧ Pool w' g (fun k => ok k ∧ k < w.heap.size) [] ∧ Stays ok w w' := by
  have hc0 : w.cell? ⟨g, 0, none⟩ = some (.slice none 0 0) := (blk_cell h.blk 0).trans rfl
  have hf0 := blk_frozen h.blk 0
  have hlt := blk_lt h.blk
  have HP := Aside0.mk h.bound
  have HS0 := Aside0.mk h.okg
  clear h
  go_enter Try.func40, Try.ntmps40
  go_wp2_with (first | (go_at_call 41; refine (clone_nil _ 0 0).mono ?_; rintro e w1 ⟨rfl, hb1⟩; have HB1 := Aside0.mk hb1; have HP1 := Aside0.mk (HP.out.below hb1); have hc1 : w1.cell? ⟨g, 0, none⟩ = some (.slice none 0 0) := (blk_cell HP1.out.blk 0).trans rfl; have hc11 : w1.cell? ⟨g, 1, none⟩ = some (.map none) := (blk_cell HP1.out.blk 1).trans rfl; have hf1 := blk_frozen HP1.out.blk 0; clear hb1) | ((with_reducible refine gate_builtin (b := .clear) (xs := #[.tmp 20]) rfl ?_); refine wpList_clear_nil rfl (.tmp 20) rfl rfl ?_))
  go_ret
  refine ⟨_, rfl, ?_, ⟨_, _, HP1.out.okg, blk_put HP1.out.blk 0 _ rfl, Kd.R_set (HP1.out.row) HP1.out.blk (by decide) 0 _, .inl ⟨rfl, rfl⟩, by simp, by simp⟩, ?_⟩
  · exact Kd.R_nil _ _ _ _ _
  · exact (Stays.of_below HB1.out).set (p := ⟨g, 0, none⟩) HS0.out _

theorem empty_walk {g : Nat} {w : World} {ok : Nat → Prop} {L : List S53} (h : Pool w g ok L) :
    Calls Try.prog 40 #[.pointer (some ⟨g, 0, none⟩)] w fun e w' => ∃ v, e = .returned v ∧ Kd.R k53 53 w' w.heap.size (fun _ => True) v L ∧ Pool w' g (fun k => ok k ∧ k < w.heap.size) [] ∧ Stays ok w w' := by
  obtain ⟨sl, mo, h⟩ := h
  obtain ⟨A, cc, rfl⟩ := Kd.R_slice h.row
  cases A with
  | none =>
    obtain ⟨rfl, rfl⟩ : L = [] ∧ cc = 0 := by
      obtain ⟨_, inner, ho, _⟩ := h.row
      rcases ho.2 with ⟨h1, h2⟩ | ⟨_, _, _, h1, _⟩
      · injection h1 with _ _ h3
        exact ⟨List.eq_nil_of_length_eq_zero h2, h3⟩
      · injection h1 with h1
        cases h1
    cases mo with
    | none => exact empty_nn g w h
    | some b => exact empty_ns g w b h
  | some A =>
    cases mo with
    | none => exact empty_sn g w A cc h
    | some b => exact empty_ss g w A cc b h

set_option maxHeartbeats 1000000 in
set_option maxRecDepth 100000 in
theorem take_nil (w : World) : Calls Try.prog 31 #[.pointer none] w fun e w' => e = .returned (.slice none 0 0) ∧ Below w.heap.size w w' := by
  go_enter Try.func31, Try.ntmps31
  go_wp2
  go_ret
  exact ⟨rfl, by repeat (first | exact Below.refl _ _ | apply below_alloc | apply pw_below_drewN | apply below_drew)⟩
set_option maxHeartbeats 1000000 in
set_option maxRecDepth 100000 in
theorem take_walk {g : Nat} {w : World} {ok : Nat → Prop} {L : List S53} (h : Pool w g ok L) :
    Calls Try.prog 31 #[.pointer (some ⟨g, 0, none⟩)] w fun e w' => ∃ v, e = .returned v ∧ Kd.R k53 53 w' w.heap.size (fun _ => True) v L ∧ Pool w' g (fun k => ok k ∧ k < w.heap.size) [] ∧ Stays ok w w' := by
  have HP := Aside0.mk h
  clear h
  go_enter Try.func31, Try.ntmps31
  go_wp2_with (go_at_call 40; refine (empty_walk HP.out).mono ?_; rintro e w1 ⟨v, rfl, h1, h2, h3⟩; have HV := Aside0.mk h1; have HP2 := Aside0.mk h2; have HS := Aside0.mk h3; clear h1 h2 h3)
  go_ret
  exact ⟨_, rfl, HV.out, HP2.out, HS.out⟩
end Go.Proofs.Ytcfejagfognipaa.Po
