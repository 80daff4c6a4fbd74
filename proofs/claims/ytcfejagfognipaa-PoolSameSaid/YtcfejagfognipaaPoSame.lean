/-
  The walk of cleatlaw15.PoolSame: it answers true at any two needs. Condition: the needs are such as a machine can hold.
-/
import Derived.Test.YtcfejagfognipaaPoPooled
import Derived.Test.YtcfejagfognipaaPoEq
import Derived.Test.YtcfejagfognipaaPoWf
import Derived.Deep.RegionHeld3
namespace Go.Proofs.Ytcfejagfognipaa.Po
open Go.RowKit Go.Proofs.YtcfejagfognipaaW.PrintWords Go.Proofs.YtcfejagfognipaaW.PrintLast Go.Proofs.YtcfejagfognipaaW.PrintMore
attribute [local go_sem high] eqS
set_option linter.unusedVariables false
set_option linter.unusedSimpArgs false

theorem bcellB {B : Nat} {W w1 : World} (hb : Below B W w1) : (∀ b o, b < B → w1.cell? ⟨b, o, none⟩ = W.cell? ⟨b, o, none⟩) ∧ (∀ b o, b < B → w1.frozen? ⟨b, o, none⟩ = W.frozen? ⟨b, o, none⟩) :=
  ⟨fun b o h => hb.cell (p := ⟨b, o, none⟩) h, fun b o h => hb.frozen (p := ⟨b, o, none⟩) h⟩

set_option maxHeartbeats 1000000 in
set_option maxRecDepth 100000 in
theorem same_long (m n : S49) (w : World) (h : 100 < m.f1.size ∨ (m.f1.size ≤ 100 ∧ 100 < n.f1.size)) :
    Calls Try.prog 10 #[.agg #[.int .i64 m.f0, .string m.f1, .int .i64 m.f2, .bool m.f3, .int .u64 m.f4], .agg #[.int .i64 n.f0, .string n.f1, .int .i64 n.f2, .bool n.f3, .int .u64 n.f4]] w fun e w' => e = .returned (.bool true) ∧ Below w.heap.size w w' := by
  have hu49 := Try.underlying49
  have hu53 := Try.underlying53
  rcases h with h | ⟨h, h2⟩
  all_goals
    go_enter Try.func10, Try.ntmps10
    go_wp2
    go_ret
    exact ⟨rfl, by repeat (first | exact Below.refl _ _ | apply below_alloc | apply pw_below_drewN | apply below_drew)⟩

set_option maxHeartbeats 4000000 in
set_option maxRecDepth 100000 in
theorem same_one (m n : S49) (w : World) (hs : m.f1.size ≤ 100) (hs2 : n.f1.size ≤ 100) (x : S53) (hm : ofF m = (x, 0)) (hn : ofF n = (x, 0)) (wx : Wf x) (wy : Wf x)
    (R1 : PutR [] m 0 0 [x]) (R2 : PutR [x] n 0 0 [x]) :
    Calls Try.prog 10 #[.agg #[.int .i64 m.f0, .string m.f1, .int .i64 m.f2, .bool m.f3, .int .u64 m.f4], .agg #[.int .i64 n.f0, .string n.f1, .int .i64 n.f2, .bool n.f3, .int .u64 n.f4]] w fun e w' => e = .returned (.bool true) ∧ Below w.heap.size w w' := by
  have hu49 := Try.underlying49
  have hu53 := Try.underlying53
  have HM := Aside0.mk hm
  have HN := Aside0.mk hn
  have HX := Aside0.mk wx
  have HY := Aside0.mk wy
  have hself : eqB x x = true := eqB_self x
  have hself2 : eqB x x = true := eqB_self x
  clear hm hn wx wy
  go_enter Try.func10, Try.ntmps10
  go_wp2_with (first | ((with_reducible refine gate_dst (N := 2) rfl ?_); refine box_event ?hg (N := 2) ?hd (cs := #[.int .i64 m.f0, .string m.f1, .int .i64 m.f2, .bool m.f3, .int .u64 m.f4]) (t := 49) ?hr ?_; (case hd => rfl); (case hg => rfl); (case hr => first | (go_simp; done) | (go_simp; rfl)); intro gm hg wa hbox hb; have BA := Aside0.mk hb; have BM := Aside0.mk hbox; clear hb hbox hg) | ((with_reducible refine gate_dst (N := 3) rfl ?_); refine box_event ?hg (N := 3) ?hd (cs := #[.int .i64 n.f0, .string n.f1, .int .i64 n.f2, .bool n.f3, .int .u64 n.f4]) (t := 49) ?hr ?_; (case hd => rfl); (case hg => rfl); (case hr => first | (go_simp; done) | (go_simp; rfl)); intro gn hg wb hbox hb; have BB := Aside0.mk (below_step BA.out hb); have BM2 := Aside0.mk ((hb.block gm (blk_lt BM.out)).trans BM.out); have BN := Aside0.mk hbox; have hmb_0 : wb.cell? ⟨gm, 0, none⟩ = some (.int .i64 m.f0) := (blk_cell BM2.out 0).trans rfl; have hmb_1 : wb.cell? ⟨gm, 1, none⟩ = some (.string m.f1) := (blk_cell BM2.out 1).trans rfl; have hmb_2 : wb.cell? ⟨gm, 2, none⟩ = some (.int .i64 m.f2) := (blk_cell BM2.out 2).trans rfl; have hmb_3 : wb.cell? ⟨gm, 3, none⟩ = some (.bool m.f3) := (blk_cell BM2.out 3).trans rfl; have hmb_4 : wb.cell? ⟨gm, 4, none⟩ = some (.int .u64 m.f4) := (blk_cell BM2.out 4).trans rfl; have hnb_0 : wb.cell? ⟨gn, 0, none⟩ = some (.int .i64 n.f0) := (blk_cell BN.out 0).trans rfl; have hnb_1 : wb.cell? ⟨gn, 1, none⟩ = some (.string n.f1) := (blk_cell BN.out 1).trans rfl; have hnb_2 : wb.cell? ⟨gn, 2, none⟩ = some (.int .i64 n.f2) := (blk_cell BN.out 2).trans rfl; have hnb_3 : wb.cell? ⟨gn, 3, none⟩ = some (.bool n.f3) := (blk_cell BN.out 3).trans rfl; have hnb_4 : wb.cell? ⟨gn, 4, none⟩ = some (.int .u64 n.f4) := (blk_cell BN.out 4).trans rfl; clear hb hbox hg))
  clear hmb_0 hmb_1 hmb_2 hmb_3 hmb_4 hnb_0 hnb_1 hnb_2 hnb_3 hnb_4
  refine (new_walk _).mono ?_
  rintro e w1 ⟨rfl, h1, hb1⟩
  have P1 := Aside0.mk h1
  have B1 := Aside0.mk hb1
  have M1 := Aside0.mk ((hb1.block gm (blk_lt BM2.out)).trans BM2.out)
  have N1 := Aside0.mk ((hb1.block gn (blk_lt BN.out)).trans BN.out)
  have hz1 := hb1.size
  clear h1 hb1
  have hm1_0 : w1.cell? ⟨gm, 0, none⟩ = some (.int .i64 m.f0) := (blk_cell M1.out 0).trans rfl
  have hm1_1 : w1.cell? ⟨gm, 1, none⟩ = some (.string m.f1) := (blk_cell M1.out 1).trans rfl
  have hm1_2 : w1.cell? ⟨gm, 2, none⟩ = some (.int .i64 m.f2) := (blk_cell M1.out 2).trans rfl
  have hm1_3 : w1.cell? ⟨gm, 3, none⟩ = some (.bool m.f3) := (blk_cell M1.out 3).trans rfl
  have hm1_4 : w1.cell? ⟨gm, 4, none⟩ = some (.int .u64 m.f4) := (blk_cell M1.out 4).trans rfl
  have hn1_0 : w1.cell? ⟨gn, 0, none⟩ = some (.int .i64 n.f0) := (blk_cell N1.out 0).trans rfl
  have hn1_1 : w1.cell? ⟨gn, 1, none⟩ = some (.string n.f1) := (blk_cell N1.out 1).trans rfl
  have hn1_2 : w1.cell? ⟨gn, 2, none⟩ = some (.int .i64 n.f2) := (blk_cell N1.out 2).trans rfl
  have hn1_3 : w1.cell? ⟨gn, 3, none⟩ = some (.bool n.f3) := (blk_cell N1.out 3).trans rfl
  have hn1_4 : w1.cell? ⟨gn, 4, none⟩ = some (.int .u64 n.f4) := (blk_cell N1.out 4).trans rfl
  go_wp2_with fail
  refine (put_from m (fun _ => by rw [HM.out]; exact HX.out) P1.out hz1 R1).mono ?_
  rintro e w2 ⟨rfl, h1, hb1, hz2⟩
  have P2 := Aside0.mk h1
  have B2 := Aside0.mk (B1.out.trans hb1)
  have M2 := Aside0.mk ((hb1.block gm (blk_lt BM2.out)).trans M1.out)
  have N2 := Aside0.mk ((hb1.block gn (blk_lt BN.out)).trans N1.out)
  clear h1 hb1
  clear hm1_0 hm1_1 hm1_2 hm1_3 hm1_4 hn1_0 hn1_1 hn1_2 hn1_3 hn1_4
  have hm2_0 : w2.cell? ⟨gm, 0, none⟩ = some (.int .i64 m.f0) := (blk_cell M2.out 0).trans rfl
  have hm2_1 : w2.cell? ⟨gm, 1, none⟩ = some (.string m.f1) := (blk_cell M2.out 1).trans rfl
  have hm2_2 : w2.cell? ⟨gm, 2, none⟩ = some (.int .i64 m.f2) := (blk_cell M2.out 2).trans rfl
  have hm2_3 : w2.cell? ⟨gm, 3, none⟩ = some (.bool m.f3) := (blk_cell M2.out 3).trans rfl
  have hm2_4 : w2.cell? ⟨gm, 4, none⟩ = some (.int .u64 m.f4) := (blk_cell M2.out 4).trans rfl
  have hn2_0 : w2.cell? ⟨gn, 0, none⟩ = some (.int .i64 n.f0) := (blk_cell N2.out 0).trans rfl
  have hn2_1 : w2.cell? ⟨gn, 1, none⟩ = some (.string n.f1) := (blk_cell N2.out 1).trans rfl
  have hn2_2 : w2.cell? ⟨gn, 2, none⟩ = some (.int .i64 n.f2) := (blk_cell N2.out 2).trans rfl
  have hn2_3 : w2.cell? ⟨gn, 3, none⟩ = some (.bool n.f3) := (blk_cell N2.out 3).trans rfl
  have hn2_4 : w2.cell? ⟨gn, 4, none⟩ = some (.int .u64 n.f4) := (blk_cell N2.out 4).trans rfl
  go_wp2_with fail
  refine (put_from n (fun _ => by rw [HN.out]; exact HY.out) P2.out hz2 R2).mono ?_
  rintro e w3 ⟨rfl, h1, hb1, hz3⟩
  have P3 := Aside0.mk h1.bound
  have B3 := Aside0.mk (B2.out.trans hb1)
  have M3 := Aside0.mk ((hb1.block gm (blk_lt BM2.out)).trans M2.out)
  have N3 := Aside0.mk ((hb1.block gn (blk_lt BN.out)).trans N2.out)
  clear h1 hb1
  clear hm2_0 hm2_1 hm2_2 hm2_3 hm2_4 hn2_0 hn2_1 hn2_2 hn2_3 hn2_4
  have hm3_0 : w3.cell? ⟨gm, 0, none⟩ = some (.int .i64 m.f0) := (blk_cell M3.out 0).trans rfl
  have hm3_1 : w3.cell? ⟨gm, 1, none⟩ = some (.string m.f1) := (blk_cell M3.out 1).trans rfl
  have hm3_2 : w3.cell? ⟨gm, 2, none⟩ = some (.int .i64 m.f2) := (blk_cell M3.out 2).trans rfl
  have hm3_3 : w3.cell? ⟨gm, 3, none⟩ = some (.bool m.f3) := (blk_cell M3.out 3).trans rfl
  have hm3_4 : w3.cell? ⟨gm, 4, none⟩ = some (.int .u64 m.f4) := (blk_cell M3.out 4).trans rfl
  have hn3_0 : w3.cell? ⟨gn, 0, none⟩ = some (.int .i64 n.f0) := (blk_cell N3.out 0).trans rfl
  have hn3_1 : w3.cell? ⟨gn, 1, none⟩ = some (.string n.f1) := (blk_cell N3.out 1).trans rfl
  have hn3_2 : w3.cell? ⟨gn, 2, none⟩ = some (.int .i64 n.f2) := (blk_cell N3.out 2).trans rfl
  have hn3_3 : w3.cell? ⟨gn, 3, none⟩ = some (.bool n.f3) := (blk_cell N3.out 3).trans rfl
  have hn3_4 : w3.cell? ⟨gn, 4, none⟩ = some (.int .u64 n.f4) := (blk_cell N3.out 4).trans rfl
  go_wp2_with fail
  refine (of_is m x 0 HM.out _).mono ?_
  rintro e w4 ⟨rfl, hb1⟩
  have P4 := Aside0.mk (P3.out.below hb1)
  have B4 := Aside0.mk (B3.out.trans (hb1.mono hz3))
  have hz4 := hb1.size
  have M4 := Aside0.mk ((hb1.block gm (Nat.lt_of_lt_of_le (blk_lt BM2.out) hz3)).trans M3.out)
  have N4 := Aside0.mk ((hb1.block gn (Nat.lt_of_lt_of_le (blk_lt BN.out) hz3)).trans N3.out)
  clear hb1
  clear hm3_0 hm3_1 hm3_2 hm3_3 hm3_4 hn3_0 hn3_1 hn3_2 hn3_3 hn3_4
  have hm4_0 : w4.cell? ⟨gm, 0, none⟩ = some (.int .i64 m.f0) := (blk_cell M4.out 0).trans rfl
  have hm4_1 : w4.cell? ⟨gm, 1, none⟩ = some (.string m.f1) := (blk_cell M4.out 1).trans rfl
  have hm4_2 : w4.cell? ⟨gm, 2, none⟩ = some (.int .i64 m.f2) := (blk_cell M4.out 2).trans rfl
  have hm4_3 : w4.cell? ⟨gm, 3, none⟩ = some (.bool m.f3) := (blk_cell M4.out 3).trans rfl
  have hm4_4 : w4.cell? ⟨gm, 4, none⟩ = some (.int .u64 m.f4) := (blk_cell M4.out 4).trans rfl
  have hn4_0 : w4.cell? ⟨gn, 0, none⟩ = some (.int .i64 n.f0) := (blk_cell N4.out 0).trans rfl
  have hn4_1 : w4.cell? ⟨gn, 1, none⟩ = some (.string n.f1) := (blk_cell N4.out 1).trans rfl
  have hn4_2 : w4.cell? ⟨gn, 2, none⟩ = some (.int .i64 n.f2) := (blk_cell N4.out 2).trans rfl
  have hn4_3 : w4.cell? ⟨gn, 3, none⟩ = some (.bool n.f3) := (blk_cell N4.out 3).trans rfl
  have hn4_4 : w4.cell? ⟨gn, 4, none⟩ = some (.int .u64 n.f4) := (blk_cell N4.out 4).trans rfl
  have ne1 : gm ≠ w4.heap.size := Nat.ne_of_lt (blk_lt M4.out)
  have ne2 : gn ≠ w4.heap.size := Nat.ne_of_lt (blk_lt N4.out)
  have lt1 := blk_lt M4.out
  have lt2 := blk_lt N4.out
  go_wp2_with fail
  refine (of_is n x 0 HN.out _).mono ?_
  rintro e w5 ⟨rfl, hb1⟩
  have hz5 : w4.heap.size < w5.heap.size := by have := hb1.size; simp at this; omega
  have hzb : wb.heap.size ≤ w4.heap.size := Nat.le_trans hz3 hz4
  have X5 := Aside0.mk ((hb1.block w4.heap.size (by simp)).trans (heap_alloc_new w4 (.cells #[.string x.f0, .int .i64 x.f1, .int .u64 x.f2] 53 (0, 0))))
  have P5 := Aside0.mk ((P4.out.below (below_alloc (Below.refl _ _) _)).below hb1)
  have B5 := Aside0.mk (B4.out.trans (((Below.refl _ _).alloc hzb (.cells #[.string x.f0, .int .i64 x.f1, .int .u64 x.f2] 53 (0, 0))).trans (hb1.mono (by simp; omega))))
  clear hb1 hm4_0 hm4_1 hm4_2 hm4_3 hm4_4 hn4_0 hn4_1 hn4_2 hn4_3 hn4_4
  go_wp2_with fail
  refine (take_walk (L := [x]) (P5.out.below (by repeat (first | exact Below.refl _ _ | apply below_alloc | apply pw_below_drewN | apply below_drew)))).mono ?_
  rintro e w7 ⟨v, rfl, hv, hp, hst⟩
  obtain ⟨A, c, rfl⟩ := Kd.R_slice hv
  have X7 := Aside0.mk ((hst.block w4.heap.size (by simp; omega) (fun h => by have := h.2; omega)).trans (blk_alloc X5.out (.cells #[.string x.f0, .int .i64 x.f1, .int .u64 x.f2] 53 (0, 0))))
  have Y7 := Aside0.mk ((hst.block w5.heap.size (by simp) (fun h => by have := h.2; omega)).trans (heap_alloc_new w5 (.cells #[.string x.f0, .int .i64 x.f1, .int .u64 x.f2] 53 (0, 0))))
  have B7 := Aside0.mk (B5.out.trans (((Below.refl _ _).alloc (by omega) (.cells #[.string x.f0, .int .i64 x.f1, .int .u64 x.f2] 53 (0, 0))).trans (hst.below (by simp; omega) (fun k h => h.1))))
  have HV := Aside0.mk hv
  clear hv hp hst
  obtain ⟨gl, rfl, _, _, _, hgl⟩ := lit_head HV.out (by simp)
  have lx7 := blk_lt X7.out
  have ly7 := blk_lt Y7.out
  have k0 : w7.cell? ⟨w4.heap.size, 0, none⟩ = some (.string x.f0) := (blk_cell X7.out 0).trans rfl
  have k1 : w7.cell? ⟨w4.heap.size, 1, none⟩ = some (.int .i64 x.f1) := (blk_cell X7.out 1).trans rfl
  have k2 : w7.cell? ⟨w4.heap.size, 2, none⟩ = some (.int .u64 x.f2) := (blk_cell X7.out 2).trans rfl
  have k3 : w7.cell? ⟨w5.heap.size, 0, none⟩ = some (.string x.f0) := (blk_cell Y7.out 0).trans rfl
  have k4 : w7.cell? ⟨w5.heap.size, 1, none⟩ = some (.int .i64 x.f1) := (blk_cell Y7.out 1).trans rfl
  have k5 : w7.cell? ⟨w5.heap.size, 2, none⟩ = some (.int .u64 x.f2) := (blk_cell Y7.out 2).trans rfl
  have k6 : w7.cell? ⟨gl, 0, none⟩ = some (.string x.f0) := (lit_cells HV.out (i := 0) (x := x) rfl).1
  have k7 : w7.cell? ⟨gl, 1, none⟩ = some (.int .i64 x.f1) := (lit_cells HV.out (i := 0) (x := x) rfl).2.1
  have k8 : w7.cell? ⟨gl, 2, none⟩ = some (.int .u64 x.f2) := (lit_cells HV.out (i := 0) (x := x) rfl).2.2
  have k9 : Below wb.heap.size wb w7 := B7.out
  have kz := k9.size
  go_wp2_with fail
  go_region_held3 (fun w' => w'.cell? ⟨w4.heap.size, 0, none⟩ = some (.string x.f0) ∧ w'.cell? ⟨w4.heap.size, 1, none⟩ = some (.int .i64 x.f1) ∧ w'.cell? ⟨w4.heap.size, 2, none⟩ = some (.int .u64 x.f2) ∧ w'.cell? ⟨w5.heap.size, 0, none⟩ = some (.string x.f0) ∧ w'.cell? ⟨w5.heap.size, 1, none⟩ = some (.int .i64 x.f1) ∧ w'.cell? ⟨w5.heap.size, 2, none⟩ = some (.int .u64 x.f2) ∧ w'.cell? ⟨gl, 0, none⟩ = some (.string x.f0) ∧ w'.cell? ⟨gl, 1, none⟩ = some (.int .i64 x.f1) ∧ w'.cell? ⟨gl, 2, none⟩ = some (.int .u64 x.f2) ∧ Below wb.heap.size wb w')
    (first
      | (go_keep; done)
      | (refine ⟨(hb8.cell (by assumption)).trans (by assumption), (hb8.cell (by assumption)).trans (by assumption), (hb8.cell (by assumption)).trans (by assumption), (hb8.cell (by assumption)).trans (by assumption), (hb8.cell (by assumption)).trans (by assumption), (hb8.cell (by assumption)).trans (by assumption), (hb8.cell (by assumption)).trans (by assumption), (hb8.cell (by assumption)).trans (by assumption), (hb8.cell (by assumption)).trans (by assumption), k9.drew.trans (hb8.mono kz)⟩)
      | (refine ⟨k0, k1, k2, k3, k4, k5, k6, k7, k8, k9.drew⟩))
    ((go_at_call 26; refine (pooled_walk _).mono ?_; rintro e w8 ⟨rfl, hb8⟩))
  all_goals
    go_wp2
    go_ret
    exact ⟨rfl, below_step BB.out (k9.drew.trans (hb8.mono kz))⟩
set_option maxHeartbeats 4000000 in
set_option maxRecDepth 100000 in
theorem same_two (m n : S49) (w : World) (hs : m.f1.size ≤ 100) (hs2 : n.f1.size ≤ 100) (x y : S53) (hm : ofF m = (x, 0)) (hn : ofF n = (y, 0)) (wx : Wf x) (wy : Wf y) (hne : eqB x y = false)
    (R1 : PutR [] m 0 0 [x]) (R2 : PutR [x] n 1 0 [x, y]) :
    Calls Try.prog 10 #[.agg #[.int .i64 m.f0, .string m.f1, .int .i64 m.f2, .bool m.f3, .int .u64 m.f4], .agg #[.int .i64 n.f0, .string n.f1, .int .i64 n.f2, .bool n.f3, .int .u64 n.f4]] w fun e w' => e = .returned (.bool true) ∧ Below w.heap.size w w' := by
  have hu49 := Try.underlying49
  have hu53 := Try.underlying53
  have HM := Aside0.mk hm
  have HN := Aside0.mk hn
  have HX := Aside0.mk wx
  have HY := Aside0.mk wy
  have hself : eqB x x = true := eqB_self x
  have hself2 : eqB y y = true := eqB_self y
  clear hm hn wx wy
  go_enter Try.func10, Try.ntmps10
  go_wp2_with (first | ((with_reducible refine gate_dst (N := 2) rfl ?_); refine box_event ?hg (N := 2) ?hd (cs := #[.int .i64 m.f0, .string m.f1, .int .i64 m.f2, .bool m.f3, .int .u64 m.f4]) (t := 49) ?hr ?_; (case hd => rfl); (case hg => rfl); (case hr => first | (go_simp; done) | (go_simp; rfl)); intro gm hg wa hbox hb; have BA := Aside0.mk hb; have BM := Aside0.mk hbox; clear hb hbox hg) | ((with_reducible refine gate_dst (N := 3) rfl ?_); refine box_event ?hg (N := 3) ?hd (cs := #[.int .i64 n.f0, .string n.f1, .int .i64 n.f2, .bool n.f3, .int .u64 n.f4]) (t := 49) ?hr ?_; (case hd => rfl); (case hg => rfl); (case hr => first | (go_simp; done) | (go_simp; rfl)); intro gn hg wb hbox hb; have BB := Aside0.mk (below_step BA.out hb); have BM2 := Aside0.mk ((hb.block gm (blk_lt BM.out)).trans BM.out); have BN := Aside0.mk hbox; have hmb_0 : wb.cell? ⟨gm, 0, none⟩ = some (.int .i64 m.f0) := (blk_cell BM2.out 0).trans rfl; have hmb_1 : wb.cell? ⟨gm, 1, none⟩ = some (.string m.f1) := (blk_cell BM2.out 1).trans rfl; have hmb_2 : wb.cell? ⟨gm, 2, none⟩ = some (.int .i64 m.f2) := (blk_cell BM2.out 2).trans rfl; have hmb_3 : wb.cell? ⟨gm, 3, none⟩ = some (.bool m.f3) := (blk_cell BM2.out 3).trans rfl; have hmb_4 : wb.cell? ⟨gm, 4, none⟩ = some (.int .u64 m.f4) := (blk_cell BM2.out 4).trans rfl; have hnb_0 : wb.cell? ⟨gn, 0, none⟩ = some (.int .i64 n.f0) := (blk_cell BN.out 0).trans rfl; have hnb_1 : wb.cell? ⟨gn, 1, none⟩ = some (.string n.f1) := (blk_cell BN.out 1).trans rfl; have hnb_2 : wb.cell? ⟨gn, 2, none⟩ = some (.int .i64 n.f2) := (blk_cell BN.out 2).trans rfl; have hnb_3 : wb.cell? ⟨gn, 3, none⟩ = some (.bool n.f3) := (blk_cell BN.out 3).trans rfl; have hnb_4 : wb.cell? ⟨gn, 4, none⟩ = some (.int .u64 n.f4) := (blk_cell BN.out 4).trans rfl; clear hb hbox hg))
  clear hmb_0 hmb_1 hmb_2 hmb_3 hmb_4 hnb_0 hnb_1 hnb_2 hnb_3 hnb_4
  refine (new_walk _).mono ?_
  rintro e w1 ⟨rfl, h1, hb1⟩
  have P1 := Aside0.mk h1
  have B1 := Aside0.mk hb1
  have M1 := Aside0.mk ((hb1.block gm (blk_lt BM2.out)).trans BM2.out)
  have N1 := Aside0.mk ((hb1.block gn (blk_lt BN.out)).trans BN.out)
  have hz1 := hb1.size
  clear h1 hb1
  have hm1_0 : w1.cell? ⟨gm, 0, none⟩ = some (.int .i64 m.f0) := (blk_cell M1.out 0).trans rfl
  have hm1_1 : w1.cell? ⟨gm, 1, none⟩ = some (.string m.f1) := (blk_cell M1.out 1).trans rfl
  have hm1_2 : w1.cell? ⟨gm, 2, none⟩ = some (.int .i64 m.f2) := (blk_cell M1.out 2).trans rfl
  have hm1_3 : w1.cell? ⟨gm, 3, none⟩ = some (.bool m.f3) := (blk_cell M1.out 3).trans rfl
  have hm1_4 : w1.cell? ⟨gm, 4, none⟩ = some (.int .u64 m.f4) := (blk_cell M1.out 4).trans rfl
  have hn1_0 : w1.cell? ⟨gn, 0, none⟩ = some (.int .i64 n.f0) := (blk_cell N1.out 0).trans rfl
  have hn1_1 : w1.cell? ⟨gn, 1, none⟩ = some (.string n.f1) := (blk_cell N1.out 1).trans rfl
  have hn1_2 : w1.cell? ⟨gn, 2, none⟩ = some (.int .i64 n.f2) := (blk_cell N1.out 2).trans rfl
  have hn1_3 : w1.cell? ⟨gn, 3, none⟩ = some (.bool n.f3) := (blk_cell N1.out 3).trans rfl
  have hn1_4 : w1.cell? ⟨gn, 4, none⟩ = some (.int .u64 n.f4) := (blk_cell N1.out 4).trans rfl
  go_wp2_with fail
  refine (put_from m (fun _ => by rw [HM.out]; exact HX.out) P1.out hz1 R1).mono ?_
  rintro e w2 ⟨rfl, h1, hb1, hz2⟩
  have P2 := Aside0.mk h1
  have B2 := Aside0.mk (B1.out.trans hb1)
  have M2 := Aside0.mk ((hb1.block gm (blk_lt BM2.out)).trans M1.out)
  have N2 := Aside0.mk ((hb1.block gn (blk_lt BN.out)).trans N1.out)
  clear h1 hb1
  clear hm1_0 hm1_1 hm1_2 hm1_3 hm1_4 hn1_0 hn1_1 hn1_2 hn1_3 hn1_4
  have hm2_0 : w2.cell? ⟨gm, 0, none⟩ = some (.int .i64 m.f0) := (blk_cell M2.out 0).trans rfl
  have hm2_1 : w2.cell? ⟨gm, 1, none⟩ = some (.string m.f1) := (blk_cell M2.out 1).trans rfl
  have hm2_2 : w2.cell? ⟨gm, 2, none⟩ = some (.int .i64 m.f2) := (blk_cell M2.out 2).trans rfl
  have hm2_3 : w2.cell? ⟨gm, 3, none⟩ = some (.bool m.f3) := (blk_cell M2.out 3).trans rfl
  have hm2_4 : w2.cell? ⟨gm, 4, none⟩ = some (.int .u64 m.f4) := (blk_cell M2.out 4).trans rfl
  have hn2_0 : w2.cell? ⟨gn, 0, none⟩ = some (.int .i64 n.f0) := (blk_cell N2.out 0).trans rfl
  have hn2_1 : w2.cell? ⟨gn, 1, none⟩ = some (.string n.f1) := (blk_cell N2.out 1).trans rfl
  have hn2_2 : w2.cell? ⟨gn, 2, none⟩ = some (.int .i64 n.f2) := (blk_cell N2.out 2).trans rfl
  have hn2_3 : w2.cell? ⟨gn, 3, none⟩ = some (.bool n.f3) := (blk_cell N2.out 3).trans rfl
  have hn2_4 : w2.cell? ⟨gn, 4, none⟩ = some (.int .u64 n.f4) := (blk_cell N2.out 4).trans rfl
  go_wp2_with fail
  refine (put_from n (fun _ => by rw [HN.out]; exact HY.out) P2.out hz2 R2).mono ?_
  rintro e w3 ⟨rfl, h1, hb1, hz3⟩
  have P3 := Aside0.mk h1.bound
  have B3 := Aside0.mk (B2.out.trans hb1)
  have M3 := Aside0.mk ((hb1.block gm (blk_lt BM2.out)).trans M2.out)
  have N3 := Aside0.mk ((hb1.block gn (blk_lt BN.out)).trans N2.out)
  clear h1 hb1
  clear hm2_0 hm2_1 hm2_2 hm2_3 hm2_4 hn2_0 hn2_1 hn2_2 hn2_3 hn2_4
  have hm3_0 : w3.cell? ⟨gm, 0, none⟩ = some (.int .i64 m.f0) := (blk_cell M3.out 0).trans rfl
  have hm3_1 : w3.cell? ⟨gm, 1, none⟩ = some (.string m.f1) := (blk_cell M3.out 1).trans rfl
  have hm3_2 : w3.cell? ⟨gm, 2, none⟩ = some (.int .i64 m.f2) := (blk_cell M3.out 2).trans rfl
  have hm3_3 : w3.cell? ⟨gm, 3, none⟩ = some (.bool m.f3) := (blk_cell M3.out 3).trans rfl
  have hm3_4 : w3.cell? ⟨gm, 4, none⟩ = some (.int .u64 m.f4) := (blk_cell M3.out 4).trans rfl
  have hn3_0 : w3.cell? ⟨gn, 0, none⟩ = some (.int .i64 n.f0) := (blk_cell N3.out 0).trans rfl
  have hn3_1 : w3.cell? ⟨gn, 1, none⟩ = some (.string n.f1) := (blk_cell N3.out 1).trans rfl
  have hn3_2 : w3.cell? ⟨gn, 2, none⟩ = some (.int .i64 n.f2) := (blk_cell N3.out 2).trans rfl
  have hn3_3 : w3.cell? ⟨gn, 3, none⟩ = some (.bool n.f3) := (blk_cell N3.out 3).trans rfl
  have hn3_4 : w3.cell? ⟨gn, 4, none⟩ = some (.int .u64 n.f4) := (blk_cell N3.out 4).trans rfl
  go_wp2_with fail
  refine (of_is m x 0 HM.out _).mono ?_
  rintro e w4 ⟨rfl, hb1⟩
  have P4 := Aside0.mk (P3.out.below hb1)
  have B4 := Aside0.mk (B3.out.trans (hb1.mono hz3))
  have hz4 := hb1.size
  have M4 := Aside0.mk ((hb1.block gm (Nat.lt_of_lt_of_le (blk_lt BM2.out) hz3)).trans M3.out)
  have N4 := Aside0.mk ((hb1.block gn (Nat.lt_of_lt_of_le (blk_lt BN.out) hz3)).trans N3.out)
  clear hb1
  clear hm3_0 hm3_1 hm3_2 hm3_3 hm3_4 hn3_0 hn3_1 hn3_2 hn3_3 hn3_4
  have hm4_0 : w4.cell? ⟨gm, 0, none⟩ = some (.int .i64 m.f0) := (blk_cell M4.out 0).trans rfl
  have hm4_1 : w4.cell? ⟨gm, 1, none⟩ = some (.string m.f1) := (blk_cell M4.out 1).trans rfl
  have hm4_2 : w4.cell? ⟨gm, 2, none⟩ = some (.int .i64 m.f2) := (blk_cell M4.out 2).trans rfl
  have hm4_3 : w4.cell? ⟨gm, 3, none⟩ = some (.bool m.f3) := (blk_cell M4.out 3).trans rfl
  have hm4_4 : w4.cell? ⟨gm, 4, none⟩ = some (.int .u64 m.f4) := (blk_cell M4.out 4).trans rfl
  have hn4_0 : w4.cell? ⟨gn, 0, none⟩ = some (.int .i64 n.f0) := (blk_cell N4.out 0).trans rfl
  have hn4_1 : w4.cell? ⟨gn, 1, none⟩ = some (.string n.f1) := (blk_cell N4.out 1).trans rfl
  have hn4_2 : w4.cell? ⟨gn, 2, none⟩ = some (.int .i64 n.f2) := (blk_cell N4.out 2).trans rfl
  have hn4_3 : w4.cell? ⟨gn, 3, none⟩ = some (.bool n.f3) := (blk_cell N4.out 3).trans rfl
  have hn4_4 : w4.cell? ⟨gn, 4, none⟩ = some (.int .u64 n.f4) := (blk_cell N4.out 4).trans rfl
  have ne1 : gm ≠ w4.heap.size := Nat.ne_of_lt (blk_lt M4.out)
  have ne2 : gn ≠ w4.heap.size := Nat.ne_of_lt (blk_lt N4.out)
  have lt1 := blk_lt M4.out
  have lt2 := blk_lt N4.out
  go_wp2_with fail
  refine (of_is n y 0 HN.out _).mono ?_
  rintro e w5 ⟨rfl, hb1⟩
  have hz5 : w4.heap.size < w5.heap.size := by have := hb1.size; simp at this; omega
  have hzb : wb.heap.size ≤ w4.heap.size := Nat.le_trans hz3 hz4
  have X5 := Aside0.mk ((hb1.block w4.heap.size (by simp)).trans (heap_alloc_new w4 (.cells #[.string x.f0, .int .i64 x.f1, .int .u64 x.f2] 53 (0, 0))))
  have P5 := Aside0.mk ((P4.out.below (below_alloc (Below.refl _ _) _)).below hb1)
  have B5 := Aside0.mk (B4.out.trans (((Below.refl _ _).alloc hzb (.cells #[.string x.f0, .int .i64 x.f1, .int .u64 x.f2] 53 (0, 0))).trans (hb1.mono (by simp; omega))))
  clear hb1 hm4_0 hm4_1 hm4_2 hm4_3 hm4_4 hn4_0 hn4_1 hn4_2 hn4_3 hn4_4
  go_wp2_with fail
  refine (take_walk (L := [x, y]) (P5.out.below (by repeat (first | exact Below.refl _ _ | apply below_alloc | apply pw_below_drewN | apply below_drew)))).mono ?_
  rintro e w7 ⟨v, rfl, hv, hp, hst⟩
  obtain ⟨A, c, rfl⟩ := Kd.R_slice hv
  have X7 := Aside0.mk ((hst.block w4.heap.size (by simp; omega) (fun h => by have := h.2; omega)).trans (blk_alloc X5.out (.cells #[.string y.f0, .int .i64 y.f1, .int .u64 y.f2] 53 (0, 0))))
  have Y7 := Aside0.mk ((hst.block w5.heap.size (by simp) (fun h => by have := h.2; omega)).trans (heap_alloc_new w5 (.cells #[.string y.f0, .int .i64 y.f1, .int .u64 y.f2] 53 (0, 0))))
  have B7 := Aside0.mk (B5.out.trans (((Below.refl _ _).alloc (by omega) (.cells #[.string y.f0, .int .i64 y.f1, .int .u64 y.f2] 53 (0, 0))).trans (hst.below (by simp; omega) (fun k h => h.1))))
  have HV := Aside0.mk hv
  clear hv hp hst
  obtain ⟨gl, rfl, _, _, _, hgl⟩ := lit_head HV.out (by simp)
  have lx7 := blk_lt X7.out
  have ly7 := blk_lt Y7.out
  have k0 : w7.cell? ⟨w4.heap.size, 0, none⟩ = some (.string x.f0) := (blk_cell X7.out 0).trans rfl
  have k1 : w7.cell? ⟨w4.heap.size, 1, none⟩ = some (.int .i64 x.f1) := (blk_cell X7.out 1).trans rfl
  have k2 : w7.cell? ⟨w4.heap.size, 2, none⟩ = some (.int .u64 x.f2) := (blk_cell X7.out 2).trans rfl
  have k3 : w7.cell? ⟨w5.heap.size, 0, none⟩ = some (.string y.f0) := (blk_cell Y7.out 0).trans rfl
  have k4 : w7.cell? ⟨w5.heap.size, 1, none⟩ = some (.int .i64 y.f1) := (blk_cell Y7.out 1).trans rfl
  have k5 : w7.cell? ⟨w5.heap.size, 2, none⟩ = some (.int .u64 y.f2) := (blk_cell Y7.out 2).trans rfl
  have k6 : w7.cell? ⟨gl, 0, none⟩ = some (.string x.f0) := (lit_cells HV.out (i := 0) (x := x) rfl).1
  have k7 : w7.cell? ⟨gl, 1, none⟩ = some (.int .i64 x.f1) := (lit_cells HV.out (i := 0) (x := x) rfl).2.1
  have k8 : w7.cell? ⟨gl, 2, none⟩ = some (.int .u64 x.f2) := (lit_cells HV.out (i := 0) (x := x) rfl).2.2
  have k9 : w7.cell? ⟨gl, 3, none⟩ = some (.string y.f0) := (lit_cells HV.out (i := 1) (x := y) rfl).1
  have k10 : w7.cell? ⟨gl, 4, none⟩ = some (.int .i64 y.f1) := (lit_cells HV.out (i := 1) (x := y) rfl).2.1
  have k11 : w7.cell? ⟨gl, 5, none⟩ = some (.int .u64 y.f2) := (lit_cells HV.out (i := 1) (x := y) rfl).2.2
  have k12 : Below wb.heap.size wb w7 := B7.out
  have kz := k12.size
  go_wp2_with fail
  go_region_held3 (fun w' => w'.cell? ⟨w4.heap.size, 0, none⟩ = some (.string x.f0) ∧ w'.cell? ⟨w4.heap.size, 1, none⟩ = some (.int .i64 x.f1) ∧ w'.cell? ⟨w4.heap.size, 2, none⟩ = some (.int .u64 x.f2) ∧ w'.cell? ⟨w5.heap.size, 0, none⟩ = some (.string y.f0) ∧ w'.cell? ⟨w5.heap.size, 1, none⟩ = some (.int .i64 y.f1) ∧ w'.cell? ⟨w5.heap.size, 2, none⟩ = some (.int .u64 y.f2) ∧ w'.cell? ⟨gl, 0, none⟩ = some (.string x.f0) ∧ w'.cell? ⟨gl, 1, none⟩ = some (.int .i64 x.f1) ∧ w'.cell? ⟨gl, 2, none⟩ = some (.int .u64 x.f2) ∧ w'.cell? ⟨gl, 3, none⟩ = some (.string y.f0) ∧ w'.cell? ⟨gl, 4, none⟩ = some (.int .i64 y.f1) ∧ w'.cell? ⟨gl, 5, none⟩ = some (.int .u64 y.f2) ∧ Below wb.heap.size wb w')
    (first
      | (go_keep; done)
      | (refine ⟨(hb8.cell (by assumption)).trans (by assumption), (hb8.cell (by assumption)).trans (by assumption), (hb8.cell (by assumption)).trans (by assumption), (hb8.cell (by assumption)).trans (by assumption), (hb8.cell (by assumption)).trans (by assumption), (hb8.cell (by assumption)).trans (by assumption), (hb8.cell (by assumption)).trans (by assumption), (hb8.cell (by assumption)).trans (by assumption), (hb8.cell (by assumption)).trans (by assumption), (hb8.cell (by assumption)).trans (by assumption), (hb8.cell (by assumption)).trans (by assumption), (hb8.cell (by assumption)).trans (by assumption), k12.drew.trans (hb8.mono kz)⟩)
      | (refine ⟨k0, k1, k2, k3, k4, k5, k6, k7, k8, k9, k10, k11, k12.drew⟩))
    ((go_at_call 26; refine (pooled_walk _).mono ?_; rintro e w8 ⟨rfl, hb8⟩))
  all_goals
    go_wp2
    go_ret
    exact ⟨rfl, below_step BB.out (k12.drew.trans (hb8.mono kz))⟩
set_option maxHeartbeats 4000000 in
set_option maxRecDepth 100000 in
theorem same_err_err (m n : S49) (w : World) (hs : m.f1.size ≤ 100) (hs2 : n.f1.size ≤ 100) (x y : S53) (i j : Int) (hm : ofF m = (x, i)) (hn : ofF n = (y, j)) (wx : i = 0 → Wf x) (wy : j = 0 → Wf y) (hij : (i != 0) = true) (hij2 : (i == 0) = false) (hj : (j != 0) = true) (hj2 : (j == 0) = false)
    (L L2 : List S53) (R1 : PutR [] m 0 i L) (R2 : PutR L n 0 j L2) :
    Calls Try.prog 10 #[.agg #[.int .i64 m.f0, .string m.f1, .int .i64 m.f2, .bool m.f3, .int .u64 m.f4], .agg #[.int .i64 n.f0, .string n.f1, .int .i64 n.f2, .bool n.f3, .int .u64 n.f4]] w fun e w' => e = .returned (.bool true) ∧ Below w.heap.size w w' := by
  have hu49 := Try.underlying49
  have hu53 := Try.underlying53
  have HM := Aside0.mk hm
  have HN := Aside0.mk hn
  have HX := Aside0.mk wx
  have HY := Aside0.mk wy
  clear hm hn wx wy
  go_enter Try.func10, Try.ntmps10
  go_wp2_with (first | ((with_reducible refine gate_dst (N := 2) rfl ?_); refine box_event ?hg (N := 2) ?hd (cs := #[.int .i64 m.f0, .string m.f1, .int .i64 m.f2, .bool m.f3, .int .u64 m.f4]) (t := 49) ?hr ?_; (case hd => rfl); (case hg => rfl); (case hr => first | (go_simp; done) | (go_simp; rfl)); intro gm hg wa hbox hb; have BA := Aside0.mk hb; have BM := Aside0.mk hbox; clear hb hbox hg) | ((with_reducible refine gate_dst (N := 3) rfl ?_); refine box_event ?hg (N := 3) ?hd (cs := #[.int .i64 n.f0, .string n.f1, .int .i64 n.f2, .bool n.f3, .int .u64 n.f4]) (t := 49) ?hr ?_; (case hd => rfl); (case hg => rfl); (case hr => first | (go_simp; done) | (go_simp; rfl)); intro gn hg wb hbox hb; have BB := Aside0.mk (below_step BA.out hb); have BM2 := Aside0.mk ((hb.block gm (blk_lt BM.out)).trans BM.out); have BN := Aside0.mk hbox; have hmb_0 : wb.cell? ⟨gm, 0, none⟩ = some (.int .i64 m.f0) := (blk_cell BM2.out 0).trans rfl; have hmb_1 : wb.cell? ⟨gm, 1, none⟩ = some (.string m.f1) := (blk_cell BM2.out 1).trans rfl; have hmb_2 : wb.cell? ⟨gm, 2, none⟩ = some (.int .i64 m.f2) := (blk_cell BM2.out 2).trans rfl; have hmb_3 : wb.cell? ⟨gm, 3, none⟩ = some (.bool m.f3) := (blk_cell BM2.out 3).trans rfl; have hmb_4 : wb.cell? ⟨gm, 4, none⟩ = some (.int .u64 m.f4) := (blk_cell BM2.out 4).trans rfl; have hnb_0 : wb.cell? ⟨gn, 0, none⟩ = some (.int .i64 n.f0) := (blk_cell BN.out 0).trans rfl; have hnb_1 : wb.cell? ⟨gn, 1, none⟩ = some (.string n.f1) := (blk_cell BN.out 1).trans rfl; have hnb_2 : wb.cell? ⟨gn, 2, none⟩ = some (.int .i64 n.f2) := (blk_cell BN.out 2).trans rfl; have hnb_3 : wb.cell? ⟨gn, 3, none⟩ = some (.bool n.f3) := (blk_cell BN.out 3).trans rfl; have hnb_4 : wb.cell? ⟨gn, 4, none⟩ = some (.int .u64 n.f4) := (blk_cell BN.out 4).trans rfl; clear hb hbox hg))
  clear hmb_0 hmb_1 hmb_2 hmb_3 hmb_4 hnb_0 hnb_1 hnb_2 hnb_3 hnb_4
  refine (new_walk _).mono ?_
  rintro e w1 ⟨rfl, h1, hb1⟩
  have P1 := Aside0.mk h1
  have B1 := Aside0.mk hb1
  have M1 := Aside0.mk ((hb1.block gm (blk_lt BM2.out)).trans BM2.out)
  have N1 := Aside0.mk ((hb1.block gn (blk_lt BN.out)).trans BN.out)
  have hz1 := hb1.size
  clear h1 hb1
  have hm1_0 : w1.cell? ⟨gm, 0, none⟩ = some (.int .i64 m.f0) := (blk_cell M1.out 0).trans rfl
  have hm1_1 : w1.cell? ⟨gm, 1, none⟩ = some (.string m.f1) := (blk_cell M1.out 1).trans rfl
  have hm1_2 : w1.cell? ⟨gm, 2, none⟩ = some (.int .i64 m.f2) := (blk_cell M1.out 2).trans rfl
  have hm1_3 : w1.cell? ⟨gm, 3, none⟩ = some (.bool m.f3) := (blk_cell M1.out 3).trans rfl
  have hm1_4 : w1.cell? ⟨gm, 4, none⟩ = some (.int .u64 m.f4) := (blk_cell M1.out 4).trans rfl
  have hn1_0 : w1.cell? ⟨gn, 0, none⟩ = some (.int .i64 n.f0) := (blk_cell N1.out 0).trans rfl
  have hn1_1 : w1.cell? ⟨gn, 1, none⟩ = some (.string n.f1) := (blk_cell N1.out 1).trans rfl
  have hn1_2 : w1.cell? ⟨gn, 2, none⟩ = some (.int .i64 n.f2) := (blk_cell N1.out 2).trans rfl
  have hn1_3 : w1.cell? ⟨gn, 3, none⟩ = some (.bool n.f3) := (blk_cell N1.out 3).trans rfl
  have hn1_4 : w1.cell? ⟨gn, 4, none⟩ = some (.int .u64 n.f4) := (blk_cell N1.out 4).trans rfl
  go_wp2_with fail
  refine (put_from m (by rw [HM.out]; exact HX.out) P1.out hz1 R1).mono ?_
  rintro e w2 ⟨rfl, h1, hb1, hz2⟩
  have P2 := Aside0.mk h1
  have B2 := Aside0.mk (B1.out.trans hb1)
  have M2 := Aside0.mk ((hb1.block gm (blk_lt BM2.out)).trans M1.out)
  have N2 := Aside0.mk ((hb1.block gn (blk_lt BN.out)).trans N1.out)
  clear h1 hb1
  clear hm1_0 hm1_1 hm1_2 hm1_3 hm1_4 hn1_0 hn1_1 hn1_2 hn1_3 hn1_4
  have hm2_0 : w2.cell? ⟨gm, 0, none⟩ = some (.int .i64 m.f0) := (blk_cell M2.out 0).trans rfl
  have hm2_1 : w2.cell? ⟨gm, 1, none⟩ = some (.string m.f1) := (blk_cell M2.out 1).trans rfl
  have hm2_2 : w2.cell? ⟨gm, 2, none⟩ = some (.int .i64 m.f2) := (blk_cell M2.out 2).trans rfl
  have hm2_3 : w2.cell? ⟨gm, 3, none⟩ = some (.bool m.f3) := (blk_cell M2.out 3).trans rfl
  have hm2_4 : w2.cell? ⟨gm, 4, none⟩ = some (.int .u64 m.f4) := (blk_cell M2.out 4).trans rfl
  have hn2_0 : w2.cell? ⟨gn, 0, none⟩ = some (.int .i64 n.f0) := (blk_cell N2.out 0).trans rfl
  have hn2_1 : w2.cell? ⟨gn, 1, none⟩ = some (.string n.f1) := (blk_cell N2.out 1).trans rfl
  have hn2_2 : w2.cell? ⟨gn, 2, none⟩ = some (.int .i64 n.f2) := (blk_cell N2.out 2).trans rfl
  have hn2_3 : w2.cell? ⟨gn, 3, none⟩ = some (.bool n.f3) := (blk_cell N2.out 3).trans rfl
  have hn2_4 : w2.cell? ⟨gn, 4, none⟩ = some (.int .u64 n.f4) := (blk_cell N2.out 4).trans rfl
  go_wp2_with fail
  refine (put_from n (by rw [HN.out]; exact HY.out) P2.out hz2 R2).mono ?_
  rintro e w3 ⟨rfl, h1, hb1, hz3⟩
  have P3 := Aside0.mk h1.bound
  have B3 := Aside0.mk (B2.out.trans hb1)
  have M3 := Aside0.mk ((hb1.block gm (blk_lt BM2.out)).trans M2.out)
  have N3 := Aside0.mk ((hb1.block gn (blk_lt BN.out)).trans N2.out)
  clear h1 hb1
  clear hm2_0 hm2_1 hm2_2 hm2_3 hm2_4 hn2_0 hn2_1 hn2_2 hn2_3 hn2_4
  have hm3_0 : w3.cell? ⟨gm, 0, none⟩ = some (.int .i64 m.f0) := (blk_cell M3.out 0).trans rfl
  have hm3_1 : w3.cell? ⟨gm, 1, none⟩ = some (.string m.f1) := (blk_cell M3.out 1).trans rfl
  have hm3_2 : w3.cell? ⟨gm, 2, none⟩ = some (.int .i64 m.f2) := (blk_cell M3.out 2).trans rfl
  have hm3_3 : w3.cell? ⟨gm, 3, none⟩ = some (.bool m.f3) := (blk_cell M3.out 3).trans rfl
  have hm3_4 : w3.cell? ⟨gm, 4, none⟩ = some (.int .u64 m.f4) := (blk_cell M3.out 4).trans rfl
  have hn3_0 : w3.cell? ⟨gn, 0, none⟩ = some (.int .i64 n.f0) := (blk_cell N3.out 0).trans rfl
  have hn3_1 : w3.cell? ⟨gn, 1, none⟩ = some (.string n.f1) := (blk_cell N3.out 1).trans rfl
  have hn3_2 : w3.cell? ⟨gn, 2, none⟩ = some (.int .i64 n.f2) := (blk_cell N3.out 2).trans rfl
  have hn3_3 : w3.cell? ⟨gn, 3, none⟩ = some (.bool n.f3) := (blk_cell N3.out 3).trans rfl
  have hn3_4 : w3.cell? ⟨gn, 4, none⟩ = some (.int .u64 n.f4) := (blk_cell N3.out 4).trans rfl
  go_wp2_with fail
  refine (of_is m x i HM.out _).mono ?_
  rintro e w4 ⟨rfl, hb1⟩
  have P4 := Aside0.mk (P3.out.below hb1)
  have B4 := Aside0.mk (B3.out.trans (hb1.mono hz3))
  have hz4 := hb1.size
  have M4 := Aside0.mk ((hb1.block gm (Nat.lt_of_lt_of_le (blk_lt BM2.out) hz3)).trans M3.out)
  have N4 := Aside0.mk ((hb1.block gn (Nat.lt_of_lt_of_le (blk_lt BN.out) hz3)).trans N3.out)
  clear hb1
  clear hm3_0 hm3_1 hm3_2 hm3_3 hm3_4 hn3_0 hn3_1 hn3_2 hn3_3 hn3_4
  have hm4_0 : w4.cell? ⟨gm, 0, none⟩ = some (.int .i64 m.f0) := (blk_cell M4.out 0).trans rfl
  have hm4_1 : w4.cell? ⟨gm, 1, none⟩ = some (.string m.f1) := (blk_cell M4.out 1).trans rfl
  have hm4_2 : w4.cell? ⟨gm, 2, none⟩ = some (.int .i64 m.f2) := (blk_cell M4.out 2).trans rfl
  have hm4_3 : w4.cell? ⟨gm, 3, none⟩ = some (.bool m.f3) := (blk_cell M4.out 3).trans rfl
  have hm4_4 : w4.cell? ⟨gm, 4, none⟩ = some (.int .u64 m.f4) := (blk_cell M4.out 4).trans rfl
  have hn4_0 : w4.cell? ⟨gn, 0, none⟩ = some (.int .i64 n.f0) := (blk_cell N4.out 0).trans rfl
  have hn4_1 : w4.cell? ⟨gn, 1, none⟩ = some (.string n.f1) := (blk_cell N4.out 1).trans rfl
  have hn4_2 : w4.cell? ⟨gn, 2, none⟩ = some (.int .i64 n.f2) := (blk_cell N4.out 2).trans rfl
  have hn4_3 : w4.cell? ⟨gn, 3, none⟩ = some (.bool n.f3) := (blk_cell N4.out 3).trans rfl
  have hn4_4 : w4.cell? ⟨gn, 4, none⟩ = some (.int .u64 n.f4) := (blk_cell N4.out 4).trans rfl
  have ne1 : gm ≠ w4.heap.size := Nat.ne_of_lt (blk_lt M4.out)
  have ne2 : gn ≠ w4.heap.size := Nat.ne_of_lt (blk_lt N4.out)
  have lt1 := blk_lt M4.out
  have lt2 := blk_lt N4.out
  go_wp2_with fail
  refine (of_is n y j HN.out _).mono ?_
  rintro e w5 ⟨rfl, hb1⟩
  have hz5 : w4.heap.size < w5.heap.size := by have := hb1.size; simp at this; omega
  have hzb : wb.heap.size ≤ w4.heap.size := Nat.le_trans hz3 hz4
  have X5 := Aside0.mk ((hb1.block w4.heap.size (by simp)).trans (heap_alloc_new w4 (.cells #[.string x.f0, .int .i64 x.f1, .int .u64 x.f2] 53 (0, 0))))
  have P5 := Aside0.mk ((P4.out.below (below_alloc (Below.refl _ _) _)).below hb1)
  have B5 := Aside0.mk (B4.out.trans (((Below.refl _ _).alloc hzb (.cells #[.string x.f0, .int .i64 x.f1, .int .u64 x.f2] 53 (0, 0))).trans (hb1.mono (by simp; omega))))
  clear hb1 hm4_0 hm4_1 hm4_2 hm4_3 hm4_4 hn4_0 hn4_1 hn4_2 hn4_3 hn4_4
  go_wp2_with fail
  refine (pooled_walk _).mono ?_
  rintro e w8 ⟨rfl, hb8⟩
  go_wp2
  go_ret
  exact ⟨rfl, below_step BB.out (B5.out.trans (((Below.refl _ _).alloc (by omega) (.cells #[.string y.f0, .int .i64 y.f1, .int .u64 y.f2] 53 (0, 0))).trans (hb8.mono (by simp; omega))))⟩
set_option maxHeartbeats 4000000 in
set_option maxRecDepth 100000 in
theorem same_err_ok (m n : S49) (w : World) (hs : m.f1.size ≤ 100) (hs2 : n.f1.size ≤ 100) (x y : S53) (i j : Int) (hm : ofF m = (x, i)) (hn : ofF n = (y, j)) (wx : i = 0 → Wf x) (wy : j = 0 → Wf y) (hij : (i != 0) = true) (hij2 : (i == 0) = false) (hj : (j != 0) = false) (hj2 : (j == 0) = true)
    (L L2 : List S53) (R1 : PutR [] m 0 i L) (R2 : PutR L n 0 j L2) :
    Calls Try.prog 10 #[.agg #[.int .i64 m.f0, .string m.f1, .int .i64 m.f2, .bool m.f3, .int .u64 m.f4], .agg #[.int .i64 n.f0, .string n.f1, .int .i64 n.f2, .bool n.f3, .int .u64 n.f4]] w fun e w' => e = .returned (.bool true) ∧ Below w.heap.size w w' := by
  have hu49 := Try.underlying49
  have hu53 := Try.underlying53
  have HM := Aside0.mk hm
  have HN := Aside0.mk hn
  have HX := Aside0.mk wx
  have HY := Aside0.mk wy
  clear hm hn wx wy
  go_enter Try.func10, Try.ntmps10
  go_wp2_with (first | ((with_reducible refine gate_dst (N := 2) rfl ?_); refine box_event ?hg (N := 2) ?hd (cs := #[.int .i64 m.f0, .string m.f1, .int .i64 m.f2, .bool m.f3, .int .u64 m.f4]) (t := 49) ?hr ?_; (case hd => rfl); (case hg => rfl); (case hr => first | (go_simp; done) | (go_simp; rfl)); intro gm hg wa hbox hb; have BA := Aside0.mk hb; have BM := Aside0.mk hbox; clear hb hbox hg) | ((with_reducible refine gate_dst (N := 3) rfl ?_); refine box_event ?hg (N := 3) ?hd (cs := #[.int .i64 n.f0, .string n.f1, .int .i64 n.f2, .bool n.f3, .int .u64 n.f4]) (t := 49) ?hr ?_; (case hd => rfl); (case hg => rfl); (case hr => first | (go_simp; done) | (go_simp; rfl)); intro gn hg wb hbox hb; have BB := Aside0.mk (below_step BA.out hb); have BM2 := Aside0.mk ((hb.block gm (blk_lt BM.out)).trans BM.out); have BN := Aside0.mk hbox; have hmb_0 : wb.cell? ⟨gm, 0, none⟩ = some (.int .i64 m.f0) := (blk_cell BM2.out 0).trans rfl; have hmb_1 : wb.cell? ⟨gm, 1, none⟩ = some (.string m.f1) := (blk_cell BM2.out 1).trans rfl; have hmb_2 : wb.cell? ⟨gm, 2, none⟩ = some (.int .i64 m.f2) := (blk_cell BM2.out 2).trans rfl; have hmb_3 : wb.cell? ⟨gm, 3, none⟩ = some (.bool m.f3) := (blk_cell BM2.out 3).trans rfl; have hmb_4 : wb.cell? ⟨gm, 4, none⟩ = some (.int .u64 m.f4) := (blk_cell BM2.out 4).trans rfl; have hnb_0 : wb.cell? ⟨gn, 0, none⟩ = some (.int .i64 n.f0) := (blk_cell BN.out 0).trans rfl; have hnb_1 : wb.cell? ⟨gn, 1, none⟩ = some (.string n.f1) := (blk_cell BN.out 1).trans rfl; have hnb_2 : wb.cell? ⟨gn, 2, none⟩ = some (.int .i64 n.f2) := (blk_cell BN.out 2).trans rfl; have hnb_3 : wb.cell? ⟨gn, 3, none⟩ = some (.bool n.f3) := (blk_cell BN.out 3).trans rfl; have hnb_4 : wb.cell? ⟨gn, 4, none⟩ = some (.int .u64 n.f4) := (blk_cell BN.out 4).trans rfl; clear hb hbox hg))
  clear hmb_0 hmb_1 hmb_2 hmb_3 hmb_4 hnb_0 hnb_1 hnb_2 hnb_3 hnb_4
  refine (new_walk _).mono ?_
  rintro e w1 ⟨rfl, h1, hb1⟩
  have P1 := Aside0.mk h1
  have B1 := Aside0.mk hb1
  have M1 := Aside0.mk ((hb1.block gm (blk_lt BM2.out)).trans BM2.out)
  have N1 := Aside0.mk ((hb1.block gn (blk_lt BN.out)).trans BN.out)
  have hz1 := hb1.size
  clear h1 hb1
  have hm1_0 : w1.cell? ⟨gm, 0, none⟩ = some (.int .i64 m.f0) := (blk_cell M1.out 0).trans rfl
  have hm1_1 : w1.cell? ⟨gm, 1, none⟩ = some (.string m.f1) := (blk_cell M1.out 1).trans rfl
  have hm1_2 : w1.cell? ⟨gm, 2, none⟩ = some (.int .i64 m.f2) := (blk_cell M1.out 2).trans rfl
  have hm1_3 : w1.cell? ⟨gm, 3, none⟩ = some (.bool m.f3) := (blk_cell M1.out 3).trans rfl
  have hm1_4 : w1.cell? ⟨gm, 4, none⟩ = some (.int .u64 m.f4) := (blk_cell M1.out 4).trans rfl
  have hn1_0 : w1.cell? ⟨gn, 0, none⟩ = some (.int .i64 n.f0) := (blk_cell N1.out 0).trans rfl
  have hn1_1 : w1.cell? ⟨gn, 1, none⟩ = some (.string n.f1) := (blk_cell N1.out 1).trans rfl
  have hn1_2 : w1.cell? ⟨gn, 2, none⟩ = some (.int .i64 n.f2) := (blk_cell N1.out 2).trans rfl
  have hn1_3 : w1.cell? ⟨gn, 3, none⟩ = some (.bool n.f3) := (blk_cell N1.out 3).trans rfl
  have hn1_4 : w1.cell? ⟨gn, 4, none⟩ = some (.int .u64 n.f4) := (blk_cell N1.out 4).trans rfl
  go_wp2_with fail
  refine (put_from m (by rw [HM.out]; exact HX.out) P1.out hz1 R1).mono ?_
  rintro e w2 ⟨rfl, h1, hb1, hz2⟩
  have P2 := Aside0.mk h1
  have B2 := Aside0.mk (B1.out.trans hb1)
  have M2 := Aside0.mk ((hb1.block gm (blk_lt BM2.out)).trans M1.out)
  have N2 := Aside0.mk ((hb1.block gn (blk_lt BN.out)).trans N1.out)
  clear h1 hb1
  clear hm1_0 hm1_1 hm1_2 hm1_3 hm1_4 hn1_0 hn1_1 hn1_2 hn1_3 hn1_4
  have hm2_0 : w2.cell? ⟨gm, 0, none⟩ = some (.int .i64 m.f0) := (blk_cell M2.out 0).trans rfl
  have hm2_1 : w2.cell? ⟨gm, 1, none⟩ = some (.string m.f1) := (blk_cell M2.out 1).trans rfl
  have hm2_2 : w2.cell? ⟨gm, 2, none⟩ = some (.int .i64 m.f2) := (blk_cell M2.out 2).trans rfl
  have hm2_3 : w2.cell? ⟨gm, 3, none⟩ = some (.bool m.f3) := (blk_cell M2.out 3).trans rfl
  have hm2_4 : w2.cell? ⟨gm, 4, none⟩ = some (.int .u64 m.f4) := (blk_cell M2.out 4).trans rfl
  have hn2_0 : w2.cell? ⟨gn, 0, none⟩ = some (.int .i64 n.f0) := (blk_cell N2.out 0).trans rfl
  have hn2_1 : w2.cell? ⟨gn, 1, none⟩ = some (.string n.f1) := (blk_cell N2.out 1).trans rfl
  have hn2_2 : w2.cell? ⟨gn, 2, none⟩ = some (.int .i64 n.f2) := (blk_cell N2.out 2).trans rfl
  have hn2_3 : w2.cell? ⟨gn, 3, none⟩ = some (.bool n.f3) := (blk_cell N2.out 3).trans rfl
  have hn2_4 : w2.cell? ⟨gn, 4, none⟩ = some (.int .u64 n.f4) := (blk_cell N2.out 4).trans rfl
  go_wp2_with fail
  refine (put_from n (by rw [HN.out]; exact HY.out) P2.out hz2 R2).mono ?_
  rintro e w3 ⟨rfl, h1, hb1, hz3⟩
  have P3 := Aside0.mk h1.bound
  have B3 := Aside0.mk (B2.out.trans hb1)
  have M3 := Aside0.mk ((hb1.block gm (blk_lt BM2.out)).trans M2.out)
  have N3 := Aside0.mk ((hb1.block gn (blk_lt BN.out)).trans N2.out)
  clear h1 hb1
  clear hm2_0 hm2_1 hm2_2 hm2_3 hm2_4 hn2_0 hn2_1 hn2_2 hn2_3 hn2_4
  have hm3_0 : w3.cell? ⟨gm, 0, none⟩ = some (.int .i64 m.f0) := (blk_cell M3.out 0).trans rfl
  have hm3_1 : w3.cell? ⟨gm, 1, none⟩ = some (.string m.f1) := (blk_cell M3.out 1).trans rfl
  have hm3_2 : w3.cell? ⟨gm, 2, none⟩ = some (.int .i64 m.f2) := (blk_cell M3.out 2).trans rfl
  have hm3_3 : w3.cell? ⟨gm, 3, none⟩ = some (.bool m.f3) := (blk_cell M3.out 3).trans rfl
  have hm3_4 : w3.cell? ⟨gm, 4, none⟩ = some (.int .u64 m.f4) := (blk_cell M3.out 4).trans rfl
  have hn3_0 : w3.cell? ⟨gn, 0, none⟩ = some (.int .i64 n.f0) := (blk_cell N3.out 0).trans rfl
  have hn3_1 : w3.cell? ⟨gn, 1, none⟩ = some (.string n.f1) := (blk_cell N3.out 1).trans rfl
  have hn3_2 : w3.cell? ⟨gn, 2, none⟩ = some (.int .i64 n.f2) := (blk_cell N3.out 2).trans rfl
  have hn3_3 : w3.cell? ⟨gn, 3, none⟩ = some (.bool n.f3) := (blk_cell N3.out 3).trans rfl
  have hn3_4 : w3.cell? ⟨gn, 4, none⟩ = some (.int .u64 n.f4) := (blk_cell N3.out 4).trans rfl
  go_wp2_with fail
  refine (of_is m x i HM.out _).mono ?_
  rintro e w4 ⟨rfl, hb1⟩
  have P4 := Aside0.mk (P3.out.below hb1)
  have B4 := Aside0.mk (B3.out.trans (hb1.mono hz3))
  have hz4 := hb1.size
  have M4 := Aside0.mk ((hb1.block gm (Nat.lt_of_lt_of_le (blk_lt BM2.out) hz3)).trans M3.out)
  have N4 := Aside0.mk ((hb1.block gn (Nat.lt_of_lt_of_le (blk_lt BN.out) hz3)).trans N3.out)
  clear hb1
  clear hm3_0 hm3_1 hm3_2 hm3_3 hm3_4 hn3_0 hn3_1 hn3_2 hn3_3 hn3_4
  have hm4_0 : w4.cell? ⟨gm, 0, none⟩ = some (.int .i64 m.f0) := (blk_cell M4.out 0).trans rfl
  have hm4_1 : w4.cell? ⟨gm, 1, none⟩ = some (.string m.f1) := (blk_cell M4.out 1).trans rfl
  have hm4_2 : w4.cell? ⟨gm, 2, none⟩ = some (.int .i64 m.f2) := (blk_cell M4.out 2).trans rfl
  have hm4_3 : w4.cell? ⟨gm, 3, none⟩ = some (.bool m.f3) := (blk_cell M4.out 3).trans rfl
  have hm4_4 : w4.cell? ⟨gm, 4, none⟩ = some (.int .u64 m.f4) := (blk_cell M4.out 4).trans rfl
  have hn4_0 : w4.cell? ⟨gn, 0, none⟩ = some (.int .i64 n.f0) := (blk_cell N4.out 0).trans rfl
  have hn4_1 : w4.cell? ⟨gn, 1, none⟩ = some (.string n.f1) := (blk_cell N4.out 1).trans rfl
  have hn4_2 : w4.cell? ⟨gn, 2, none⟩ = some (.int .i64 n.f2) := (blk_cell N4.out 2).trans rfl
  have hn4_3 : w4.cell? ⟨gn, 3, none⟩ = some (.bool n.f3) := (blk_cell N4.out 3).trans rfl
  have hn4_4 : w4.cell? ⟨gn, 4, none⟩ = some (.int .u64 n.f4) := (blk_cell N4.out 4).trans rfl
  have ne1 : gm ≠ w4.heap.size := Nat.ne_of_lt (blk_lt M4.out)
  have ne2 : gn ≠ w4.heap.size := Nat.ne_of_lt (blk_lt N4.out)
  have lt1 := blk_lt M4.out
  have lt2 := blk_lt N4.out
  go_wp2_with fail
  refine (of_is n y j HN.out _).mono ?_
  rintro e w5 ⟨rfl, hb1⟩
  have hz5 : w4.heap.size < w5.heap.size := by have := hb1.size; simp at this; omega
  have hzb : wb.heap.size ≤ w4.heap.size := Nat.le_trans hz3 hz4
  have X5 := Aside0.mk ((hb1.block w4.heap.size (by simp)).trans (heap_alloc_new w4 (.cells #[.string x.f0, .int .i64 x.f1, .int .u64 x.f2] 53 (0, 0))))
  have P5 := Aside0.mk ((P4.out.below (below_alloc (Below.refl _ _) _)).below hb1)
  have B5 := Aside0.mk (B4.out.trans (((Below.refl _ _).alloc hzb (.cells #[.string x.f0, .int .i64 x.f1, .int .u64 x.f2] 53 (0, 0))).trans (hb1.mono (by simp; omega))))
  clear hb1 hm4_0 hm4_1 hm4_2 hm4_3 hm4_4 hn4_0 hn4_1 hn4_2 hn4_3 hn4_4
  go_wp2_with fail
  refine (pooled_walk _).mono ?_
  rintro e w8 ⟨rfl, hb8⟩
  go_wp2
  go_ret
  exact ⟨rfl, below_step BB.out (B5.out.trans (((Below.refl _ _).alloc (by omega) (.cells #[.string y.f0, .int .i64 y.f1, .int .u64 y.f2] 53 (0, 0))).trans (hb8.mono (by simp; omega))))⟩
set_option maxHeartbeats 4000000 in
set_option maxRecDepth 100000 in
theorem same_ok_err (m n : S49) (w : World) (hs : m.f1.size ≤ 100) (hs2 : n.f1.size ≤ 100) (x y : S53) (i j : Int) (hm : ofF m = (x, i)) (hn : ofF n = (y, j)) (wx : i = 0 → Wf x) (wy : j = 0 → Wf y) (hij : (i != 0) = false) (hij2 : (i == 0) = true) (hj : (j != 0) = true) (hj2 : (j == 0) = false)
    (L L2 : List S53) (R1 : PutR [] m 0 i L) (R2 : PutR L n 0 j L2) :
    Calls Try.prog 10 #[.agg #[.int .i64 m.f0, .string m.f1, .int .i64 m.f2, .bool m.f3, .int .u64 m.f4], .agg #[.int .i64 n.f0, .string n.f1, .int .i64 n.f2, .bool n.f3, .int .u64 n.f4]] w fun e w' => e = .returned (.bool true) ∧ Below w.heap.size w w' := by
  have hu49 := Try.underlying49
  have hu53 := Try.underlying53
  have HM := Aside0.mk hm
  have HN := Aside0.mk hn
  have HX := Aside0.mk wx
  have HY := Aside0.mk wy
  clear hm hn wx wy
  go_enter Try.func10, Try.ntmps10
  go_wp2_with (first | ((with_reducible refine gate_dst (N := 2) rfl ?_); refine box_event ?hg (N := 2) ?hd (cs := #[.int .i64 m.f0, .string m.f1, .int .i64 m.f2, .bool m.f3, .int .u64 m.f4]) (t := 49) ?hr ?_; (case hd => rfl); (case hg => rfl); (case hr => first | (go_simp; done) | (go_simp; rfl)); intro gm hg wa hbox hb; have BA := Aside0.mk hb; have BM := Aside0.mk hbox; clear hb hbox hg) | ((with_reducible refine gate_dst (N := 3) rfl ?_); refine box_event ?hg (N := 3) ?hd (cs := #[.int .i64 n.f0, .string n.f1, .int .i64 n.f2, .bool n.f3, .int .u64 n.f4]) (t := 49) ?hr ?_; (case hd => rfl); (case hg => rfl); (case hr => first | (go_simp; done) | (go_simp; rfl)); intro gn hg wb hbox hb; have BB := Aside0.mk (below_step BA.out hb); have BM2 := Aside0.mk ((hb.block gm (blk_lt BM.out)).trans BM.out); have BN := Aside0.mk hbox; have hmb_0 : wb.cell? ⟨gm, 0, none⟩ = some (.int .i64 m.f0) := (blk_cell BM2.out 0).trans rfl; have hmb_1 : wb.cell? ⟨gm, 1, none⟩ = some (.string m.f1) := (blk_cell BM2.out 1).trans rfl; have hmb_2 : wb.cell? ⟨gm, 2, none⟩ = some (.int .i64 m.f2) := (blk_cell BM2.out 2).trans rfl; have hmb_3 : wb.cell? ⟨gm, 3, none⟩ = some (.bool m.f3) := (blk_cell BM2.out 3).trans rfl; have hmb_4 : wb.cell? ⟨gm, 4, none⟩ = some (.int .u64 m.f4) := (blk_cell BM2.out 4).trans rfl; have hnb_0 : wb.cell? ⟨gn, 0, none⟩ = some (.int .i64 n.f0) := (blk_cell BN.out 0).trans rfl; have hnb_1 : wb.cell? ⟨gn, 1, none⟩ = some (.string n.f1) := (blk_cell BN.out 1).trans rfl; have hnb_2 : wb.cell? ⟨gn, 2, none⟩ = some (.int .i64 n.f2) := (blk_cell BN.out 2).trans rfl; have hnb_3 : wb.cell? ⟨gn, 3, none⟩ = some (.bool n.f3) := (blk_cell BN.out 3).trans rfl; have hnb_4 : wb.cell? ⟨gn, 4, none⟩ = some (.int .u64 n.f4) := (blk_cell BN.out 4).trans rfl; clear hb hbox hg))
  clear hmb_0 hmb_1 hmb_2 hmb_3 hmb_4 hnb_0 hnb_1 hnb_2 hnb_3 hnb_4
  refine (new_walk _).mono ?_
  rintro e w1 ⟨rfl, h1, hb1⟩
  have P1 := Aside0.mk h1
  have B1 := Aside0.mk hb1
  have M1 := Aside0.mk ((hb1.block gm (blk_lt BM2.out)).trans BM2.out)
  have N1 := Aside0.mk ((hb1.block gn (blk_lt BN.out)).trans BN.out)
  have hz1 := hb1.size
  clear h1 hb1
  have hm1_0 : w1.cell? ⟨gm, 0, none⟩ = some (.int .i64 m.f0) := (blk_cell M1.out 0).trans rfl
  have hm1_1 : w1.cell? ⟨gm, 1, none⟩ = some (.string m.f1) := (blk_cell M1.out 1).trans rfl
  have hm1_2 : w1.cell? ⟨gm, 2, none⟩ = some (.int .i64 m.f2) := (blk_cell M1.out 2).trans rfl
  have hm1_3 : w1.cell? ⟨gm, 3, none⟩ = some (.bool m.f3) := (blk_cell M1.out 3).trans rfl
  have hm1_4 : w1.cell? ⟨gm, 4, none⟩ = some (.int .u64 m.f4) := (blk_cell M1.out 4).trans rfl
  have hn1_0 : w1.cell? ⟨gn, 0, none⟩ = some (.int .i64 n.f0) := (blk_cell N1.out 0).trans rfl
  have hn1_1 : w1.cell? ⟨gn, 1, none⟩ = some (.string n.f1) := (blk_cell N1.out 1).trans rfl
  have hn1_2 : w1.cell? ⟨gn, 2, none⟩ = some (.int .i64 n.f2) := (blk_cell N1.out 2).trans rfl
  have hn1_3 : w1.cell? ⟨gn, 3, none⟩ = some (.bool n.f3) := (blk_cell N1.out 3).trans rfl
  have hn1_4 : w1.cell? ⟨gn, 4, none⟩ = some (.int .u64 n.f4) := (blk_cell N1.out 4).trans rfl
  go_wp2_with fail
  refine (put_from m (by rw [HM.out]; exact HX.out) P1.out hz1 R1).mono ?_
  rintro e w2 ⟨rfl, h1, hb1, hz2⟩
  have P2 := Aside0.mk h1
  have B2 := Aside0.mk (B1.out.trans hb1)
  have M2 := Aside0.mk ((hb1.block gm (blk_lt BM2.out)).trans M1.out)
  have N2 := Aside0.mk ((hb1.block gn (blk_lt BN.out)).trans N1.out)
  clear h1 hb1
  clear hm1_0 hm1_1 hm1_2 hm1_3 hm1_4 hn1_0 hn1_1 hn1_2 hn1_3 hn1_4
  have hm2_0 : w2.cell? ⟨gm, 0, none⟩ = some (.int .i64 m.f0) := (blk_cell M2.out 0).trans rfl
  have hm2_1 : w2.cell? ⟨gm, 1, none⟩ = some (.string m.f1) := (blk_cell M2.out 1).trans rfl
  have hm2_2 : w2.cell? ⟨gm, 2, none⟩ = some (.int .i64 m.f2) := (blk_cell M2.out 2).trans rfl
  have hm2_3 : w2.cell? ⟨gm, 3, none⟩ = some (.bool m.f3) := (blk_cell M2.out 3).trans rfl
  have hm2_4 : w2.cell? ⟨gm, 4, none⟩ = some (.int .u64 m.f4) := (blk_cell M2.out 4).trans rfl
  have hn2_0 : w2.cell? ⟨gn, 0, none⟩ = some (.int .i64 n.f0) := (blk_cell N2.out 0).trans rfl
  have hn2_1 : w2.cell? ⟨gn, 1, none⟩ = some (.string n.f1) := (blk_cell N2.out 1).trans rfl
  have hn2_2 : w2.cell? ⟨gn, 2, none⟩ = some (.int .i64 n.f2) := (blk_cell N2.out 2).trans rfl
  have hn2_3 : w2.cell? ⟨gn, 3, none⟩ = some (.bool n.f3) := (blk_cell N2.out 3).trans rfl
  have hn2_4 : w2.cell? ⟨gn, 4, none⟩ = some (.int .u64 n.f4) := (blk_cell N2.out 4).trans rfl
  go_wp2_with fail
  refine (put_from n (by rw [HN.out]; exact HY.out) P2.out hz2 R2).mono ?_
  rintro e w3 ⟨rfl, h1, hb1, hz3⟩
  have P3 := Aside0.mk h1.bound
  have B3 := Aside0.mk (B2.out.trans hb1)
  have M3 := Aside0.mk ((hb1.block gm (blk_lt BM2.out)).trans M2.out)
  have N3 := Aside0.mk ((hb1.block gn (blk_lt BN.out)).trans N2.out)
  clear h1 hb1
  clear hm2_0 hm2_1 hm2_2 hm2_3 hm2_4 hn2_0 hn2_1 hn2_2 hn2_3 hn2_4
  have hm3_0 : w3.cell? ⟨gm, 0, none⟩ = some (.int .i64 m.f0) := (blk_cell M3.out 0).trans rfl
  have hm3_1 : w3.cell? ⟨gm, 1, none⟩ = some (.string m.f1) := (blk_cell M3.out 1).trans rfl
  have hm3_2 : w3.cell? ⟨gm, 2, none⟩ = some (.int .i64 m.f2) := (blk_cell M3.out 2).trans rfl
  have hm3_3 : w3.cell? ⟨gm, 3, none⟩ = some (.bool m.f3) := (blk_cell M3.out 3).trans rfl
  have hm3_4 : w3.cell? ⟨gm, 4, none⟩ = some (.int .u64 m.f4) := (blk_cell M3.out 4).trans rfl
  have hn3_0 : w3.cell? ⟨gn, 0, none⟩ = some (.int .i64 n.f0) := (blk_cell N3.out 0).trans rfl
  have hn3_1 : w3.cell? ⟨gn, 1, none⟩ = some (.string n.f1) := (blk_cell N3.out 1).trans rfl
  have hn3_2 : w3.cell? ⟨gn, 2, none⟩ = some (.int .i64 n.f2) := (blk_cell N3.out 2).trans rfl
  have hn3_3 : w3.cell? ⟨gn, 3, none⟩ = some (.bool n.f3) := (blk_cell N3.out 3).trans rfl
  have hn3_4 : w3.cell? ⟨gn, 4, none⟩ = some (.int .u64 n.f4) := (blk_cell N3.out 4).trans rfl
  go_wp2_with fail
  refine (of_is m x i HM.out _).mono ?_
  rintro e w4 ⟨rfl, hb1⟩
  have P4 := Aside0.mk (P3.out.below hb1)
  have B4 := Aside0.mk (B3.out.trans (hb1.mono hz3))
  have hz4 := hb1.size
  have M4 := Aside0.mk ((hb1.block gm (Nat.lt_of_lt_of_le (blk_lt BM2.out) hz3)).trans M3.out)
  have N4 := Aside0.mk ((hb1.block gn (Nat.lt_of_lt_of_le (blk_lt BN.out) hz3)).trans N3.out)
  clear hb1
  clear hm3_0 hm3_1 hm3_2 hm3_3 hm3_4 hn3_0 hn3_1 hn3_2 hn3_3 hn3_4
  have hm4_0 : w4.cell? ⟨gm, 0, none⟩ = some (.int .i64 m.f0) := (blk_cell M4.out 0).trans rfl
  have hm4_1 : w4.cell? ⟨gm, 1, none⟩ = some (.string m.f1) := (blk_cell M4.out 1).trans rfl
  have hm4_2 : w4.cell? ⟨gm, 2, none⟩ = some (.int .i64 m.f2) := (blk_cell M4.out 2).trans rfl
  have hm4_3 : w4.cell? ⟨gm, 3, none⟩ = some (.bool m.f3) := (blk_cell M4.out 3).trans rfl
  have hm4_4 : w4.cell? ⟨gm, 4, none⟩ = some (.int .u64 m.f4) := (blk_cell M4.out 4).trans rfl
  have hn4_0 : w4.cell? ⟨gn, 0, none⟩ = some (.int .i64 n.f0) := (blk_cell N4.out 0).trans rfl
  have hn4_1 : w4.cell? ⟨gn, 1, none⟩ = some (.string n.f1) := (blk_cell N4.out 1).trans rfl
  have hn4_2 : w4.cell? ⟨gn, 2, none⟩ = some (.int .i64 n.f2) := (blk_cell N4.out 2).trans rfl
  have hn4_3 : w4.cell? ⟨gn, 3, none⟩ = some (.bool n.f3) := (blk_cell N4.out 3).trans rfl
  have hn4_4 : w4.cell? ⟨gn, 4, none⟩ = some (.int .u64 n.f4) := (blk_cell N4.out 4).trans rfl
  have ne1 : gm ≠ w4.heap.size := Nat.ne_of_lt (blk_lt M4.out)
  have ne2 : gn ≠ w4.heap.size := Nat.ne_of_lt (blk_lt N4.out)
  have lt1 := blk_lt M4.out
  have lt2 := blk_lt N4.out
  go_wp2_with fail
  refine (of_is n y j HN.out _).mono ?_
  rintro e w5 ⟨rfl, hb1⟩
  have hz5 : w4.heap.size < w5.heap.size := by have := hb1.size; simp at this; omega
  have hzb : wb.heap.size ≤ w4.heap.size := Nat.le_trans hz3 hz4
  have X5 := Aside0.mk ((hb1.block w4.heap.size (by simp)).trans (heap_alloc_new w4 (.cells #[.string x.f0, .int .i64 x.f1, .int .u64 x.f2] 53 (0, 0))))
  have P5 := Aside0.mk ((P4.out.below (below_alloc (Below.refl _ _) _)).below hb1)
  have B5 := Aside0.mk (B4.out.trans (((Below.refl _ _).alloc hzb (.cells #[.string x.f0, .int .i64 x.f1, .int .u64 x.f2] 53 (0, 0))).trans (hb1.mono (by simp; omega))))
  clear hb1 hm4_0 hm4_1 hm4_2 hm4_3 hm4_4 hn4_0 hn4_1 hn4_2 hn4_3 hn4_4
  go_wp2_with fail
  refine (pooled_walk _).mono ?_
  rintro e w8 ⟨rfl, hb8⟩
  go_wp2
  go_ret
  exact ⟨rfl, below_step BB.out (B5.out.trans (((Below.refl _ _).alloc (by omega) (.cells #[.string y.f0, .int .i64 y.f1, .int .u64 y.f2] 53 (0, 0))).trans (hb8.mono (by simp; omega))))⟩

/-- Whatever two needs. -/
theorem same_walk (m n : S49) (w : World) (hm : WfN m) (hn : WfN n) :
    Calls Try.prog 10 #[.agg #[.int .i64 m.f0, .string m.f1, .int .i64 m.f2, .bool m.f3, .int .u64 m.f4], .agg #[.int .i64 n.f0, .string n.f1, .int .i64 n.f2, .bool n.f3, .int .u64 n.f4]] w fun e w' => e = .returned (.bool true) ∧ Below w.heap.size w w' := by
  by_cases c1 : 100 < m.f1.size
  · exact same_long m n w (.inl c1)
  by_cases c2 : 100 < n.f1.size
  · exact same_long m n w (.inr ⟨by omega, c2⟩)
  obtain ⟨x, i, hx⟩ : ∃ x i, ofF m = (x, i) := ⟨_, _, rfl⟩
  obtain ⟨y, j, hy⟩ : ∃ y j, ofF n = (y, j) := ⟨_, _, rfl⟩
  have wx := ofF_wf m hm
  have wy := ofF_wf n hn
  rw [hx] at wx
  rw [hy] at wy
  have e1 : (ofF m).2 = i := by rw [hx]
  have e2 : (ofF n).2 = j := by rw [hy]
  have f1 : (ofF m).1 = x := by rw [hx]
  have f2 : (ofF n).1 = y := by rw [hy]
  by_cases hi : i = 0
  · subst hi
    have R1 : PutR [] m 0 0 [x] := by
      have := PutR.new (L := []) (n := m) e1 (by simp) (by simp)
      rw [f1] at this
      exact this
    by_cases hj : j = 0
    · subst hj
      by_cases hxy : y = x
      · subst hxy
        exact same_one m n w (by omega) (by omega) y hx hy (wx rfl) (wy rfl) R1 (PutR.found (L := [y]) (n := n) 0 e2 (by rw [f2]; rfl))
      · have R2 : PutR [x] n 1 0 [x, y] := by
          have := PutR.new (L := [x]) (n := n) e2 (by rw [f2]; simp [hxy]) (by simp)
          rw [f2] at this
          exact this
        exact same_two m n w (by omega) (by omega) x y hx hy (wx rfl) (wy rfl) (eqB_ne (fun h => hxy h.symm)) R1 R2
    · exact same_ok_err m n w (by omega) (by omega) x y 0 j hx hy wx wy rfl rfl (bne_iff_ne.mpr hj) (beq_eq_false_iff_ne.mpr hj) _ _ R1 (by have := PutR.err (L := [x]) (n := n) (by rw [e2]; exact hj); rw [e2] at this; exact this)
  · have R1 : PutR [] m 0 i [] := by have := PutR.err (L := []) (n := m) (by rw [e1]; exact hi); rw [e1] at this; exact this
    by_cases hj : j = 0
    · subst hj
      have R2 : PutR [] n 0 0 [y] := by
        have := PutR.new (L := []) (n := n) e2 (by simp) (by simp)
        rw [f2] at this
        exact this
      exact same_err_ok m n w (by omega) (by omega) x y i 0 hx hy wx wy (bne_iff_ne.mpr hi) (beq_eq_false_iff_ne.mpr hi) rfl rfl _ _ R1 R2
    · exact same_err_err m n w (by omega) (by omega) x y i j hx hy wx wy (bne_iff_ne.mpr hi) (beq_eq_false_iff_ne.mpr hi) (bne_iff_ne.mpr hj) (beq_eq_false_iff_ne.mpr hj) _ _ R1 (by have := PutR.err (L := []) (n := n) (by rw [e2]; exact hj); rw [e2] at this; exact this)
end Go.Proofs.Ytcfejagfognipaa.Po
