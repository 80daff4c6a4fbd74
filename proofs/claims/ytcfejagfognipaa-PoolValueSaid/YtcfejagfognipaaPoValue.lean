/-
  The walk of cleatlaw15.PoolValue: it answers true at any need. Condition: the need is such as a machine can hold.
-/
import Derived.Test.YtcfejagfognipaaPoPooled
import Derived.Test.YtcfejagfognipaaPoEq
import Derived.Test.YtcfejagfognipaaPoWf
import Derived.Test.YtcfejagfognipaaPoNumP
namespace Go.Proofs.Ytcfejagfognipaa.Po
open Go.RowKit Go.Proofs.YtcfejagfognipaaW.PrintWords Go.Proofs.YtcfejagfognipaaW.PrintLast Go.Proofs.YtcfejagfognipaaW.PrintMore
attribute [local go_sem high] eqA53
set_option linter.unusedVariables false
set_option linter.unusedSimpArgs false

set_option maxHeartbeats 1000000 in
set_option maxRecDepth 100000 in
theorem value_long (n : S49) (w : World) (h : 100 < n.f1.size) :
    Calls Try.prog 12 #[.agg #[.int .i64 n.f0, .string n.f1, .int .i64 n.f2, .bool n.f3, .int .u64 n.f4]] w fun e w' => e = .returned (.bool true) ∧ Below w.heap.size w w' := by
  have hu49 := Try.underlying49
  go_enter Try.func12, Try.ntmps12
  go_wp2
  go_ret
  exact ⟨rfl, by repeat (first | exact Below.refl _ _ | apply below_alloc | apply pw_below_drewN | apply below_drew)⟩
set_option maxHeartbeats 2000000 in
set_option maxRecDepth 100000 in
theorem value_err (kd : Int) (s : ByteArray) (ad : Int) (mi : Bool) (v : Int) (w : World) (hs : s.size ≤ 100)
    (ho : ∀ w, Calls Try.prog 30 #[.agg #[.int .i64 kd, .string s, .int .i64 ad, .bool mi, .int .u64 v]] w fun e w' => e = .returned (.tuple #[.agg #[.string ⟨#[]⟩, .int .i64 0, .int .u64 0], .int .i64 1]) ∧ Below w.heap.size w w') :
    Calls Try.prog 12 #[.agg #[.int .i64 kd, .string s, .int .i64 ad, .bool mi, .int .u64 v]] w fun e w' => e = .returned (.bool true) ∧ Below w.heap.size w w' := by
  have hu49 := Try.underlying49
  have hu53 := Try.underlying53
  have HO := Aside0.mk ho
  clear ho
  go_enter Try.func12, Try.ntmps12
  go_wp2_with (first | ((with_reducible refine gate_dst (N := 1) rfl ?_); refine box_event ?hg (N := 1) ?hd (cs := #[.int .i64 kd, .string s, .int .i64 ad, .bool mi, .int .u64 v]) (t := 49) ?hr ?_; (case hd => rfl); (case hg => rfl); (case hr => first | (go_simp; done) | (go_simp; rfl)); intro gn hg wb hbox hb; have BB := Aside0.mk hb; have NB := Aside0.mk hbox; have nb_0 : wb.cell? ⟨gn, 0, none⟩ = some (.int .i64 kd) := (blk_cell NB.out 0).trans rfl; have nb_1 : wb.cell? ⟨gn, 1, none⟩ = some (.string s) := (blk_cell NB.out 1).trans rfl; have nb_2 : wb.cell? ⟨gn, 2, none⟩ = some (.int .i64 ad) := (blk_cell NB.out 2).trans rfl; have nb_3 : wb.cell? ⟨gn, 3, none⟩ = some (.bool mi) := (blk_cell NB.out 3).trans rfl; have nb_4 : wb.cell? ⟨gn, 4, none⟩ = some (.int .u64 v) := (blk_cell NB.out 4).trans rfl; clear hb hbox hg))
  refine (put_nil ⟨kd, s, ad, mi, v⟩ _).mono ?_
  rintro e w1 ⟨rfl, hb1⟩
  have N1 := Aside0.mk ((hb1.block gn (blk_lt NB.out)).trans NB.out)
  have B1 := Aside0.mk hb1
  clear hb1
  clear nb_0 nb_1 nb_2 nb_3 nb_4
  have n1_0 : w1.cell? ⟨gn, 0, none⟩ = some (.int .i64 kd) := (blk_cell N1.out 0).trans rfl
  have n1_1 : w1.cell? ⟨gn, 1, none⟩ = some (.string s) := (blk_cell N1.out 1).trans rfl
  have n1_2 : w1.cell? ⟨gn, 2, none⟩ = some (.int .i64 ad) := (blk_cell N1.out 2).trans rfl
  have n1_3 : w1.cell? ⟨gn, 3, none⟩ = some (.bool mi) := (blk_cell N1.out 3).trans rfl
  have n1_4 : w1.cell? ⟨gn, 4, none⟩ = some (.int .u64 v) := (blk_cell N1.out 4).trans rfl
  go_wp2_with (go_at_call 29; refine (size_nil _).mono ?_; rintro e ws ⟨rfl, hws⟩; subst hws)
  refine (take_nil _).mono ?_
  rintro e w2 ⟨rfl, hb1⟩
  have N2 := Aside0.mk ((hb1.block gn (blk_lt N1.out)).trans N1.out)
  have B2 := Aside0.mk (below_step B1.out hb1)
  clear hb1
  clear n1_0 n1_1 n1_2 n1_3 n1_4
  have n2_0 : w2.cell? ⟨gn, 0, none⟩ = some (.int .i64 kd) := (blk_cell N2.out 0).trans rfl
  have n2_1 : w2.cell? ⟨gn, 1, none⟩ = some (.string s) := (blk_cell N2.out 1).trans rfl
  have n2_2 : w2.cell? ⟨gn, 2, none⟩ = some (.int .i64 ad) := (blk_cell N2.out 2).trans rfl
  have n2_3 : w2.cell? ⟨gn, 3, none⟩ = some (.bool mi) := (blk_cell N2.out 3).trans rfl
  have n2_4 : w2.cell? ⟨gn, 4, none⟩ = some (.int .u64 v) := (blk_cell N2.out 4).trans rfl
  go_wp2_with fail
  refine (HO.out _).mono ?_
  rintro e w3 ⟨rfl, hb1⟩
  have N3 := Aside0.mk ((hb1.block gn (blk_lt N2.out)).trans N2.out)
  have B3 := Aside0.mk (below_step B2.out hb1)
  have lt3 := blk_lt N3.out
  have ne3 : gn ≠ w3.heap.size := Nat.ne_of_lt lt3
  clear hb1
  clear n2_0 n2_1 n2_2 n2_3 n2_4
  have n3_0 : w3.cell? ⟨gn, 0, none⟩ = some (.int .i64 kd) := (blk_cell N3.out 0).trans rfl
  have n3_1 : w3.cell? ⟨gn, 1, none⟩ = some (.string s) := (blk_cell N3.out 1).trans rfl
  have n3_2 : w3.cell? ⟨gn, 2, none⟩ = some (.int .i64 ad) := (blk_cell N3.out 2).trans rfl
  have n3_3 : w3.cell? ⟨gn, 3, none⟩ = some (.bool mi) := (blk_cell N3.out 3).trans rfl
  have n3_4 : w3.cell? ⟨gn, 4, none⟩ = some (.int .u64 v) := (blk_cell N3.out 4).trans rfl
  go_wp2_with fail
  refine (pooled_walk _).mono ?_
  rintro e w5 ⟨rfl, hb1⟩
  have X5 := Aside0.mk ((hb1.block w3.heap.size (by simp)).trans (heap_alloc_new w3 (.cells #[.string ⟨#[]⟩, .int .i64 0, .int .u64 0] 53 (0, 0))))
  have B5 := Aside0.mk (below_step (below_alloc B3.out _) hb1)
  have x5_0 : w5.cell? ⟨w3.heap.size, 0, none⟩ = some (.string ⟨#[]⟩) := (blk_cell X5.out 0).trans rfl
  have x5_1 : w5.cell? ⟨w3.heap.size, 1, none⟩ = some (.int .i64 0) := (blk_cell X5.out 1).trans rfl
  have x5_2 : w5.cell? ⟨w3.heap.size, 2, none⟩ = some (.int .u64 0) := (blk_cell X5.out 2).trans rfl
  clear hb1
  go_wp2
  go_ret
  exact ⟨rfl, below_step BB.out (B5.out)⟩
set_option maxHeartbeats 2000000 in
set_option maxRecDepth 100000 in
theorem value_sym (s : ByteArray) (ad : Int) (w : World) (hs : s.size ≤ 100) (he : s.toList.isEmpty = false)
    (S : ByteArray) (hS : ((S.size : Int) != 8) = false) (hS2 : ((S.size : Int) == 8) = true) (hv : ∀ w, Calls Try.prog 32 #[.agg #[.string s, .int .i64 ad, .int .u64 0]] w fun e w' => e = .returned (.tuple #[.string S, .int .i64 0]) ∧ Below w.heap.size w w')
    (hnum : ∀ w, Calls Try.prog 33 #[.string S] w fun e w' => e = .returned (.int .u64 0) ∧ Drawn0 w w')
    (ho : ∀ w, Calls Try.prog 30 #[.agg #[.int .i64 10, .string s, .int .i64 ad, .bool false, .int .u64 0]] w fun e w' => e = .returned (.tuple #[.agg #[.string s, .int .i64 ad, .int .u64 0], .int .i64 0]) ∧ Below w.heap.size w w') :
    Calls Try.prog 12 #[.agg #[.int .i64 10, .string s, .int .i64 ad, .bool false, .int .u64 0]] w fun e w' => e = .returned (.bool true) ∧ Below w.heap.size w w' := by
  have hu49 := Try.underlying49
  have hu53 := Try.underlying53
  have HO := Aside0.mk ho
  clear ho
  have HV := Aside0.mk hv
  have HNUM := Aside0.mk hnum
  clear hv hnum
  go_enter Try.func12, Try.ntmps12
  go_wp2_with (first | ((with_reducible refine gate_dst (N := 1) rfl ?_); refine box_event ?hg (N := 1) ?hd (cs := #[.int .i64 10, .string s, .int .i64 ad, .bool false, .int .u64 0]) (t := 49) ?hr ?_; (case hd => rfl); (case hg => rfl); (case hr => first | (go_simp; done) | (go_simp; rfl)); intro gn hg wb hbox hb; have BB := Aside0.mk hb; have NB := Aside0.mk hbox; have nb_0 : wb.cell? ⟨gn, 0, none⟩ = some (.int .i64 10) := (blk_cell NB.out 0).trans rfl; have nb_1 : wb.cell? ⟨gn, 1, none⟩ = some (.string s) := (blk_cell NB.out 1).trans rfl; have nb_2 : wb.cell? ⟨gn, 2, none⟩ = some (.int .i64 ad) := (blk_cell NB.out 2).trans rfl; have nb_3 : wb.cell? ⟨gn, 3, none⟩ = some (.bool false) := (blk_cell NB.out 3).trans rfl; have nb_4 : wb.cell? ⟨gn, 4, none⟩ = some (.int .u64 0) := (blk_cell NB.out 4).trans rfl; clear hb hbox hg))
  refine (put_nil ⟨10, s, ad, false, 0⟩ _).mono ?_
  rintro e w1 ⟨rfl, hb1⟩
  have N1 := Aside0.mk ((hb1.block gn (blk_lt NB.out)).trans NB.out)
  have B1 := Aside0.mk hb1
  clear hb1
  clear nb_0 nb_1 nb_2 nb_3 nb_4
  have n1_0 : w1.cell? ⟨gn, 0, none⟩ = some (.int .i64 10) := (blk_cell N1.out 0).trans rfl
  have n1_1 : w1.cell? ⟨gn, 1, none⟩ = some (.string s) := (blk_cell N1.out 1).trans rfl
  have n1_2 : w1.cell? ⟨gn, 2, none⟩ = some (.int .i64 ad) := (blk_cell N1.out 2).trans rfl
  have n1_3 : w1.cell? ⟨gn, 3, none⟩ = some (.bool false) := (blk_cell N1.out 3).trans rfl
  have n1_4 : w1.cell? ⟨gn, 4, none⟩ = some (.int .u64 0) := (blk_cell N1.out 4).trans rfl
  go_wp2_with (go_at_call 29; refine (size_nil _).mono ?_; rintro e ws ⟨rfl, hws⟩; subst hws)
  refine (take_nil _).mono ?_
  rintro e w2 ⟨rfl, hb1⟩
  have N2 := Aside0.mk ((hb1.block gn (blk_lt N1.out)).trans N1.out)
  have B2 := Aside0.mk (below_step B1.out hb1)
  clear hb1
  clear n1_0 n1_1 n1_2 n1_3 n1_4
  have n2_0 : w2.cell? ⟨gn, 0, none⟩ = some (.int .i64 10) := (blk_cell N2.out 0).trans rfl
  have n2_1 : w2.cell? ⟨gn, 1, none⟩ = some (.string s) := (blk_cell N2.out 1).trans rfl
  have n2_2 : w2.cell? ⟨gn, 2, none⟩ = some (.int .i64 ad) := (blk_cell N2.out 2).trans rfl
  have n2_3 : w2.cell? ⟨gn, 3, none⟩ = some (.bool false) := (blk_cell N2.out 3).trans rfl
  have n2_4 : w2.cell? ⟨gn, 4, none⟩ = some (.int .u64 0) := (blk_cell N2.out 4).trans rfl
  go_wp2_with fail
  refine (HO.out _).mono ?_
  rintro e w3 ⟨rfl, hb1⟩
  have N3 := Aside0.mk ((hb1.block gn (blk_lt N2.out)).trans N2.out)
  have B3 := Aside0.mk (below_step B2.out hb1)
  have lt3 := blk_lt N3.out
  have ne3 : gn ≠ w3.heap.size := Nat.ne_of_lt lt3
  clear hb1
  clear n2_0 n2_1 n2_2 n2_3 n2_4
  have n3_0 : w3.cell? ⟨gn, 0, none⟩ = some (.int .i64 10) := (blk_cell N3.out 0).trans rfl
  have n3_1 : w3.cell? ⟨gn, 1, none⟩ = some (.string s) := (blk_cell N3.out 1).trans rfl
  have n3_2 : w3.cell? ⟨gn, 2, none⟩ = some (.int .i64 ad) := (blk_cell N3.out 2).trans rfl
  have n3_3 : w3.cell? ⟨gn, 3, none⟩ = some (.bool false) := (blk_cell N3.out 3).trans rfl
  have n3_4 : w3.cell? ⟨gn, 4, none⟩ = some (.int .u64 0) := (blk_cell N3.out 4).trans rfl
  go_wp2_with fail
  refine (HV.out _).mono ?_
  rintro e w4 ⟨rfl, hb1⟩
  have X4 := Aside0.mk ((hb1.block w3.heap.size (by simp)).trans (heap_alloc_new w3 (.cells #[.string s, .int .i64 ad, .int .u64 0] 53 (0, 0))))
  have N4 := Aside0.mk ((hb1.block gn (by simp; omega)).trans (blk_alloc N3.out (.cells #[.string s, .int .i64 ad, .int .u64 0] 53 (0, 0))))
  have B4 := Aside0.mk (below_step (below_alloc B3.out _) hb1)
  clear hb1
  clear n3_0 n3_1 n3_2 n3_3 n3_4
  have x4_0 : w4.cell? ⟨w3.heap.size, 0, none⟩ = some (.string s) := (blk_cell X4.out 0).trans rfl
  have x4_1 : w4.cell? ⟨w3.heap.size, 1, none⟩ = some (.int .i64 ad) := (blk_cell X4.out 1).trans rfl
  have x4_2 : w4.cell? ⟨w3.heap.size, 2, none⟩ = some (.int .u64 0) := (blk_cell X4.out 2).trans rfl
  have n4_0 : w4.cell? ⟨gn, 0, none⟩ = some (.int .i64 10) := (blk_cell N4.out 0).trans rfl
  have n4_1 : w4.cell? ⟨gn, 1, none⟩ = some (.string s) := (blk_cell N4.out 1).trans rfl
  have n4_2 : w4.cell? ⟨gn, 2, none⟩ = some (.int .i64 ad) := (blk_cell N4.out 2).trans rfl
  have n4_3 : w4.cell? ⟨gn, 3, none⟩ = some (.bool false) := (blk_cell N4.out 3).trans rfl
  have n4_4 : w4.cell? ⟨gn, 4, none⟩ = some (.int .u64 0) := (blk_cell N4.out 4).trans rfl
  go_wp2_with fail
  refine (HNUM.out _).mono ?_
  rintro e w5 ⟨rfl, ⟨nd, rfl⟩⟩
  go_wp2_with fail
  refine (pooled_walk _).mono ?_
  rintro e w6 ⟨rfl, hb1⟩
  have X6 := Aside0.mk ((hb1.block _ (blk_lt X4.out)).trans X4.out)
  have N6 := Aside0.mk ((hb1.block _ (blk_lt N4.out)).trans N4.out)
  have B6 := Aside0.mk (below_step (pw_below_drewN B4.out _) hb1)
  clear hb1
  clear x4_0 x4_1 x4_2
  clear n4_0 n4_1 n4_2 n4_3 n4_4
  have x6_0 : w6.cell? ⟨w3.heap.size, 0, none⟩ = some (.string s) := (blk_cell X6.out 0).trans rfl
  have x6_1 : w6.cell? ⟨w3.heap.size, 1, none⟩ = some (.int .i64 ad) := (blk_cell X6.out 1).trans rfl
  have x6_2 : w6.cell? ⟨w3.heap.size, 2, none⟩ = some (.int .u64 0) := (blk_cell X6.out 2).trans rfl
  have n6_0 : w6.cell? ⟨gn, 0, none⟩ = some (.int .i64 10) := (blk_cell N6.out 0).trans rfl
  have n6_1 : w6.cell? ⟨gn, 1, none⟩ = some (.string s) := (blk_cell N6.out 1).trans rfl
  have n6_2 : w6.cell? ⟨gn, 2, none⟩ = some (.int .i64 ad) := (blk_cell N6.out 2).trans rfl
  have n6_3 : w6.cell? ⟨gn, 3, none⟩ = some (.bool false) := (blk_cell N6.out 3).trans rfl
  have n6_4 : w6.cell? ⟨gn, 4, none⟩ = some (.int .u64 0) := (blk_cell N6.out 4).trans rfl
  go_wp2
  go_ret
  exact ⟨rfl, below_step BB.out (B6.out)⟩
set_option maxHeartbeats 2000000 in
set_option maxRecDepth 100000 in
theorem value_minus (ad v V : Int) (w : World) (hsum : (IntKind.u64.wrap (V + v) == 0) = true)
    (S : ByteArray) (hS : ((S.size : Int) != 8) = false) (hS2 : ((S.size : Int) == 8) = true) (hv : ∀ w, Calls Try.prog 32 #[.agg #[.string ⟨#[]⟩, .int .i64 0, .int .u64 V]] w fun e w' => e = .returned (.tuple #[.string S, .int .i64 0]) ∧ Below w.heap.size w w')
    (hnum : ∀ w, Calls Try.prog 33 #[.string S] w fun e w' => e = .returned (.int .u64 V) ∧ Drawn0 w w')
    (ho : ∀ w, Calls Try.prog 30 #[.agg #[.int .i64 10, .string ⟨#[]⟩, .int .i64 ad, .bool true, .int .u64 v]] w fun e w' => e = .returned (.tuple #[.agg #[.string ⟨#[]⟩, .int .i64 0, .int .u64 V], .int .i64 0]) ∧ Below w.heap.size w w') :
    Calls Try.prog 12 #[.agg #[.int .i64 10, .string ⟨#[]⟩, .int .i64 ad, .bool true, .int .u64 v]] w fun e w' => e = .returned (.bool true) ∧ Below w.heap.size w w' := by
  have hu49 := Try.underlying49
  have hu53 := Try.underlying53
  have HO := Aside0.mk ho
  clear ho
  have HV := Aside0.mk hv
  have HNUM := Aside0.mk hnum
  clear hv hnum
  go_enter Try.func12, Try.ntmps12
  go_wp2_with (first | ((with_reducible refine gate_dst (N := 1) rfl ?_); refine box_event ?hg (N := 1) ?hd (cs := #[.int .i64 10, .string ⟨#[]⟩, .int .i64 ad, .bool true, .int .u64 v]) (t := 49) ?hr ?_; (case hd => rfl); (case hg => rfl); (case hr => first | (go_simp; done) | (go_simp; rfl)); intro gn hg wb hbox hb; have BB := Aside0.mk hb; have NB := Aside0.mk hbox; have nb_0 : wb.cell? ⟨gn, 0, none⟩ = some (.int .i64 10) := (blk_cell NB.out 0).trans rfl; have nb_1 : wb.cell? ⟨gn, 1, none⟩ = some (.string ⟨#[]⟩) := (blk_cell NB.out 1).trans rfl; have nb_2 : wb.cell? ⟨gn, 2, none⟩ = some (.int .i64 ad) := (blk_cell NB.out 2).trans rfl; have nb_3 : wb.cell? ⟨gn, 3, none⟩ = some (.bool true) := (blk_cell NB.out 3).trans rfl; have nb_4 : wb.cell? ⟨gn, 4, none⟩ = some (.int .u64 v) := (blk_cell NB.out 4).trans rfl; clear hb hbox hg))
  refine (put_nil ⟨10, ⟨#[]⟩, ad, true, v⟩ _).mono ?_
  rintro e w1 ⟨rfl, hb1⟩
  have N1 := Aside0.mk ((hb1.block gn (blk_lt NB.out)).trans NB.out)
  have B1 := Aside0.mk hb1
  clear hb1
  clear nb_0 nb_1 nb_2 nb_3 nb_4
  have n1_0 : w1.cell? ⟨gn, 0, none⟩ = some (.int .i64 10) := (blk_cell N1.out 0).trans rfl
  have n1_1 : w1.cell? ⟨gn, 1, none⟩ = some (.string ⟨#[]⟩) := (blk_cell N1.out 1).trans rfl
  have n1_2 : w1.cell? ⟨gn, 2, none⟩ = some (.int .i64 ad) := (blk_cell N1.out 2).trans rfl
  have n1_3 : w1.cell? ⟨gn, 3, none⟩ = some (.bool true) := (blk_cell N1.out 3).trans rfl
  have n1_4 : w1.cell? ⟨gn, 4, none⟩ = some (.int .u64 v) := (blk_cell N1.out 4).trans rfl
  go_wp2_with (go_at_call 29; refine (size_nil _).mono ?_; rintro e ws ⟨rfl, hws⟩; subst hws)
  refine (take_nil _).mono ?_
  rintro e w2 ⟨rfl, hb1⟩
  have N2 := Aside0.mk ((hb1.block gn (blk_lt N1.out)).trans N1.out)
  have B2 := Aside0.mk (below_step B1.out hb1)
  clear hb1
  clear n1_0 n1_1 n1_2 n1_3 n1_4
  have n2_0 : w2.cell? ⟨gn, 0, none⟩ = some (.int .i64 10) := (blk_cell N2.out 0).trans rfl
  have n2_1 : w2.cell? ⟨gn, 1, none⟩ = some (.string ⟨#[]⟩) := (blk_cell N2.out 1).trans rfl
  have n2_2 : w2.cell? ⟨gn, 2, none⟩ = some (.int .i64 ad) := (blk_cell N2.out 2).trans rfl
  have n2_3 : w2.cell? ⟨gn, 3, none⟩ = some (.bool true) := (blk_cell N2.out 3).trans rfl
  have n2_4 : w2.cell? ⟨gn, 4, none⟩ = some (.int .u64 v) := (blk_cell N2.out 4).trans rfl
  go_wp2_with fail
  refine (HO.out _).mono ?_
  rintro e w3 ⟨rfl, hb1⟩
  have N3 := Aside0.mk ((hb1.block gn (blk_lt N2.out)).trans N2.out)
  have B3 := Aside0.mk (below_step B2.out hb1)
  have lt3 := blk_lt N3.out
  have ne3 : gn ≠ w3.heap.size := Nat.ne_of_lt lt3
  clear hb1
  clear n2_0 n2_1 n2_2 n2_3 n2_4
  have n3_0 : w3.cell? ⟨gn, 0, none⟩ = some (.int .i64 10) := (blk_cell N3.out 0).trans rfl
  have n3_1 : w3.cell? ⟨gn, 1, none⟩ = some (.string ⟨#[]⟩) := (blk_cell N3.out 1).trans rfl
  have n3_2 : w3.cell? ⟨gn, 2, none⟩ = some (.int .i64 ad) := (blk_cell N3.out 2).trans rfl
  have n3_3 : w3.cell? ⟨gn, 3, none⟩ = some (.bool true) := (blk_cell N3.out 3).trans rfl
  have n3_4 : w3.cell? ⟨gn, 4, none⟩ = some (.int .u64 v) := (blk_cell N3.out 4).trans rfl
  go_wp2_with fail
  refine (HV.out _).mono ?_
  rintro e w4 ⟨rfl, hb1⟩
  have X4 := Aside0.mk ((hb1.block w3.heap.size (by simp)).trans (heap_alloc_new w3 (.cells #[.string ⟨#[]⟩, .int .i64 0, .int .u64 V] 53 (0, 0))))
  have N4 := Aside0.mk ((hb1.block gn (by simp; omega)).trans (blk_alloc N3.out (.cells #[.string ⟨#[]⟩, .int .i64 0, .int .u64 V] 53 (0, 0))))
  have B4 := Aside0.mk (below_step (below_alloc B3.out _) hb1)
  clear hb1
  clear n3_0 n3_1 n3_2 n3_3 n3_4
  have x4_0 : w4.cell? ⟨w3.heap.size, 0, none⟩ = some (.string ⟨#[]⟩) := (blk_cell X4.out 0).trans rfl
  have x4_1 : w4.cell? ⟨w3.heap.size, 1, none⟩ = some (.int .i64 0) := (blk_cell X4.out 1).trans rfl
  have x4_2 : w4.cell? ⟨w3.heap.size, 2, none⟩ = some (.int .u64 V) := (blk_cell X4.out 2).trans rfl
  have n4_0 : w4.cell? ⟨gn, 0, none⟩ = some (.int .i64 10) := (blk_cell N4.out 0).trans rfl
  have n4_1 : w4.cell? ⟨gn, 1, none⟩ = some (.string ⟨#[]⟩) := (blk_cell N4.out 1).trans rfl
  have n4_2 : w4.cell? ⟨gn, 2, none⟩ = some (.int .i64 ad) := (blk_cell N4.out 2).trans rfl
  have n4_3 : w4.cell? ⟨gn, 3, none⟩ = some (.bool true) := (blk_cell N4.out 3).trans rfl
  have n4_4 : w4.cell? ⟨gn, 4, none⟩ = some (.int .u64 v) := (blk_cell N4.out 4).trans rfl
  go_wp2_with fail
  refine (HNUM.out _).mono ?_
  rintro e w5 ⟨rfl, ⟨nd, rfl⟩⟩
  go_wp2_with fail
  refine (pooled_walk _).mono ?_
  rintro e w6 ⟨rfl, hb1⟩
  have X6 := Aside0.mk ((hb1.block _ (blk_lt X4.out)).trans X4.out)
  have N6 := Aside0.mk ((hb1.block _ (blk_lt N4.out)).trans N4.out)
  have B6 := Aside0.mk (below_step (pw_below_drewN B4.out _) hb1)
  clear hb1
  clear x4_0 x4_1 x4_2
  clear n4_0 n4_1 n4_2 n4_3 n4_4
  have x6_0 : w6.cell? ⟨w3.heap.size, 0, none⟩ = some (.string ⟨#[]⟩) := (blk_cell X6.out 0).trans rfl
  have x6_1 : w6.cell? ⟨w3.heap.size, 1, none⟩ = some (.int .i64 0) := (blk_cell X6.out 1).trans rfl
  have x6_2 : w6.cell? ⟨w3.heap.size, 2, none⟩ = some (.int .u64 V) := (blk_cell X6.out 2).trans rfl
  have n6_0 : w6.cell? ⟨gn, 0, none⟩ = some (.int .i64 10) := (blk_cell N6.out 0).trans rfl
  have n6_1 : w6.cell? ⟨gn, 1, none⟩ = some (.string ⟨#[]⟩) := (blk_cell N6.out 1).trans rfl
  have n6_2 : w6.cell? ⟨gn, 2, none⟩ = some (.int .i64 ad) := (blk_cell N6.out 2).trans rfl
  have n6_3 : w6.cell? ⟨gn, 3, none⟩ = some (.bool true) := (blk_cell N6.out 3).trans rfl
  have n6_4 : w6.cell? ⟨gn, 4, none⟩ = some (.int .u64 v) := (blk_cell N6.out 4).trans rfl
  go_wp2
  go_ret
  exact ⟨rfl, below_step BB.out (B6.out)⟩
set_option maxHeartbeats 2000000 in
set_option maxRecDepth 100000 in
theorem value_num (ad v : Int) (w : World)
    (S : ByteArray) (hS : ((S.size : Int) != 8) = false) (hS2 : ((S.size : Int) == 8) = true) (hv : ∀ w, Calls Try.prog 32 #[.agg #[.string ⟨#[]⟩, .int .i64 0, .int .u64 v]] w fun e w' => e = .returned (.tuple #[.string S, .int .i64 0]) ∧ Below w.heap.size w w')
    (hnum : ∀ w, Calls Try.prog 33 #[.string S] w fun e w' => e = .returned (.int .u64 v) ∧ Drawn0 w w')
    (ho : ∀ w, Calls Try.prog 30 #[.agg #[.int .i64 10, .string ⟨#[]⟩, .int .i64 ad, .bool false, .int .u64 v]] w fun e w' => e = .returned (.tuple #[.agg #[.string ⟨#[]⟩, .int .i64 0, .int .u64 v], .int .i64 0]) ∧ Below w.heap.size w w') :
    Calls Try.prog 12 #[.agg #[.int .i64 10, .string ⟨#[]⟩, .int .i64 ad, .bool false, .int .u64 v]] w fun e w' => e = .returned (.bool true) ∧ Below w.heap.size w w' := by
  have hu49 := Try.underlying49
  have hu53 := Try.underlying53
  have HO := Aside0.mk ho
  clear ho
  have HV := Aside0.mk hv
  have HNUM := Aside0.mk hnum
  clear hv hnum
  go_enter Try.func12, Try.ntmps12
  go_wp2_with (first | ((with_reducible refine gate_dst (N := 1) rfl ?_); refine box_event ?hg (N := 1) ?hd (cs := #[.int .i64 10, .string ⟨#[]⟩, .int .i64 ad, .bool false, .int .u64 v]) (t := 49) ?hr ?_; (case hd => rfl); (case hg => rfl); (case hr => first | (go_simp; done) | (go_simp; rfl)); intro gn hg wb hbox hb; have BB := Aside0.mk hb; have NB := Aside0.mk hbox; have nb_0 : wb.cell? ⟨gn, 0, none⟩ = some (.int .i64 10) := (blk_cell NB.out 0).trans rfl; have nb_1 : wb.cell? ⟨gn, 1, none⟩ = some (.string ⟨#[]⟩) := (blk_cell NB.out 1).trans rfl; have nb_2 : wb.cell? ⟨gn, 2, none⟩ = some (.int .i64 ad) := (blk_cell NB.out 2).trans rfl; have nb_3 : wb.cell? ⟨gn, 3, none⟩ = some (.bool false) := (blk_cell NB.out 3).trans rfl; have nb_4 : wb.cell? ⟨gn, 4, none⟩ = some (.int .u64 v) := (blk_cell NB.out 4).trans rfl; clear hb hbox hg))
  refine (put_nil ⟨10, ⟨#[]⟩, ad, false, v⟩ _).mono ?_
  rintro e w1 ⟨rfl, hb1⟩
  have N1 := Aside0.mk ((hb1.block gn (blk_lt NB.out)).trans NB.out)
  have B1 := Aside0.mk hb1
  clear hb1
  clear nb_0 nb_1 nb_2 nb_3 nb_4
  have n1_0 : w1.cell? ⟨gn, 0, none⟩ = some (.int .i64 10) := (blk_cell N1.out 0).trans rfl
  have n1_1 : w1.cell? ⟨gn, 1, none⟩ = some (.string ⟨#[]⟩) := (blk_cell N1.out 1).trans rfl
  have n1_2 : w1.cell? ⟨gn, 2, none⟩ = some (.int .i64 ad) := (blk_cell N1.out 2).trans rfl
  have n1_3 : w1.cell? ⟨gn, 3, none⟩ = some (.bool false) := (blk_cell N1.out 3).trans rfl
  have n1_4 : w1.cell? ⟨gn, 4, none⟩ = some (.int .u64 v) := (blk_cell N1.out 4).trans rfl
  go_wp2_with (go_at_call 29; refine (size_nil _).mono ?_; rintro e ws ⟨rfl, hws⟩; subst hws)
  refine (take_nil _).mono ?_
  rintro e w2 ⟨rfl, hb1⟩
  have N2 := Aside0.mk ((hb1.block gn (blk_lt N1.out)).trans N1.out)
  have B2 := Aside0.mk (below_step B1.out hb1)
  clear hb1
  clear n1_0 n1_1 n1_2 n1_3 n1_4
  have n2_0 : w2.cell? ⟨gn, 0, none⟩ = some (.int .i64 10) := (blk_cell N2.out 0).trans rfl
  have n2_1 : w2.cell? ⟨gn, 1, none⟩ = some (.string ⟨#[]⟩) := (blk_cell N2.out 1).trans rfl
  have n2_2 : w2.cell? ⟨gn, 2, none⟩ = some (.int .i64 ad) := (blk_cell N2.out 2).trans rfl
  have n2_3 : w2.cell? ⟨gn, 3, none⟩ = some (.bool false) := (blk_cell N2.out 3).trans rfl
  have n2_4 : w2.cell? ⟨gn, 4, none⟩ = some (.int .u64 v) := (blk_cell N2.out 4).trans rfl
  go_wp2_with fail
  refine (HO.out _).mono ?_
  rintro e w3 ⟨rfl, hb1⟩
  have N3 := Aside0.mk ((hb1.block gn (blk_lt N2.out)).trans N2.out)
  have B3 := Aside0.mk (below_step B2.out hb1)
  have lt3 := blk_lt N3.out
  have ne3 : gn ≠ w3.heap.size := Nat.ne_of_lt lt3
  clear hb1
  clear n2_0 n2_1 n2_2 n2_3 n2_4
  have n3_0 : w3.cell? ⟨gn, 0, none⟩ = some (.int .i64 10) := (blk_cell N3.out 0).trans rfl
  have n3_1 : w3.cell? ⟨gn, 1, none⟩ = some (.string ⟨#[]⟩) := (blk_cell N3.out 1).trans rfl
  have n3_2 : w3.cell? ⟨gn, 2, none⟩ = some (.int .i64 ad) := (blk_cell N3.out 2).trans rfl
  have n3_3 : w3.cell? ⟨gn, 3, none⟩ = some (.bool false) := (blk_cell N3.out 3).trans rfl
  have n3_4 : w3.cell? ⟨gn, 4, none⟩ = some (.int .u64 v) := (blk_cell N3.out 4).trans rfl
  go_wp2_with fail
  refine (HV.out _).mono ?_
  rintro e w4 ⟨rfl, hb1⟩
  have X4 := Aside0.mk ((hb1.block w3.heap.size (by simp)).trans (heap_alloc_new w3 (.cells #[.string ⟨#[]⟩, .int .i64 0, .int .u64 v] 53 (0, 0))))
  have N4 := Aside0.mk ((hb1.block gn (by simp; omega)).trans (blk_alloc N3.out (.cells #[.string ⟨#[]⟩, .int .i64 0, .int .u64 v] 53 (0, 0))))
  have B4 := Aside0.mk (below_step (below_alloc B3.out _) hb1)
  clear hb1
  clear n3_0 n3_1 n3_2 n3_3 n3_4
  have x4_0 : w4.cell? ⟨w3.heap.size, 0, none⟩ = some (.string ⟨#[]⟩) := (blk_cell X4.out 0).trans rfl
  have x4_1 : w4.cell? ⟨w3.heap.size, 1, none⟩ = some (.int .i64 0) := (blk_cell X4.out 1).trans rfl
  have x4_2 : w4.cell? ⟨w3.heap.size, 2, none⟩ = some (.int .u64 v) := (blk_cell X4.out 2).trans rfl
  have n4_0 : w4.cell? ⟨gn, 0, none⟩ = some (.int .i64 10) := (blk_cell N4.out 0).trans rfl
  have n4_1 : w4.cell? ⟨gn, 1, none⟩ = some (.string ⟨#[]⟩) := (blk_cell N4.out 1).trans rfl
  have n4_2 : w4.cell? ⟨gn, 2, none⟩ = some (.int .i64 ad) := (blk_cell N4.out 2).trans rfl
  have n4_3 : w4.cell? ⟨gn, 3, none⟩ = some (.bool false) := (blk_cell N4.out 3).trans rfl
  have n4_4 : w4.cell? ⟨gn, 4, none⟩ = some (.int .u64 v) := (blk_cell N4.out 4).trans rfl
  go_wp2_with fail
  refine (HNUM.out _).mono ?_
  rintro e w5 ⟨rfl, ⟨nd, rfl⟩⟩
  go_wp2_with fail
  refine (pooled_walk _).mono ?_
  rintro e w6 ⟨rfl, hb1⟩
  have X6 := Aside0.mk ((hb1.block _ (blk_lt X4.out)).trans X4.out)
  have N6 := Aside0.mk ((hb1.block _ (blk_lt N4.out)).trans N4.out)
  have B6 := Aside0.mk (below_step (pw_below_drewN B4.out _) hb1)
  clear hb1
  clear x4_0 x4_1 x4_2
  clear n4_0 n4_1 n4_2 n4_3 n4_4
  have x6_0 : w6.cell? ⟨w3.heap.size, 0, none⟩ = some (.string ⟨#[]⟩) := (blk_cell X6.out 0).trans rfl
  have x6_1 : w6.cell? ⟨w3.heap.size, 1, none⟩ = some (.int .i64 0) := (blk_cell X6.out 1).trans rfl
  have x6_2 : w6.cell? ⟨w3.heap.size, 2, none⟩ = some (.int .u64 v) := (blk_cell X6.out 2).trans rfl
  have n6_0 : w6.cell? ⟨gn, 0, none⟩ = some (.int .i64 10) := (blk_cell N6.out 0).trans rfl
  have n6_1 : w6.cell? ⟨gn, 1, none⟩ = some (.string ⟨#[]⟩) := (blk_cell N6.out 1).trans rfl
  have n6_2 : w6.cell? ⟨gn, 2, none⟩ = some (.int .i64 ad) := (blk_cell N6.out 2).trans rfl
  have n6_3 : w6.cell? ⟨gn, 3, none⟩ = some (.bool false) := (blk_cell N6.out 3).trans rfl
  have n6_4 : w6.cell? ⟨gn, 4, none⟩ = some (.int .u64 v) := (blk_cell N6.out 4).trans rfl
  go_wp2
  go_ret
  exact ⟨rfl, below_step BB.out (B6.out)⟩

theorem number_int (v : Int) (h0 : 0 ≤ v) (h1 : v < 18446744073709551616) : cleatref07_Number.f 100 (strOfNums (bytes8 v)) = some v := by
  obtain ⟨n, rfl⟩ : ∃ n : Nat, v = (n : Int) := ⟨v.toNat, by omega⟩
  exact number_ok n (by omega)
theorem val_of (x : S53) (S : ByteArray) (h : valF x = (S, 0)) (w : World) : Calls Try.prog 32 #[.agg #[.string x.f0, .int .i64 x.f1, .int .u64 x.f2]] w fun e w' => e = .returned (.tuple #[.string S, .int .i64 0]) ∧ Below w.heap.size w w' := by
  have := val_walk x w
  rw [h] at this
  exact this
theorem size8 (v : Int) : (((strOfNums (bytes8 v)).size : Int) != 8) = false ∧ (((strOfNums (bytes8 v)).size : Int) == 8) = true := by
  rw [bytes8_size]
  exact ⟨by decide, by decide⟩
theorem wf_u64 {a : Int} (h : (Lit.int .u64 a).wf = true) : 0 ≤ a ∧ a < 18446744073709551616 := by
  have h' : IntKind.u64.min ≤ a ∧ a ≤ IntKind.u64.max := by simpa [Lit.wf] using h
  have e1 : IntKind.u64.min = 0 := by decide
  have e2 : IntKind.u64.max = 18446744073709551615 := by decide
  omega
theorem empty_of {s : ByteArray} (h : s.toList.isEmpty = true) : s = ⟨#[]⟩ := by
  apply toList_inj
  rw [List.isEmpty_iff.mp h]
  exact (List.isEmpty_iff.mp emptyList).symm
where emptyList : (⟨#[]⟩ : ByteArray).toList.isEmpty = true := by kernel_rfl

/-- Whatever need. -/
theorem value_walk (n : S49) (w : World) (hn : WfN n) :
    Calls Try.prog 12 #[.agg #[.int .i64 n.f0, .string n.f1, .int .i64 n.f2, .bool n.f3, .int .u64 n.f4]] w fun e w' => e = .returned (.bool true) ∧ Below w.heap.size w w' := by
  by_cases c1 : 100 < n.f1.size
  · exact value_long n w c1
  obtain ⟨kd, s, ad, mi, v⟩ := n
  obtain ⟨_, _, h3⟩ := hn
  have hs : s.size ≤ 100 := Nat.le_of_not_lt c1
  by_cases h0 : (kd != 10) = true
  · exact value_err kd s ad mi v w hs (fun w => of_kind kd s ad mi v w h0 (by simpa using h0))
  obtain rfl : kd = 10 := by simpa using h0
  by_cases h1 : s.toList.isEmpty = true
  · obtain rfl := empty_of h1
    cases mi with
    | true =>
      obtain ⟨b1, b2⟩ : 0 ≤ IntKind.u64.wrap (-v) ∧ IntKind.u64.wrap (-v) < 18446744073709551616 := by rw [wrap_u64]; omega
      exact value_minus ad v (IntKind.u64.wrap (-v)) w (by rw [wrap_u64, wrap_u64]; exact beq_iff_eq.mpr (by omega)) (strOfNums (bytes8 (IntKind.u64.wrap (-v)))) (size8 _).1 (size8 _).2
        (fun w => val_of ⟨⟨#[]⟩, 0, IntKind.u64.wrap (-v)⟩ _ (by unfold valF; rw [if_pos h1, if_neg (show ¬ ((0 : Int) != 0) = true by decide)]) w) (fun w => cleatref07_Number.calls 100 _ _ w (number_int _ b1 b2)) (fun w => of_minus ⟨#[]⟩ ad v w h1)
    | false =>
      obtain ⟨b1, b2⟩ := wf_u64 h3
      exact value_num ad v w (strOfNums (bytes8 v)) (size8 _).1 (size8 _).2
        (fun w => val_of ⟨⟨#[]⟩, 0, v⟩ _ (by unfold valF; rw [if_pos h1, if_neg (show ¬ ((0 : Int) != 0) = true by decide)]) w) (fun w => cleatref07_Number.calls 100 _ _ w (number_int _ b1 b2)) (fun w => of_num ⟨#[]⟩ ad v w h1)
  have h1' : s.toList.isEmpty = false := Bool.eq_false_iff.mpr h1
  by_cases h2 : (v != 0) = true
  · exact value_err 10 s ad mi v w hs (fun w => of_badv s ad mi v w h1' h2 (by simpa using h2))
  obtain rfl : v = 0 := by simpa using h2
  cases mi with
  | true => exact value_err 10 s ad true 0 w hs (fun w => of_badm s ad w h1')
  | false =>
    exact value_sym s ad w hs h1' (strOfNums (bytes8 0)) (size8 _).1 (size8 _).2
      (fun w => val_of ⟨s, ad, 0⟩ _ (by unfold valF; rw [if_neg h1, if_neg (show ¬ ((0 : Int) != 0) = true by decide)]) w) (fun w => cleatref07_Number.calls 100 _ _ w (number_int _ (by decide) (by decide))) (fun w => of_sym s ad w h1')
end Go.Proofs.Ytcfejagfognipaa.Po
