/-
  The walk of row.add: a new literal is laid behind all others. Condition: the pool stands, it does not have the literal, and has room.
-/
import Derived.Test.YtcfejagfognipaaPoB
import Derived.WalkKit
import Derived.BigQuiet
import Derived.Carry
import Derived.StillTailTactics
import Derived.Deep.RegionLaw
import Derived.Deep.DeepCutAuto
import Derived.WalkSpells
namespace Go.Proofs.Ytcfejagfognipaa.Po
open Go.RowKit Go.Proofs.YtcfejagfognipaaW.PrintWords Go.Proofs.YtcfejagfognipaaW.PrintLast Go.Proofs.YtcfejagfognipaaW.PrintMore
set_option linter.unusedVariables false
set_option linter.unusedSimpArgs false

theorem info53 : (Try.prog.info? 53).map (fun i => (i.zero, i.size, i.bytes)) = some (some (.agg #[.string ⟨#[]⟩, .int .i64 0, .int .u64 0]), 3, 32) := by kernel_rfl

set_option maxHeartbeats 2000000 in
set_option maxRecDepth 100000 in
theorem add_walk {w : World} {g : Nat} {ok : Nat → Prop} {sl : Value} {mo : Option Nat} {L : List S53} (h : PoolAt w g ok sl mo L) {x : S53} (hx : Wf x) (hn : x ∉ L) (hl : L.length < 64) (hfresh : ∀ k, w.heap.size ≤ k → ok k) :
    Calls Try.prog 39 #[.pointer (some ⟨g, 0, none⟩), .agg #[.string x.f0, .int .i64 x.f1, .int .u64 x.f2]] w fun e w' => e = .returned (.int .i64 (L.length : Int)) ∧ (∃ sl' mo', PoolAt w' g ok sl' mo' (L ++ [x])) ∧ Stays ok w w' := by
  obtain ⟨A, cc, rfl⟩ := Kd.R_slice h.row
  have hu53 := Try.underlying53
  have hu71 := Try.underlying71
  have hc0 : w.cell? ⟨g, 0, none⟩ = some (.slice A L.length cc) := (blk_cell h.blk 0).trans rfl
  have hc1 : w.cell? ⟨g, 1, none⟩ = some (.map mo) := (blk_cell h.blk 1).trans rfl
  have hf0 := blk_frozen h.blk 0
  have hf1 := blk_frozen h.blk 1
  have hlt := blk_lt h.blk
  have hne : g ≠ w.heap.size := by omega
  have hmm := @run_makeMap Try.prog
  have hem := fun (w : World) (r : Option Nat) => Go.run_eql_map_nil (P := Try.prog) w 71 53 3 r Try.underlying71
  have HP := Aside0.mk h
  have HX := Aside0.mk hx
  have HN := Aside0.mk hn
  have HL := Aside0.mk hl
  have HF := Aside0.mk hfresh
  clear h hx hn hl hfresh
  go_enter Try.func39, Try.ntmps39
  go_upto_if 15 with (fail)
  go_cut [16] (fun v16 wc => ∃ b, Aside0 (wc.heap[w.heap.size]? = some (.cells #[.string x.f0, .int .i64 x.f1, .int .u64 x.f2] 53 (0, 0))) ∧ Aside0 (PoolAt wc g ok (.slice A L.length cc) (some b) L) ∧ Aside0 (Stays ok w wc))
  case first =>
    rcases HP.out.map with ⟨rfl, rfl⟩ | ⟨b, rfl, hm⟩
    · go_wp2
      go_meet
      case rel =>
        have h := HP.out
        have es : (w.setCell ⟨g, 1, none⟩ (.map (some (w.heap.size + 1)))).heap.size = w.heap.size := by simp
        refine ⟨w.heap.size + 1, ⟨?_⟩, ⟨⟨h.okg, ?_, ?_, .inr ⟨_, rfl, HF.out _ (by omega), 0, .map [], ?_, Nat.zero_le _, ?_, ?_⟩, h.wf, h.len⟩⟩, ⟨(((Stays.refl ok w).set (p := ⟨g, 1, none⟩) h.okg _).alloc _).alloc _⟩⟩
        · refine blk_alloc ?_ _
          have := heap_alloc_new (w.setCell ⟨g, 1, none⟩ (.map (some (w.heap.size + 1)))) (.cells #[.string x.f0, .int .i64 x.f1, .int .u64 x.f2] 53 (0, 0))
          rw [es] at this
          exact this
        · exact blk_alloc (blk_alloc (blk_put h.blk 1 _ rfl) _) _
        · exact Kd.R_alloc (Kd.R_alloc (Kd.R_set h.row h.blk (by decide) 1 _) _) _
        · have := World.ownsMap_made (H := Unit) ((w.setCell ⟨g, 1, none⟩ (.map (some (w.heap.size + 1)))).alloc (.cells #[.string x.f0, .int .i64 x.f1, .int .u64 x.f2] 53 (0, 0))) Try.prog 53 (plainElem Try.prog 3)
          have es2 : ((w.setCell ⟨g, 1, none⟩ (.map (some (w.heap.size + 1)))).alloc (.cells #[.string x.f0, .int .i64 x.f1, .int .u64 x.f2] 53 (0, 0))).heap.size = w.heap.size + 1 := by simp
          rw [es2] at this
          exact this
        · intro y _
          simp [Maps.has_eq]
        · intro i y _ hi
          simp at hi
    · go_wp2
      go_meet
      case rel =>
        have h := HP.out
        exact ⟨b, ⟨heap_alloc_new _ _⟩, ⟨h.below (below_alloc (Below.refl _ _) _)⟩, ⟨(Stays.refl ok w).alloc _⟩⟩
  case rest =>
    obtain ⟨b, BK, HP2, HS⟩ := hcut
    have h2 := HP2.out
    have hc0' : wc.cell? ⟨g, 0, none⟩ = some (.slice A L.length cc) := (blk_cell h2.blk 0).trans rfl
    have hc1' : wc.cell? ⟨g, 1, none⟩ = some (.map (some b)) := (blk_cell h2.blk 1).trans rfl
    have hf0' := blk_frozen h2.blk 0
    have hf1' := blk_frozen h2.blk 1
    have hb0 : wc.cell? ⟨w.heap.size, 0, none⟩ = some (.string x.f0) := (blk_cell BK.out 0).trans rfl
    have hb1 : wc.cell? ⟨w.heap.size, 1, none⟩ = some (.int .i64 x.f1) := (blk_cell BK.out 1).trans rfl
    have hb2 : wc.cell? ⟨w.heap.size, 2, none⟩ = some (.int .u64 x.f2) := (blk_cell BK.out 2).trans rfl
    clear h2 hc0 hc1 hf0 hf1
    go_wp2
    go_still_tail 6, (by kernel_rfl)
    obtain ⟨n, D, hown, hle, hhas, hat⟩ : ∃ n D, wc.ownsMap (H := Unit) Try.prog 53 (plainElem Try.prog 3) b n D ∧ n ≤ L.length ∧ (∀ y, Wf y → (Maps.has D y.key = true ↔ y ∈ L)) ∧ (∀ (i : Nat) y, Wf y → L[i]? = some y → ∀ z, D.atKey y.key z = .lit (.int .i64 (i : Int))) := by
      rcases HP2.out.map with ⟨h, _⟩ | ⟨b', hb', hm⟩
      · cases h
      · cases hb'
        exact hm.own
    refine wpList_mapUpdate_own _ rfl _ _ _ 71 rfl 53 3 law53 Try.underlying71 _ b n D rfl hown.drew (by have := HL.out; unfold maxLen; omega) _ _ x.key rfl rfl (key_of x HX.out) (.lit (.int .i64 (L.length : Int))) [] (plainElem_int Try.underlying3 (wf_small _ (by have := HL.out; omega))) ?_
    intro w1 hown1 hgrow1
    have hm : MapAt wc ok b L := by
      rcases HP2.out.map with ⟨h, _⟩ | ⟨b', hb', hm⟩
      · cases h
      · cases hb'
        exact hm
    obtain ⟨es, clock, hmb⟩ := map_block hm
    have neg : g ≠ b := fun e => map_ne hm HP2.out.blk e.symm
    have nex : w.heap.size ≠ b := fun e => map_ne hm BK.out e.symm
    have BX := Aside0.mk (blk_grown (w := wc.drew) BK.out hgrow1 (fun e => nex (Option.some.inj e)))
    have BG := Aside0.mk (blk_grown (w := wc.drew) HP2.out.blk hgrow1 (fun e => neg (Option.some.inj e)))
    have HR := Aside0.mk (Kd.R_drop (ok' := fun k => k ≠ b) (Kd.R_grown (w := wc.drew) (row_notmap HP2.out.row hmb) hgrow1 (fun k hk e => hk.2 (Option.some.inj e))))
    have HM := Aside0.mk (map_put (w1 := w1) hm HX.out HN.out hle hhas hat (owns_isMap hown) hown1)
    have HS1 := Aside0.mk ((HS.out.drew).grow1 hgrow1 (fun k e => by obtain rfl := Option.some.inj e; exact hm.okb))
    have HF1 := Aside0.mk (fun k (hk : w1.heap.size ≤ k) => HF.out k (Nat.le_trans HS1.out.size hk))
    have hc0 : w1.cell? ⟨g, 0, none⟩ = some (.slice A L.length cc) := (blk_cell BG.out 0).trans rfl
    have hf0 := blk_frozen BG.out 0
    have hb0 : w1.cell? ⟨w.heap.size, 0, none⟩ = some (.string x.f0) := (blk_cell BX.out 0).trans rfl
    have hb1 : w1.cell? ⟨w.heap.size, 1, none⟩ = some (.int .i64 x.f1) := (blk_cell BX.out 1).trans rfl
    have hb2 : w1.cell? ⟨w.heap.size, 2, none⟩ = some (.int .u64 x.f2) := (blk_cell BX.out 2).trans rfl
    have hlt1 := blk_lt BG.out
    have hlt2 := blk_lt BX.out
    have hne1 : g ≠ w1.heap.size := by omega
    have hne2 : w.heap.size ≠ w1.heap.size := by omega
    clear hown hown1 hgrow1 hhas hat hm hmb neg nex hle hc0' hc1' hf0' hf1' hmm hem
    go_wp2
    try simp only [Act.put]
    go_region_law ((refine Kd.R_append_step k53 (w0 := w1) (W := w1.drew) 0 rfl (.tmp 30) (.tmp 32) 56 53 (.agg #[.string ⟨#[]⟩, .int .i64 0, .int .u64 0]) 32 rfl Try.underlying56 info53 rfl (by decide) (by decide) (.slice A L.length cc) L x [.string x.f0, .int .i64 x.f1, .int .u64 x.f2] ok (fun _ => False) rfl rfl (k53_mkM _ _ _ _) (fun _ hk => hk.elim) HF1.out (Kd.R_drew HR.out) (Below.refl _ _).drew (Nat.zero_le _) (by have := HL.out; omega) ?_); intro v1 w2 hr hb hg hat; obtain ⟨A1, c1, e1⟩ := Kd.R_slice hr; subst e1; have HR2 := Aside0.mk hr; have BG2 := Aside0.mk (blk_grown (w := w1.drew) BG.out hg (Kd.R_ne HR.out BG.out (by decide))); have HG2 := Aside0.mk hg; have hc2 : w2.cell? ⟨g, 0, none⟩ = some (.slice A L.length cc) := (blk_cell BG2.out 0).trans rfl; have hf2 := blk_frozen BG2.out 0; clear hr hb hg hat)
    all_goals
      obtain ⟨es1, clock1, hmb1⟩ := map_block HM.out
      have hown : ∀ k, (Value.slice A L.length cc).ownBlock = some k → ok k ∧ k ≠ b := (row_notmap HR.out hmb1).1
      have HM2 : w2.heap[b]? = w1.heap[b]? := HG2.out.block b HM.out.lt (fun e => (hown b e.symm).2 rfl)
      have HS2 : Stays ok w w2 := (HS1.out.drew).grow1 HG2.out (fun k e => (hown k e).1)
      go_wp2
      go_ret
      refine ⟨rfl, ⟨_, some b, HP2.out.okg, blk_put BG2.out 0 _ rfl, ?_, .inr ⟨b, rfl, HM.out.move ((Below.heap_setCell _ _ _ _ (fun e => ?_)).trans HM2) HM.out.okb⟩, ?_, ?_⟩, HS2.set (p := ⟨g, 0, none⟩) HP2.out.okg _⟩
      · have hs := Kd.R_set HR2.out BG2.out (by decide) 0 (.slice A1 (L.length + 1) c1)
        have e : (L ++ [x]).length = L.length + 1 := by simp
        rw [e] at hs
        exact hs
      · exact map_ne HM.out BG.out e
      · intro y hy
        rcases List.mem_append.mp hy with hy | hy
        · exact HP2.out.wf y hy
        · have := List.mem_singleton.mp hy
          subst this
          exact HX.out
      · have := HL.out
        simp
        omega
end Go.Proofs.Ytcfejagfognipaa.Po
