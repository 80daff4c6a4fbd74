/-
  What a pool is in memory, and what stays of it. No condition.
-/
import Derived.Test.YtcfejagfognipaaPoA
import Derived.Below
namespace Go.Proofs.Ytcfejagfognipaa.Po
open Go.RowKit Go.Proofs.YtcfejagfognipaaW.PrintWords Go.Proofs.YtcfejagfognipaaW.PrintLast Go.Proofs.YtcfejagfognipaaW.PrintMore
open Go.Maps (Keyed)

/-- What a block of a world is, as a map: the places of literals. -/
structure MapAt (w : World) (ok : Nat → Prop) (b : Nat) (L : List S53) : Prop where
  okb : ok b
  own : ∃ (n : Nat) (D : DataW Unit), w.ownsMap Try.prog 53 (plainElem Try.prog 3) b n D ∧ n ≤ L.length ∧ (∀ x, Wf x → (Maps.has D x.key = true ↔ x ∈ L)) ∧
    (∀ (i : Nat) x, Wf x → L[i]? = some x → ∀ z, D.atKey x.key z = .lit (.int .i64 (i : Int)))
def MapIs (w : World) (ok : Nat → Prop) (mo : Option Nat) (L : List S53) : Prop := (mo = none ∧ L = []) ∨ ∃ b, mo = some b ∧ MapAt w ok b L

/-- A pool: its block, its row, its map. -/
structure PoolAt (w : World) (g : Nat) (ok : Nat → Prop) (sl : Value) (mo : Option Nat) (L : List S53) : Prop where
  okg : ok g
  blk : w.heap[g]? = some (.cells #[sl, .map mo] 75 (0, 0))
  row : Kd.R k53 53 w 0 ok sl L
  map : MapIs w ok mo L
  wf : ∀ x ∈ L, Wf x
  len : L.length ≤ 64

/-- The world outside 'ok' stays. -/
structure Stays (ok : Nat → Prop) (w w' : World) : Prop where
  os : w'.os = w.os
  tape : w'.tape = w.tape
  output : w'.output = w.output
  size : w.heap.size ≤ w'.heap.size
  block : ∀ k, k < w.heap.size → ¬ ok k → w'.heap[k]? = w.heap[k]?

theorem Stays.refl (ok : Nat → Prop) (w : World) : Stays ok w w := ⟨rfl, rfl, rfl, Nat.le_refl _, fun _ _ _ => rfl⟩
theorem Stays.trans {ok : Nat → Prop} {a b c : World} (h : Stays ok a b) (k : Stays ok b c) : Stays ok a c :=
  ⟨k.os.trans h.os, k.tape.trans h.tape, k.output.trans h.output, Nat.le_trans h.size k.size, fun i hi hn => (k.block i (Nat.lt_of_lt_of_le hi h.size) hn).trans (h.block i hi hn)⟩
theorem Stays.of_below {ok : Nat → Prop} {w w' : World} (h : Below w.heap.size w w') : Stays ok w w' := ⟨h.os, h.tape, h.output, h.size, fun k hk _ => h.block k hk⟩
theorem Stays.below {ok : Nat → Prop} {B : Nat} {w w' : World} (h : Stays ok w w') (hB : B ≤ w.heap.size) (hok : ∀ k, ok k → B ≤ k) : Below B w w' :=
  ⟨h.os, h.tape, h.output, h.size, fun k hk => h.block k (by omega) (fun ho => by have := hok k ho; omega)⟩
theorem Stays.set {ok : Nat → Prop} {w w' : World} (h : Stays ok w w') {p : Addr} (hp : ok p.block) (u : Value) : Stays ok w (w'.setCell p u) := by
  have hb : Below p.block w' (w'.setCell p u) := (Below.refl _ _).setCell (Nat.le_refl _) u
  exact h.trans ⟨hb.os, hb.tape, hb.output, hb.size, fun k _ hn => Below.heap_setCell _ _ _ _ (fun e => hn (e ▸ hp))⟩
theorem Stays.grown {ok : Nat → Prop} {w w' w1 : World} {row : Option Nat} (h : Stays ok w w') (hb : Below 0 w' w1) (hg : w'.grownBy w1 row) (hok : ∀ k, row = some k → ok k) : Stays ok w w1 :=
  h.trans ⟨hb.os, hb.tape, hb.output, hb.size, fun k hk hn => hg.block k hk (fun e => hn (hok k e.symm))⟩
theorem Stays.grow1 {ok : Nat → Prop} {w w' w1 : World} {row : Option Nat} (h : Stays ok w w') (hg : w'.grownBy w1 row) (hok : ∀ k, row = some k → ok k) : Stays ok w w1 :=
  h.grown ((Below.refl 0 _).grown hg (Nat.zero_le _) (fun _ _ => Nat.zero_le _)) hg hok
theorem Stays.alloc {ok : Nat → Prop} {w w' : World} (h : Stays ok w w') (o : Obj) : Stays ok w (w'.alloc o) := h.trans (Stays.of_below (below_alloc (Below.refl _ _) o))
theorem Stays.drewN {ok : Nat → Prop} {w w' : World} (h : Stays ok w w') (n : Nat) : Stays ok w (w'.drewN n) := h.trans (Stays.of_below (pw_below_drewN (Below.refl _ _) n))
theorem Stays.drew {ok : Nat → Prop} {w w' : World} (h : Stays ok w w') : Stays ok w w'.drew := h.trans (Stays.of_below (below_drew (Below.refl _ _)))
theorem Stays.mono {ok ok' : Nat → Prop} {w w' : World} (h : Stays ok w w') (hk : ∀ k, k < w.heap.size → ok k → ok' k) : Stays ok' w w' := ⟨h.os, h.tape, h.output, h.size, fun k hlt hn => h.block k hlt (fun ho => hn (hk k hlt ho))⟩

theorem owns_move {w w1 : World} {b n : Nat} {D : DataW Unit} (h : w.ownsMap Try.prog 53 (plainElem Try.prog 3) b n D) (hb : w1.heap[b]? = w.heap[b]?) : w1.ownsMap Try.prog 53 (plainElem Try.prog 3) b n D := by
  obtain ⟨es, clock, hc, F, hs, hD⟩ := h
  exact ⟨es, clock, hb.trans hc, F, hs, hD⟩
theorem MapAt.lt {w : World} {ok : Nat → Prop} {b : Nat} {L : List S53} (h : MapAt w ok b L) : b < w.heap.size := by
  obtain ⟨n, D, ho, _⟩ := h.own
  exact ho.lt
theorem MapAt.move {w w1 : World} {ok ok1 : Nat → Prop} {b : Nat} {L : List S53} (h : MapAt w ok b L) (hb : w1.heap[b]? = w.heap[b]?) (hk : ok1 b) : MapAt w1 ok1 b L := by
  obtain ⟨n, D, ho, h1, h2, h3⟩ := h.own
  exact ⟨hk, n, D, owns_move ho hb, h1, h2, h3⟩
theorem MapIs.move {w w1 : World} {ok : Nat → Prop} {mo : Option Nat} {L : List S53} (h : MapIs w ok mo L) (hb : ∀ b, mo = some b → b < w.heap.size → w1.heap[b]? = w.heap[b]?) : MapIs w1 ok mo L := by
  rcases h with h | ⟨b, rfl, h⟩
  · exact .inl h
  · exact .inr ⟨b, rfl, h.move (hb b rfl h.lt) h.okb⟩
theorem MapIs.below {w w1 : World} {ok : Nat → Prop} {mo : Option Nat} {L : List S53} (h : MapIs w ok mo L) (hb : Below w.heap.size w w1) : MapIs w1 ok mo L := h.move fun b _ hlt => hb.block b hlt

theorem zero3 (w : World) : (zeroValue 3).run Try.prog w = .ok (.int .i64 0) w := by kernel_rfl

theorem mem_at {L : List S53} {i : Nat} {x : S53} (h : L[i]? = some x) : x ∈ L := List.mem_of_getElem? h

/-- The map finds a literal's place. -/
theorem look_found {w : World} {ok : Nat → Prop} {mo : Option Nat} {L : List S53} (h : MapIs w ok mo L) {x : S53} (hx : Wf x) {i : Nat} (hi : L[i]? = some x) :
    (Instr.lookup 71 (.map mo) x.val true).run Try.prog w = .ok (.tuple #[.int .i64 (i : Int), .bool true]) w := by
  rcases h with ⟨_, rfl⟩ | ⟨b, rfl, hm⟩
  · simp at hi
  · obtain ⟨n, D, ho, _, hhas, hat⟩ := hm.own
    obtain ⟨v, ps, hrun, hv⟩ := ho.look_ok law53 Try.underlying71 (zero3 w) (plainElem_int Try.underlying3 (by decide)) (key_of x hx)
    rw [hat i x hx hi] at hv
    obtain ⟨c, rfl, hc, _⟩ := plainElem_int_inv Try.underlying3 hv
    simp only [Prod.mk.injEq, DataW.lit.injEq, Lit.int.injEq, true_and] at hc
    rw [hrun, (hhas x hx).2 (mem_at hi), hc.1]
theorem look_none {w : World} {ok : Nat → Prop} {mo : Option Nat} {L : List S53} (h : MapIs w ok mo L) {x : S53} (hx : Wf x) (hn : x ∉ L) :
    (Instr.lookup 71 (.map mo) x.val true).run Try.prog w = .ok (.tuple #[.int .i64 0, .bool false]) w := by
  rcases h with ⟨rfl, _⟩ | ⟨b, rfl, hm⟩
  · rw [Maps.look_nil true law53 Try.underlying71 (zero3 w) (key_of x hx)]; rfl
  · obtain ⟨n, D, ho, _, hhas, hat⟩ := hm.own
    have hf : Maps.has D x.key = false := by
      cases hb : Maps.has D x.key with
      | false => rfl
      | true => exact absurd ((hhas x hx).1 hb) hn
    obtain ⟨v, ps, hrun, hv⟩ := ho.look_ok law53 Try.underlying71 (zero3 w) (plainElem_int Try.underlying3 (by decide)) (key_of x hx)
    rw [Maps.atKey_of_not_has hf] at hv
    obtain ⟨c, rfl, hc, _⟩ := plainElem_int_inv Try.underlying3 hv
    simp only [Prod.mk.injEq, DataW.lit.injEq, Lit.int.injEq, true_and] at hc
    rw [hrun, hf, hc.1]

theorem owns_isMap {w : World} {b n : Nat} {D : DataW Unit} (h : w.ownsMap Try.prog 53 (plainElem Try.prog 3) b n D) : Maps.IsMap D := by
  obtain ⟨_, _, _, _, _, rfl⟩ := h
  exact ⟨_, rfl⟩

/-- A new literal laid into the map. -/
theorem map_put {w w1 : World} {ok : Nat → Prop} {b : Nat} {L : List S53} (h : MapAt w ok b L) {x : S53} (hx : Wf x) (hn : x ∉ L) {n : Nat} {D : DataW Unit}
    (hle : n ≤ L.length) (hhas : ∀ y, Wf y → (Maps.has D y.key = true ↔ y ∈ L)) (hat : ∀ (i : Nat) y, Wf y → L[i]? = some y → ∀ z, D.atKey y.key z = .lit (.int .i64 (i : Int)))
    (hD : Maps.IsMap D) (ho : w1.ownsMap Try.prog 53 (plainElem Try.prog 3) b (n + 1) (D.put x.key (.lit (.int .i64 (L.length : Int))))) : MapAt w1 ok b (L ++ [x]) := by
  refine ⟨h.okb, n + 1, _, ho, by simp; omega, fun y hy => ?_, fun i y hy hi z => ?_⟩
  · by_cases e : y = x
    · subst e
      simp [Maps.has_put_same hD (key_isKey hy)]
    · have hk : y.key ≠ x.key := fun hk => e (key_inj hy hx hk)
      rw [Maps.has_put_other hk, hhas y hy]
      simp [e]
  · by_cases e : y = x
    · subst e
      rw [Maps.atKey_put_same hD (key_isKey hy)]
      have : i = L.length := by
        by_cases hlt : i < L.length
        · rw [List.getElem?_append_left hlt] at hi
          exact absurd (mem_at hi) hn
        · have := (List.getElem?_eq_some_iff.1 hi).1
          simp at this
          omega
      rw [this]
    · have hk : y.key ≠ x.key := fun hk => e (key_inj hy hx hk)
      rw [Maps.atKey_put_other hk]
      by_cases hlt : i < L.length
      · rw [List.getElem?_append_left hlt] at hi
        exact hat i y hy hi z
      · have hl := (List.getElem?_eq_some_iff.1 hi).1
        rw [List.getElem?_append_right (by omega)] at hi
        simp at hl
        rw [show i - L.length = 0 by omega] at hi
        simp at hi
        exact absurd hi.symm e

/-- The row of a pool lies apart from its map. -/
theorem row_notmap {w : World} {base : Nat} {ok : Nat → Prop} {sl : Value} {L : List S53} (h : Kd.R k53 53 w base ok sl L) {b : Nat} {es : Array MapEntry} {clock : Nat} (hb : w.heap[b]? = some (.map es clock)) : Kd.R k53 53 w base (fun k => ok k ∧ k ≠ b) sl L :=
  Kd.R_mono (Kd.R_bound h) (fun k hk => ⟨hk.1, by
    rintro rfl
    obtain ⟨_, _, _, q, _, cells, hc⟩ := hk
    rw [hb] at hc
    cases hc⟩)
theorem map_block {w : World} {ok : Nat → Prop} {b : Nat} {L : List S53} (h : MapAt w ok b L) : ∃ es clock, w.heap[b]? = some (.map es clock) := by
  obtain ⟨n, D, ⟨es, clock, hb, _⟩, _⟩ := h.own
  exact ⟨es, clock, hb⟩
theorem map_ne {w : World} {ok : Nat → Prop} {b g : Nat} {L : List S53} {o : Array Value} {t : TypeId} {f : Nat × Nat} (h : MapAt w ok b L) (hg : w.heap[g]? = some (.cells o t f)) : b ≠ g := by
  rintro rfl
  obtain ⟨es, clock, hb⟩ := map_block h
  rw [hb] at hg
  cases hg

/-- A pool stays where the blocks that it may have stay. -/
theorem PoolAt.move {w w1 : World} {g : Nat} {ok : Nat → Prop} {sl : Value} {mo : Option Nat} {L : List S53} (h : PoolAt w g ok sl mo L) (hm : ∀ k, ok k → k < w.heap.size → w1.heap[k]? = w.heap[k]?) : PoolAt w1 g ok sl mo L :=
  ⟨h.okg, (hm g h.okg (blk_lt h.blk)).trans h.blk, Kd.R_step h.row hm, (by
    rcases h.map with h' | ⟨b, rfl, h'⟩
    · exact .inl h'
    · exact .inr ⟨b, rfl, h'.move (hm b h'.okb h'.lt) h'.okb⟩), h.wf, h.len⟩
theorem PoolAt.below {w w1 : World} {g : Nat} {ok : Nat → Prop} {sl : Value} {mo : Option Nat} {L : List S53} (h : PoolAt w g ok sl mo L) (hb : Below w.heap.size w w1) : PoolAt w1 g ok sl mo L := h.move fun k _ hlt => hb.block k hlt
/-- The blocks that a pool may have are blocks that there are. -/
theorem PoolAt.bound {w : World} {g : Nat} {ok : Nat → Prop} {sl : Value} {mo : Option Nat} {L : List S53} (h : PoolAt w g ok sl mo L) : PoolAt w g (fun k => ok k ∧ k < w.heap.size) sl mo L :=
  ⟨⟨h.okg, blk_lt h.blk⟩, h.blk, Kd.R_mono (Kd.R_bound h.row) (fun k hk => ⟨hk.1, hk.2.2.1⟩), (by
    rcases h.map with h' | ⟨b, rfl, h'⟩
    · exact .inl h'
    · exact .inr ⟨b, rfl, h'.move rfl ⟨h'.okb, h'.lt⟩⟩), h.wf, h.len⟩
theorem PoolAt.mono {w : World} {g : Nat} {ok ok' : Nat → Prop} {sl : Value} {mo : Option Nat} {L : List S53} (h : PoolAt w g ok sl mo L) (hk : ∀ k, ok k → ok' k) : PoolAt w g ok' sl mo L :=
  ⟨hk g h.okg, h.blk, Kd.R_mono h.row hk, (by
    rcases h.map with h' | ⟨b, rfl, h'⟩
    · exact .inl h'
    · exact .inr ⟨b, rfl, h'.move rfl (hk b h'.okb)⟩), h.wf, h.len⟩
/-- A row stays where a map's block turns. -/
theorem row_past {w w1 : World} {base : Nat} {ok : Nat → Prop} {sl : Value} {L : List S53} (h : Kd.R k53 53 w base ok sl L) {b : Nat} {ok' : Nat → Prop} {M : List S53} (hm : MapAt w ok' b M) (hg : w.grownBy w1 (some b)) : Kd.R k53 53 w1 base ok sl L := by
  obtain ⟨es, clock, hb⟩ := map_block hm
  exact Kd.R_drop (ok' := fun k => k ≠ b) (Kd.R_grown (row_notmap h hb) hg (fun k hk e => hk.2 (Option.some.inj e)))
end Go.Proofs.Ytcfejagfognipaa.Po
