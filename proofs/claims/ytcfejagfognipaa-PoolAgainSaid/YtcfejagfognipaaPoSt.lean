/-
  What a row of needs makes of a pool, in plain lists: the places told, one by one. No condition.
-/
import Derived.Test.YtcfejagfognipaaPoPut
import Derived.Test.YtcfejagfognipaaPoEq
import Derived.Test.YtcfejagfognipaaPoWf
namespace Go.Proofs.Ytcfejagfognipaa.Po
open Go.RowKit Go.Proofs.YtcfejagfognipaaW.PrintWords Go.Proofs.YtcfejagfognipaaW.PrintLast Go.Proofs.YtcfejagfognipaaW.PrintMore

/-- The place of a literal in a row. -/
def idx : List S53 → S53 → Option Nat
  | [], _ => none
  | y :: r, x => if eqB y x = true then some 0 else (idx r x).map (· + 1)
theorem eqB_eq {x y : S53} (h : eqB x y = true) : x = y := by
  refine Classical.byContradiction fun hn => ?_
  rw [eqB_ne hn] at h
  cases h
theorem idx_some : ∀ (L : List S53) (x : S53) (i : Nat), idx L x = some i → L[i]? = some x
  | [], _, _, h => by simp [idx] at h
  | y :: r, x, i, h => by
    unfold idx at h
    by_cases c : eqB y x = true
    · rw [if_pos c] at h
      injection h with h
      subst h
      rw [eqB_eq c]
      rfl
    · rw [if_neg c] at h
      obtain ⟨j, hj, rfl⟩ := Option.map_eq_some_iff.mp h
      exact idx_some r x j hj
theorem idx_none : ∀ (L : List S53) (x : S53), idx L x = none → x ∉ L
  | [], _, _ => by simp
  | y :: r, x, h => by
    unfold idx at h
    by_cases c : eqB y x = true
    · rw [if_pos c] at h
      cases h
    · rw [if_neg c] at h
      have hr := idx_none r x (Option.map_eq_none_iff.mp h)
      intro hm
      rcases List.mem_cons.mp hm with rfl | hm
      · exact c (eqB_self _)
      · exact hr hm

/-- What Put answers, and leaves. -/
def putF (L : List S53) (n : S49) : Int × Int × List S53 :=
  if (ofF n).2 ≠ 0 then (0, (ofF n).2, L)
  else match idx L (ofF n).1 with
    | some i => ((i : Int), 0, L)
    | none => if 64 ≤ L.length then (0, 2, L) else ((L.length : Int), 0, L ++ [(ofF n).1])
theorem putF_R (L : List S53) (n : S49) : PutR L n (putF L n).1 (putF L n).2.1 (putF L n).2.2 := by
  unfold putF
  by_cases h0 : (ofF n).2 ≠ 0
  · rw [if_pos h0]
    exact .err h0
  · rw [if_neg h0]
    have h0' : (ofF n).2 = 0 := Classical.byContradiction h0
    cases h1 : idx L (ofF n).1 with
    | some i => exact .found i h0' (idx_some _ _ _ h1)
    | none =>
      by_cases h2 : 64 ≤ L.length
      · simp only [if_pos h2]
        exact .full h0' (idx_none _ _ h1) h2
      · simp only [if_neg h2]
        exact .new h0' (idx_none _ _ h1) (by omega)
theorem putF_nonneg (L : List S53) (n : S49) : 0 ≤ (putF L n).1 := by
  unfold putF
  split
  · exact Int.le_refl _
  · split
    · exact Int.natCast_nonneg _
    · split
      · exact Int.le_refl _
      · exact Int.natCast_nonneg _

def z49 : S49 := ⟨0, ⟨#[]⟩, 0, false, 0⟩
instance : Inhabited S49 := ⟨z49⟩
/-- The pool behind so many needs. -/
def st (l : List S49) (k : Nat) : List S53 := (l.take k).foldl (fun L n => (putF L n).2.2) []
theorem st_zero (l : List S49) : st l 0 = [] := by simp [st]
theorem st_succ (l : List S49) (k : Nat) (n : S49) (h : l[k]? = some n) : st l (k + 1) = (putF (st l k) n).2.2 := by
  unfold st
  rw [List.take_add_one, h, List.foldl_append]
  rfl
/-- The place that is told: -1, if there is none. -/
def atv (l : List S49) (k : Nat) (n : S49) : Int := if (putF (st l k) n).2.1 = 0 then (putF (st l k) n).1 else -1
def ats (l : List S49) (k : Nat) : List Int := (List.range k).map (fun i => atv l i (l.getD i z49))
theorem ats_length (l : List S49) (k : Nat) : (ats l k).length = k := by simp [ats]
theorem getD_of {l : List S49} {k : Nat} {n : S49} (h : l[k]? = some n) : l.getD k z49 = n := by simp [List.getD, h]
theorem ats_succ (l : List S49) (k : Nat) (n : S49) (h : l[k]? = some n) : ats l (k + 1) = ats l k ++ [atv l k n] := by
  simp [ats, List.range_succ]
  rw [h]
  rfl
theorem ats_at (l : List S49) (k i : Nat) (n : S49) (hi : i < k) (h : l[i]? = some n) : (ats l k)[i]? = some (atv l i n) := by
  simp [ats, hi, h]

/-! ### needs in memory -/
def k49 : Kd S49 := Kd.iso (Kd.pair (Kd.int .i64) (Kd.pair Kd.string (Kd.pair (Kd.int .i64) (Kd.pair Kd.bool (Kd.int .u64))))) (fun x : S49 => (x.f0, x.f1, x.f2, x.f3, x.f4))
theorem k49_open {w : World} {x : S49} {cs : List Value} (h : k49.K w x cs) : cs = [.int .i64 x.f0, .string x.f1, .int .i64 x.f2, .bool x.f3, .int .u64 x.f4] := by
  obtain ⟨_, _, rfl, rfl, ⟨_, _, rfl, rfl, ⟨_, _, rfl, rfl, ⟨_, _, rfl, rfl, rfl⟩⟩⟩⟩ := h
  exact rfl
theorem k49_mk (w : World) (x : S49) : k49.K w x [.int .i64 x.f0, .string x.f1, .int .i64 x.f2, .bool x.f3, .int .u64 x.f4] :=
  ⟨[.int .i64 x.f0], _, rfl, rfl, ⟨[.string x.f1], _, rfl, rfl, ⟨[.int .i64 x.f2], _, rfl, rfl, ⟨[.bool x.f3], [.int .u64 x.f4], rfl, rfl, rfl⟩⟩⟩⟩
/-- A need's cells. -/
theorem at_T49 {w : World} {A : Option Addr} {n : Nat} {xs : List S49} (h : Kd.C k49 w A n xs) {k : Nat} {x : S49} (hx : xs[k]? = some x) : ∃ ad, A = some ad ∧ w.cell? (ad.add (k * 5)) = some (.int .i64 x.f0) ∧
    w.cell? ⟨(ad.add (k * 5)).block, (ad.add (k * 5)).off + 1, none⟩ = some (.string x.f1) ∧ w.cell? ⟨(ad.add (k * 5)).block, (ad.add (k * 5)).off + 2, none⟩ = some (.int .i64 x.f2) ∧
    w.cell? ⟨(ad.add (k * 5)).block, (ad.add (k * 5)).off + 3, none⟩ = some (.bool x.f3) ∧ w.cell? ⟨(ad.add (k * 5)).block, (ad.add (k * 5)).off + 4, none⟩ = some (.int .u64 x.f4) := by
  have hlt := (List.getElem?_eq_some_iff.1 hx).1
  obtain ⟨ad, e, hc⟩ := h.2.2 (by have := h.1; omega)
  obtain ⟨cs, _, hK, hcell⟩ := hc k x hx
  rw [k49_open hK] at hcell
  have e5 : k49.sz = 5 := rfl
  rw [e5] at hcell
  exact ⟨ad, e, hcell 0 _ rfl, by rw [← add_field _ _ 1 (by omega)]; exact hcell 1 _ rfl, by rw [← add_field _ _ 2 (by omega)]; exact hcell 2 _ rfl, by rw [← add_field _ _ 3 (by omega)]; exact hcell 3 _ rfl, by rw [← add_field _ _ 4 (by omega)]; exact hcell 4 _ rfl⟩
end Go.Proofs.Ytcfejagfognipaa.Po
