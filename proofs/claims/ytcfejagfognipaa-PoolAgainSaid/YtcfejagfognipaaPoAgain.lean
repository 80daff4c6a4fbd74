/-
  The walk of cleatlaw15.PoolAgain: it answers true at every row of needs.
-/
import Derived.Test.YtcfejagfognipaaPoRow
namespace Go.Proofs.Ytcfejagfognipaa.Po
open Go.RowKit Go.Proofs.YtcfejagfognipaaW.PrintWords Go.Proofs.YtcfejagfognipaaW.PrintLast Go.Proofs.YtcfejagfognipaaW.PrintMore
set_option linter.unusedVariables false
set_option linter.unusedSimpArgs false

set_option maxHeartbeats 1000000 in
set_option maxRecDepth 100000 in
theorem again_long (l : List S49) (A : Option Addr) (cap : Nat) (w : World) (hl : 100 < l.length) :
    Calls Try.prog 11 #[.slice A l.length cap] w fun e w' => e = .returned (.bool true) ∧ Below w.heap.size w w' := by
  go_enter Try.func11, Try.ntmps11
  go_wp2
  go_ret
  exact ⟨rfl, Below.refl _ _⟩

set_option maxHeartbeats 4000000 in
set_option maxRecDepth 100000 in
theorem again_short (l : List S49) (A : Option Addr) (cap : Nat) (w : World) (hl : l.length ≤ 100) (hC : Kd.C k49 w A l.length l) (hcap : l.length ≤ cap) (hW : ∀ n ∈ l, WfN n) :
    Calls Try.prog 11 #[.slice A l.length cap] w fun e w' => e = .returned (.bool true) ∧ Below w.heap.size w w' := by
  have hu49 := Try.underlying49
  have hu53 := Try.underlying53
  have HC := Aside0.mk hC
  have HW := Aside0.mk hW
  clear hC hW
  go_enter Try.func11, Try.ntmps11
  go_wp2_with fail
  refine (new_walk _).mono ?_
  rintro e w1 ⟨rfl, h1, hb1⟩
  have P1 := Aside0.mk (h1.mono (ok' := beside w.heap.size (.slice none 0 0)) (fun k hk => ⟨hk, by simp [Value.ownBlock]⟩))
  have B1 := Aside0.mk hb1
  clear h1 hb1
  go_wp2_with fail
  go_loopw [4, 5] (fun v i wr => ∃ k : Nat, k ≤ l.length ∧ i = .int .i64 k ∧ Aside0 (Pool wr w.heap.size (beside w.heap.size v) (st l k)) ∧ Aside0 (Nums wr w.heap.size v (ats l k)) ∧ Aside0 (Below w.heap.size w wr)) (fun _ i _ => 100 - (intOf i).toNat)
  case atStart => exact ⟨0, by omega, rfl, ⟨by rw [st_zero]; exact P1.out⟩, ⟨Kd.R_nil _ _ _ _ _⟩, B1⟩
  case round =>
    obtain ⟨k, hk, rfl, P2, R2, B2⟩ := hrel
    by_cases hlt : k < l.length
    · obtain ⟨n, hn⟩ : ∃ n, l[k]? = some n := ⟨_, List.getElem?_eq_getElem hlt⟩
      have hi : decide ((k : Int) < (l.length : Int)) = true := decide_eq_true (by omega)
      obtain ⟨ad, rfl, c0, c1, c2, c3, c4⟩ := at_T49 (Kd.C_below HC.out B2.out) hn
      have hmem : n ∈ l := List.mem_of_getElem? hn
      by_cases hlong : 100 < n.f1.size
      · go_wp2
        go_ret
        exact ⟨rfl, B2.out⟩
      by_cases he : (putF (st l k) n).2.1 = 0
      · have he1 : ((putF (st l k) n).2.1 != 0) = false := by simp [he]
        go_wp2_with fail
        refine (put_beside n (HW.out n hmem) P2.out R2.out B2.out.size).mono ?_
        rintro e w3 ⟨rfl, h1, h2, hb1, hs1⟩
        have P3 := Aside0.mk h1
        have R3 := Aside0.mk h2
        have B3 := Aside0.mk (B2.out.trans hb1)
        clear h1 h2 hb1 c0 c1 c2 c3 c4
        have hz3 := hs1
        have hel : (ats l k).length ≤ 100 := by rw [ats_length]; omega
        go_wp2_with ((with_reducible refine gate_builtin (b := .append) (xs := #[.tmp 43, .tmp 45]) rfl ?_); at_builtin; refine Kd.R_append (Kd.int .i64) (w0 := w) w.heap.size rfl (.tmp 43) (.tmp 45) 60 3 (.int .i64 0) 8 rfl Try.underlying60 info3 rfl (by decide) (by decide) u4 (ats l k) ((putF (st l k) n).1) [.int .i64 ((putF (st l k) n).1)] (fun _ => True) (fun _ => False) rfl rfl rfl (fun _ hk => hk.elim) (fun _ _ => trivial) R3.out B3.out B3.out.size (by omega) ?_; intro v1 w4 ho hb hg hat; have R4 := Aside0.mk ho; have B4 := Aside0.mk hb; have P4 := Aside0.mk (P3.out.appended hg hat); clear ho hb hg hat)
        refine ⟨⟨k + 1, by omega, by go_num, ⟨by rw [st_succ l k n hn]; exact P4.out⟩, ⟨by rw [ats_succ l k n hn, atv, if_pos he]; exact R4.out⟩, B4⟩, by simp [intOf]; omega⟩
      · have he1 : ((putF (st l k) n).2.1 != 0) = true := by simp [he]
        go_wp2_with fail
        refine (put_beside n (HW.out n hmem) P2.out R2.out B2.out.size).mono ?_
        rintro e w3 ⟨rfl, h1, h2, hb1, hs1⟩
        have P3 := Aside0.mk h1
        have R3 := Aside0.mk h2
        have B3 := Aside0.mk (B2.out.trans hb1)
        clear h1 h2 hb1 c0 c1 c2 c3 c4
        have hz3 := hs1
        have hel : (ats l k).length ≤ 100 := by rw [ats_length]; omega
        go_wp2_with ((with_reducible refine gate_builtin (b := .append) (xs := #[.tmp 43, .tmp 45]) rfl ?_); at_builtin; refine Kd.R_append (Kd.int .i64) (w0 := w) w.heap.size rfl (.tmp 43) (.tmp 45) 60 3 (.int .i64 0) 8 rfl Try.underlying60 info3 rfl (by decide) (by decide) u4 (ats l k) (-1) [.int .i64 (-1)] (fun _ => True) (fun _ => False) rfl rfl rfl (fun _ hk => hk.elim) (fun _ _ => trivial) R3.out B3.out B3.out.size (by omega) ?_; intro v1 w4 ho hb hg hat; have R4 := Aside0.mk ho; have B4 := Aside0.mk hb; have P4 := Aside0.mk (P3.out.appended hg hat); clear ho hb hg hat)
        refine ⟨⟨k + 1, by omega, by go_num, ⟨by rw [st_succ l k n hn]; exact P4.out⟩, ⟨by rw [ats_succ l k n hn, atv, if_neg he]; exact R4.out⟩, B4⟩, by simp [intOf]; omega⟩
    · obtain rfl : k = l.length := by omega
      go_wp2_with fail
      refine (take_beside P2.out R2.out B2.out.size).mono ?_
      rintro e w3 ⟨N, X, cx, rfl, h1, h2, h3, hb1, hs1, hs2, hs3⟩
      have HL := Aside0.mk (pool_len P2.out)
      have hLe : ∃ L, st l l.length = L := ⟨_, rfl⟩
      obtain ⟨L, hLe⟩ := hLe
      rw [hLe] at h1 HL ⊢
      have HLe := Aside0.mk hLe
      have X3 := Aside0.mk (lies h1)
      have P3 := Aside0.mk h2
      have R3 := Aside0.mk h3
      have B3 := Aside0.mk (B2.out.trans hb1)
      have S3 := Aside0.mk hs3
      clear h1 h2 h3 hb1 hs3 hLe P2 R2 B2
      go_wp2_with fail
      go_loopw [9] (fun i wr => ∃ m : Nat, m ≤ L.length ∧ i = .int .i64 m ∧ Aside0 (Pool wr w.heap.size (fun k => beside w.heap.size u4 k ∧ k < N) []) ∧ Aside0 (Nums wr w.heap.size u4 (ats l l.length)) ∧ Aside0 (Lies wr N X L.length) ∧ Aside0 (Below w.heap.size w wr)) (fun i _ => 64 - (intOf i).toNat)
      case atStart => exact ⟨0, by omega, rfl, P3, R3, X3, B3⟩
      case round =>
        obtain ⟨m, hm, rfl, P4, R4, X4, B4⟩ := hrel
        have hL64 := HL.out
        by_cases hlt : m < L.length
        · obtain ⟨gx, cs, rfl, hgx, hcs, hsz⟩ := X4.out (by omega)
          have hi : decide ((m : Int) < (L.length : Int)) = true := decide_eq_true (by omega)
          have hj : m * 3 + 2 < cs.size := by omega
          have hcx := (blk_cell hcs (m * 3 + 2)).trans (Array.getElem?_eq_getElem hj)
          have hfx := blk_frozen hcs (m * 3 + 2)
          have HCS := Aside0.mk hcs
          clear hcs
          go_wp2
          refine ⟨⟨m + 1, by omega, by go_num, ⟨P4.out.past (p := ⟨gx, m * 3 + 2, none⟩) hgx _⟩, ⟨R4.out.past S3.out (p := ⟨gx, m * 3 + 2, none⟩) hgx _⟩, ⟨fun _ => ⟨gx, _, rfl, hgx, blk_put HCS.out _ _ rfl, by simp; omega⟩⟩, ⟨B4.out.setCell (p := ⟨gx, m * 3 + 2, none⟩) (Nat.le_trans hs2 hgx) _⟩⟩, by simp [intOf]; omega⟩
        · obtain rfl : m = L.length := by omega
          have hi : decide ((L.length : Int) < (L.length : Int)) = false := by simp
          go_wp2_with fail
          refine (take_beside (P4.out.mono fun _ hk => hk.1) R4.out B4.out.size).mono ?_
          rintro e w5 ⟨N5, X5, cx5, rfl, h1, h2, h3, hb1, hs1, hs2, hs3⟩
          have P5 := Aside0.mk (h2.mono (ok' := beside w.heap.size u4) fun _ hk => hk.1)
          have R5 := Aside0.mk h3
          have B5 := Aside0.mk (B4.out.trans hb1)
          clear h1 h2 h3 hb1 hs3 P4 R4 B4 X4
          have hL2 : decide (64 < (L.length : Int)) = false := decide_eq_false (by omega)
          go_wp2_with fail
          refine (size_walk P5.out).mono ?_
          rintro e w6 ⟨rfl, rfl⟩
          go_wp2_with fail
          go_loopw [10] (fun i wr => ∃ k : Nat, k ≤ l.length ∧ i = .int .i64 k ∧ Aside0 (Pool wr w.heap.size (beside w.heap.size u4) (st l k)) ∧ Aside0 (Nums wr w.heap.size u4 (ats l l.length)) ∧ Aside0 (Below w.heap.size w wr)) (fun i _ => 100 - (intOf i).toNat)
          case atStart => exact ⟨0, by omega, rfl, ⟨by rw [st_zero]; exact P5.out⟩, R5, B5⟩
          case round =>
            clear P5 R5 B5
            obtain ⟨k, hk, rfl, P6, R6, B6⟩ := hrel
            by_cases hlt : k < l.length
            · obtain ⟨n, hn⟩ : ∃ n, l[k]? = some n := ⟨_, List.getElem?_eq_getElem hlt⟩
              have hi : decide ((k : Int) < (l.length : Int)) = true := decide_eq_true (by omega)
              obtain ⟨ad, rfl, c0, c1, c2, c3, c4⟩ := at_T49 (Kd.C_below HC.out B6.out) hn
              have hmem : n ∈ l := List.mem_of_getElem? hn
              obtain ⟨ga, ca, hu⟩ := nums_form R6.out (by rw [ats_length]; omega)
              rw [ats_length] at hu
              subst hu
              have hat : (ats l l.length)[k]? = some (atv l k n) := ats_at l l.length k n hlt hn
              go_wp2_with fail
              refine (put_beside n (HW.out n hmem) P6.out R6.out B6.out.size).mono ?_
              rintro e w7 ⟨rfl, h1, h2, hb1, hs1⟩
              have P7 := Aside0.mk h1
              have R7 := Aside0.mk h2
              have B7 := Aside0.mk (B6.out.trans hb1)
              clear h1 h2 hb1 c0 c1 c2 c3 c4
              have hge := putF_nonneg (st l k) n
              by_cases he : (putF (st l k) n).2.1 = 0
              · have he1 : ((putF (st l k) n).2.1 == 0) = true := by simp [he]
                have hge2 : decide (0 ≤ (putF (st l k) n).1) = true := decide_eq_true hge
                have hcv : w7.cell? ⟨ga, k, none⟩ = some (.int .i64 (putF (st l k) n).1) := by
                  have := nums_cell R7.out hat
                  rw [atv, if_pos he] at this
                  exact this
                go_wp2
                go_roundw
                case rel => exact ⟨k + 1, by omega, by go_num, ⟨by rw [st_succ l k n hn]; exact P7.out⟩, R7, B7⟩
                case measure => simp [intOf]; omega
              · have he1 : ((putF (st l k) n).2.1 == 0) = false := by simp [he]
                have hcv : w7.cell? ⟨ga, k, none⟩ = some (.int .i64 (-1)) := by
                  have := nums_cell R7.out hat
                  rw [atv, if_neg he] at this
                  exact this
                go_wp2
                go_roundw
                case rel => exact ⟨k + 1, by omega, by go_num, ⟨by rw [st_succ l k n hn]; exact P7.out⟩, R7, B7⟩
                case measure => simp [intOf]; omega
            · obtain rfl : k = l.length := by omega
              have P7 : Aside0 (Pool wr w.heap.size (beside w.heap.size u4) L) := ⟨by rw [← HLe.out]; exact P6.out⟩
              clear P6
              go_wp2_with fail
              refine (pooled_walk _).mono ?_
              rintro e w8 ⟨rfl, hb1⟩
              have P8 := Aside0.mk (P7.out.below hb1)
              have B8 := Aside0.mk (B6.out.trans (hb1.mono B6.out.size))
              clear hb1
              go_wp2_with fail
              refine (size_walk P8.out).mono ?_
              rintro e w9 ⟨rfl, rfl⟩
              go_wp2
              go_ret
              exact ⟨rfl, B8.out⟩

/-- Whatever the needs. -/
theorem again_walk (l : List S49) (A : Option Addr) (cap : Nat) (w : World) (hC : Kd.C k49 w A l.length l) (hcap : l.length ≤ cap) (hW : ∀ n ∈ l, WfN n) :
    Calls Try.prog 11 #[.slice A l.length cap] w fun e w' => e = .returned (.bool true) ∧ Below w.heap.size w w' := by
  by_cases h : 100 < l.length
  · exact again_long l A cap w h
  · exact again_short l A cap w (by omega) hC hcap hW
end Go.Proofs.Ytcfejagfognipaa.Po
