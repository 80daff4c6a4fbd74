/-
  The walk of cleatlaw15.pooled: the document's rows hold. No condition.
-/
import Derived.Test.YtcfejagfognipaaPoTake
import Derived.Test.YtcfejagfognipaaPoVal
namespace Go.Proofs.Ytcfejagfognipaa.Po
open Go.RowKit Go.Proofs.YtcfejagfognipaaW.PrintWords Go.Proofs.YtcfejagfognipaaW.PrintLast Go.Proofs.YtcfejagfognipaaW.PrintMore
set_option linter.unusedVariables false
set_option linter.unusedSimpArgs false

def xa : S53 := ⟨⟨#[]⟩, 0, 18446744073709551615⟩
def xb : S53 := ⟨⟨#[97]⟩, 8, 0⟩
def xc : S53 := ⟨⟨#[97]⟩, 0, 0⟩
theorem of1 : ofF ⟨10, ⟨#[]⟩, 0, true, 1⟩ = (xa, 0) := by kernel_rfl
theorem of2 : ofF ⟨10, ⟨#[]⟩, 0, false, 18446744073709551615⟩ = (xa, 0) := by kernel_rfl
theorem of3 : ofF ⟨10, ⟨#[97]⟩, 8, false, 0⟩ = (xb, 0) := by kernel_rfl
theorem of4 : ofF ⟨10, ⟨#[97]⟩, 0, false, 0⟩ = (xc, 0) := by kernel_rfl
theorem of5 : ofF ⟨4, ⟨#[97]⟩, 0, false, 0⟩ = (z53, 1) := by kernel_rfl
theorem wfa : Wf xa := ⟨by decide, by decide, by decide⟩
theorem wfb : Wf xb := ⟨by decide, by decide, by decide⟩
theorem wfc : Wf xc := ⟨by decide, by decide, by decide⟩
theorem ab : xb ≠ xa := by intro h; have := congrArg S53.f1 h; simp [xa, xb] at this
theorem ac : xc ≠ xa := by intro h; have := congrArg S53.f2 h; simp [xa, xc] at this
theorem bc : xc ≠ xb := by intro h; have := congrArg S53.f1 h; simp [xb, xc] at this
theorem r1 : PutR [] ⟨10, ⟨#[]⟩, 0, true, 1⟩ 0 0 [xa] := by
  have := PutR.new (L := []) (n := ⟨10, ⟨#[]⟩, 0, true, 1⟩) (by rw [of1]) (by simp) (by simp)
  rw [of1] at this
  exact this
theorem r2 : PutR [xa] ⟨10, ⟨#[]⟩, 0, false, 18446744073709551615⟩ 0 0 [xa] :=
  PutR.found (L := [xa]) (n := ⟨10, ⟨#[]⟩, 0, false, 18446744073709551615⟩) 0 (by rw [of2]) (by rw [of2]; rfl)
theorem r3 : PutR [xa] ⟨10, ⟨#[97]⟩, 8, false, 0⟩ 1 0 [xa, xb] := by
  have := PutR.new (L := [xa]) (n := ⟨10, ⟨#[97]⟩, 8, false, 0⟩) (by rw [of3]) (by rw [of3]; simp [ab]) (by simp)
  rw [of3] at this
  exact this
theorem r4 : PutR [xa, xb] ⟨10, ⟨#[97]⟩, 0, false, 0⟩ 2 0 [xa, xb, xc] := by
  have := PutR.new (L := [xa, xb]) (n := ⟨10, ⟨#[97]⟩, 0, false, 0⟩) (by rw [of4]) (by rw [of4]; simp [ac, bc]) (by simp)
  rw [of4] at this
  exact this
theorem r5 : PutR [xa, xb, xc] ⟨4, ⟨#[97]⟩, 0, false, 0⟩ 0 1 [xa, xb, xc] := by
  have := PutR.err (L := [xa, xb, xc]) (n := ⟨4, ⟨#[97]⟩, 0, false, 0⟩) (by rw [of5]; decide)
  rw [of5] at this
  exact this
theorem v258 : valF ⟨⟨#[]⟩, 0, 258⟩ = (⟨#[2, 1, 0, 0, 0, 0, 0, 0]⟩, 0) := by kernel_rfl
theorem val258 (w : World) : Calls Try.prog 32 #[.agg #[.string ⟨#[]⟩, .int .i64 0, .int .u64 258]] w fun e w' => e = .returned (.tuple #[.string ⟨#[2, 1, 0, 0, 0, 0, 0, 0]⟩, .int .i64 0]) ∧ Below w.heap.size w w' := by
  have := val_walk ⟨⟨#[]⟩, 0, 258⟩ w
  rw [v258] at this
  exact this

/-- Put, for whoever holds the blocks from B on. -/
theorem put_from (n : S49) (hx : (ofF n).2 = 0 → Wf (ofF n).1) {w : World} {g B : Nat} {L : List S53} (h : Pool w g (fun k => B ≤ k) L) (hB : B ≤ w.heap.size) {a e : Int} {L' : List S53} (hr : PutR L n a e L') :
    Calls Try.prog 28 #[.pointer (some ⟨g, 0, none⟩), .agg #[.int .i64 n.f0, .string n.f1, .int .i64 n.f2, .bool n.f3, .int .u64 n.f4]] w fun en w' => en = .returned (.tuple #[.int .i64 a, .int .i64 e]) ∧ Pool w' g (fun k => B ≤ k) L' ∧ Below B w w' ∧ B ≤ w'.heap.size :=
  (put_walk n hx h (fun k hk => Nat.le_trans hB hk) hr).mono fun _ _ ⟨h1, h2, h3⟩ => ⟨h1, h2, h3.below hB (fun _ hk => hk), Nat.le_trans hB h3.size⟩

set_option maxHeartbeats 2000000 in
set_option maxRecDepth 100000 in
theorem pooled_walk (w : World) : Calls Try.prog 26 #[] w fun e w' => e = .returned (.bool true) ∧ Below w.heap.size w w' := by
  have hu49 := Try.underlying49
  have hu53 := Try.underlying53
  go_enter Try.func26, Try.ntmps26
  go_wp2_with fail
  refine (new_walk _).mono ?_
  rintro e w1 ⟨rfl, h1, hb1⟩
  have P1 := Aside0.mk h1
  have B1 := Aside0.mk hb1
  clear h1 hb1
  go_wp2_with fail
  refine (put_from ⟨10, ⟨#[]⟩, 0, true, 1⟩ (fun _ => by rw [of1]; exact wfa) P1.out B1.out.size r1).mono ?_
  rintro e w2 ⟨rfl, h1, hb1, hs1⟩
  have P2 := Aside0.mk h1
  have B2 := Aside0.mk (B1.out.trans hb1)
  clear h1 hb1 hs1
  go_wp2_with fail
  refine (put_from ⟨10, ⟨#[]⟩, 0, false, 18446744073709551615⟩ (fun _ => by rw [of2]; exact wfa) P2.out B2.out.size r2).mono ?_
  rintro e w3 ⟨rfl, h1, hb1, hs1⟩
  have P3 := Aside0.mk h1
  have B3 := Aside0.mk (B2.out.trans hb1)
  clear h1 hb1 hs1
  go_wp2_with fail
  refine (put_from ⟨10, ⟨#[97]⟩, 8, false, 0⟩ (fun _ => by rw [of3]; exact wfb) P3.out B3.out.size r3).mono ?_
  rintro e w4 ⟨rfl, h1, hb1, hs1⟩
  have P4 := Aside0.mk h1
  have B4 := Aside0.mk (B3.out.trans hb1)
  clear h1 hb1 hs1
  go_wp2_with fail
  refine (put_from ⟨10, ⟨#[97]⟩, 0, false, 0⟩ (fun _ => by rw [of4]; exact wfc) P4.out B4.out.size r4).mono ?_
  rintro e w5 ⟨rfl, h1, hb1, hs1⟩
  have P5 := Aside0.mk h1
  have B5 := Aside0.mk (B4.out.trans hb1)
  clear h1 hb1 hs1
  go_wp2_with fail
  refine (put_from ⟨4, ⟨#[97]⟩, 0, false, 0⟩ (fun h => by rw [of5] at h; cases h) P5.out B5.out.size r5).mono ?_
  rintro e w6 ⟨rfl, h1, hb1, hs1⟩
  have P6 := Aside0.mk h1
  have B6 := Aside0.mk (B5.out.trans hb1)
  clear h1 hb1 hs1
  go_wp2_with fail
  refine (val258 _).mono ?_
  rintro e w7 ⟨rfl, hb1⟩
  have P7 := Aside0.mk (P6.out.below hb1)
  have B7 := Aside0.mk (B6.out.trans (hb1.mono B6.out.size))
  clear hb1
  go_wp2_with fail
  refine (size_walk P7.out).mono ?_
  rintro e w8 ⟨rfl, rfl⟩
  go_wp2_with fail
  go_ret
  exact ⟨rfl, B7.out⟩
end Go.Proofs.Ytcfejagfognipaa.Po
