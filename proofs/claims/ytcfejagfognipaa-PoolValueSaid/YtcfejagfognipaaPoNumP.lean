/-
  The number of eight bytes of a number is that number. Condition: it is a number of 64 bits.
-/
import Derived.Test.YtcfejagfognipaaPoNum
import Derived.Test.YtcfejagfognipaaPoVal
namespace Go.Proofs.Ytcfejagfognipaa.Po
open Go.RowKit Go.Proofs.YtcfejagfognipaaW.PrintWords Go.Proofs.YtcfejagfognipaaW.PrintLast Go.Proofs.YtcfejagfognipaaW.PrintMore

theorem wrap_u64 (n : Int) : IntKind.u64.wrap n = n % 18446744073709551616 := by simp [IntKind.wrap, IntKind.bits, IntKind.signed]
theorem pow_lt (n : Nat) (h : n ≤ 63) : 2 ^ n ≤ 9223372036854775808 := (Nat.pow_le_pow_right (by decide) h : 2 ^ n ≤ 2 ^ 63)
theorem power_l0 (n : Nat) (hn : n ≤ 63) : ∀ (d k i : Nat), i + d = n → d < k → cleatref01_Power.l0 k (n : Int) ((2 ^ i : Nat) : Int) (i : Int) = some ((2 ^ n : Nat) : Int) := by
  intro d
  induction d with
  | zero =>
    intro k i hi hk
    obtain ⟨k, rfl⟩ : ∃ m, k = m + 1 := ⟨k - 1, by omega⟩
    simp only [cleatref01_Power.l0]
    rw [if_neg (by omega), show i = n by omega]
  | succ d ih =>
    intro k i hi hk
    obtain ⟨k, rfl⟩ : ∃ m, k = m + 1 := ⟨k - 1, by omega⟩
    have ih' := ih k (i + 1) (by omega) (by omega)
    have hp := pow_lt (i + 1) (by omega)
    have e1 : IntKind.u64.wrap (2 * ((2 ^ i : Nat) : Int)) = ((2 ^ (i + 1) : Nat) : Int) := by
      rw [wrap_u64]
      rw [Nat.pow_succ] at hp ⊢
      generalize 2 ^ i = Q at hp
      omega
    have e2 : wrap64 ((i : Int) + 1) = ((i + 1 : Nat) : Int) := by unfold wrap64; omega
    simp only [cleatref01_Power.l0]
    rw [if_pos (by omega), e1, e2]
    exact ih'
theorem power_ok (n k : Nat) (hn : n ≤ 63) (hk : 64 ≤ k) : cleatref01_Power.f k (n : Int) = some ((2 ^ n : Nat) : Int) := power_l0 n hn n k 0 (by omega) (by omega)

theorem bytes8_size (v : Int) : (strOfNums (bytes8 v)).size = 8 := rfl
theorem byte_ofNat (n : Nat) (h : n < 256) : (UInt8.ofNat ((n : Nat) : Int).toNat).toNat = n := by
  rw [Int.toNat_natCast, UInt8.toNat_ofNat']
  exact Nat.mod_eq_of_lt h
theorem bt_at8 (v : Int) (i : Nat) (h : i < 8) : bt (strOfNums (bytes8 v)) (i : Int) = ((UInt8.ofNat ((bytes8 v).getD i 0).toNat).toNat : Int) := by
  have e : i = 0 ∨ i = 1 ∨ i = 2 ∨ i = 3 ∨ i = 4 ∨ i = 5 ∨ i = 6 ∨ i = 7 := by omega
  rcases e with rfl | rfl | rfl | rfl | rfl | rfl | rfl | rfl <;> rfl
theorem bytes_at (v i : Nat) (h : i < 8) : (bytes8 (v : Int)).getD i 0 = ((v / 2 ^ (8 * i) % 256 : Nat) : Int) := by
  have e : i = 0 ∨ i = 1 ∨ i = 2 ∨ i = 3 ∨ i = 4 ∨ i = 5 ∨ i = 6 ∨ i = 7 := by omega
  rcases e with rfl | rfl | rfl | rfl | rfl | rfl | rfl | rfl <;> simp [bytes8]
theorem bt8 (v i : Nat) (h : i < 8) : bt (strOfNums (bytes8 (v : Int))) (i : Int) = ((v / 2 ^ (8 * i) % 256 : Nat) : Int) := by
  rw [bt_at8 _ _ h, bytes_at _ _ h, byte_ofNat _ (Nat.mod_lt _ (by decide))]

theorem num_l0 (v : Nat) (hv : v < 18446744073709551616) : ∀ (d k i : Nat), i + d = 8 → 64 + d < k → cleatref07_Number.l0 k (strOfNums (bytes8 (v : Int))) ((v % 2 ^ (8 * i) : Nat) : Int) (i : Int) = some (v : Int) := by
  intro d
  induction d with
  | zero =>
    intro k i hi hk
    obtain ⟨k, rfl⟩ : ∃ m, k = m + 1 := ⟨k - 1, by omega⟩
    obtain rfl : i = 8 := by omega
    simp only [cleatref07_Number.l0]
    rw [if_neg (by rw [bytes8_size]; omega), Nat.mod_eq_of_lt hv]
  | succ d ih =>
    intro k i hi hk
    obtain ⟨k, rfl⟩ : ∃ m, k = m + 1 := ⟨k - 1, by omega⟩
    have ih' := ih k (i + 1) (by omega) (by omega)
    have hp := pow_lt (8 * i) (by omega)
    have e0 : wrap64 (8 * (i : Int)) = ((8 * i : Nat) : Int) := by unfold wrap64; omega
    have e2 : wrap64 ((i : Int) + 1) = ((i + 1 : Nat) : Int) := by unfold wrap64; omega
    have e1 : IntKind.u64.wrap (((v % 2 ^ (8 * i) : Nat) : Int) + IntKind.u64.wrap (IntKind.u64.wrap ((v / 2 ^ (8 * i) % 256 : Nat) : Int) * ((2 ^ (8 * i) : Nat) : Int))) = ((v % 2 ^ (8 * (i + 1)) : Nat) : Int) := by
      have hm : v % 2 ^ (8 * (i + 1)) = v % 2 ^ (8 * i) + 2 ^ (8 * i) * (v / 2 ^ (8 * i) % 256) := by
        rw [show 8 * (i + 1) = 8 * i + 8 by omega, Nat.pow_add]
        exact Nat.mod_mul
      have hle : v % 2 ^ (8 * (i + 1)) ≤ v := Nat.mod_le _ _
      have hb : v / 2 ^ (8 * i) % 256 < 256 := Nat.mod_lt _ (by decide)
      rw [hm] at hle ⊢
      rw [wrap_u64 ((v / 2 ^ (8 * i) % 256 : Nat) : Int), Int.emod_eq_of_lt (by omega) (by omega), ← Int.natCast_mul, Nat.mul_comm (v / 2 ^ (8 * i) % 256)]
      generalize 2 ^ (8 * i) * (v / 2 ^ (8 * i) % 256) = X at hle ⊢
      generalize v % 2 ^ (8 * i) = Y at hle ⊢
      rw [wrap_u64, wrap_u64]
      omega
    simp only [cleatref07_Number.l0]
    rw [if_pos (by rw [bytes8_size]; omega), if_pos (by omega), if_pos (by omega), e0, power_ok _ _ (by omega) (by omega)]
    simp only [Option.bind_some]
    rw [bt8 v i (by omega), e1, e2]
    exact ih'
theorem number_ok (v : Nat) (hv : v < 18446744073709551616) : cleatref07_Number.f 100 (strOfNums (bytes8 (v : Int))) = some (v : Int) := by
  have := num_l0 v hv 8 100 0 (by omega) (by omega)
  rw [show v % 2 ^ (8 * 0) = 0 by simp [Nat.mod_one]] at this
  exact this
end Go.Proofs.Ytcfejagfognipaa.Po
