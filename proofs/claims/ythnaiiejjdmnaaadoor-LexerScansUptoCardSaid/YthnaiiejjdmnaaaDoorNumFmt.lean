/- Layer 5 (number): FormatFloat, the program's. -/
import Derived.Test.YthnaiiejjdmnaaaDoorNumHex
namespace Go.Proofs.YthnaiiejjdmnaaaDoor
open Go.RowKit

theorem and_top (b : Nat) (hb : b < 18446744073709551616) : bits BinOp.and IntKind.u64 (b : Int) 9223372036854775808 = if 9223372036854775808 ≤ b then 9223372036854775808 else 0 := by
  rw [show (9223372036854775808 : Int) = ((9223372036854775808 : Nat) : Int) from rfl, bits_and_u64_nat b _ hb (by omega)]
  have key : b &&& 9223372036854775808 = if 9223372036854775808 ≤ b then 9223372036854775808 else 0 := by
    apply Nat.eq_of_testBit_eq
    intro i
    rw [Nat.testBit_and, show (9223372036854775808 : Nat) = 2 ^ 63 from rfl, Nat.testBit_two_pow]
    by_cases hi : 63 = i
    · subst hi
      rw [Nat.testBit_eq_decide_div_mod_eq]
      by_cases h : 2 ^ 63 ≤ b
      · rw [if_pos h, Nat.testBit_two_pow, decide_eq_true (by omega)]; rfl
      · rw [if_neg h, decide_eq_false (by omega)]; simp
    · rw [decide_eq_false hi, Bool.and_false]
      split
      · rw [Nat.testBit_two_pow, decide_eq_false hi]
      · simp
  rw [key]
  split <;> rfl
theorem and_exp (b : Nat) (hb : b < 18446744073709551616) : bits BinOp.and IntKind.u64 ((b : Int) / 4503599627370496) 2047 = ((b % 9223372036854775808 / 4503599627370496 : Nat) : Int) := by
  rw [show ((b : Int) / 4503599627370496) = ((b / 4503599627370496 : Nat) : Int) by omega, show (2047 : Int) = ((2047 : Nat) : Int) from rfl, bits_and_u64_nat _ _ (by omega) (by omega), show (2047 : Nat) = 2 ^ 11 - 1 from rfl, Nat.and_two_pow_sub_one_eq_mod]
  omega
theorem and_mask (b : Nat) (hb : b < 18446744073709551616) : bits BinOp.and IntKind.u64 (b : Int) 4503599627370495 = ((b % 9223372036854775808 % 4503599627370496 : Nat) : Int) := by
  rw [show (4503599627370495 : Int) = ((4503599627370495 : Nat) : Int) from rfl, bits_and_u64_nat _ _ hb (by omega), show (4503599627370495 : Nat) = 2 ^ 52 - 1 from rfl, Nat.and_two_pow_sub_one_eq_mod]
  omega

theorem or_one (f : Nat) (hf : f < 4503599627370496) : bits BinOp.or IntKind.u64 (f : Int) 4503599627370496 = ((f + 4503599627370496 : Nat) : Int) := by
  rw [show (4503599627370496 : Int) = ((4503599627370496 : Nat) : Int) from rfl, bits_or_u64_nat f _ (by omega) (by omega)]
  congr 1
  have h := Nat.two_pow_add_eq_or_of_lt (i := 52) (b := f) hf 1
  rw [Nat.or_comm]
  rw [show (4503599627370496 : Nat) = 2 ^ 52 * 1 from rfl, ← h]
  omega
theorem hexN_14 {f : Nat} (hf : f < 4503599627370496) : Num.hexN 14 (f + 4503599627370496) = 49 :: Num.hexN 13 f := by
  rw [hexN_cons]
  have e : (16 : Nat) ^ 13 = 4503599627370496 := by decide
  rw [e, show (f + 4503599627370496) / 4503599627370496 % 16 = 1 by omega]
  have key : ∀ (k q n : Nat), Num.hexN k (n + q * 16 ^ k) = Num.hexN k n := by
    intro k
    induction k with
    | zero => intro q n; rfl
    | succ k ih =>
      intro q n
      have e2 : q * 16 ^ (k + 1) = (q * 16 ^ k) * 16 := by rw [Nat.pow_succ, Nat.mul_assoc]
      rw [Num.hexN, Num.hexN, e2, Nat.add_mul_div_right _ _ (by decide : 0 < 16), Nat.add_mul_mod_self_right, ih]
  have h := key 13 1 f
  rw [e, Nat.one_mul] at h
  rw [h]
  rfl
theorem fracS_trim {f : Nat} (h : f ≠ 0) : Num.fracS f = 46 :: Lib.trimRightS (Num.hexN 13 f) [48] := by unfold Num.fracS; rw [if_neg h]
theorem trim_len13 (f : Nat) : (Lib.trimRightS (Num.hexN 13 f) [48]).length ≤ 13 := by
  obtain ⟨j, h1, _⟩ := Num.trim_split _ (Num.hexN 13 f) rfl
  have h2 := Num.hexN_len 13 f
  rw [h1, List.length_append] at h2
  omega
theorem itoa_len5 {n : Int} (h0 : -2000 ≤ n) (h1 : n ≤ 2000) : (Lib.itoa n).length ≤ 5 := by
  unfold Lib.itoa
  split
  · rw [List.length_cons, Num.dec_len]
    have := nDigits_le 3 n.natAbs (by omega)
    omega
  · rw [Num.dec_len]
    have := nDigits_le 3 n.toNat (by omega)
    omega

end Go.Proofs.YthnaiiejjdmnaaaDoor
