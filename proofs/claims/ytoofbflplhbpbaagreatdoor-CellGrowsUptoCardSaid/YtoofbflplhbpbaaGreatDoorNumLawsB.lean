/- Layer 5 (number): the laws NumberThere, NumberOne, NumberSigns. -/
import Derived.Test.YtoofbflplhbpbaaGreatDoorNumLaws
namespace Go.Proofs.YtoofbflplhbpbaaGreatDoor
open Go.RowKit

theorem itoa_len20 {n : Int} (h0 : -9223372036854775808 ≤ n) (h1 : n ≤ 9223372036854775807) : (Lib.itoa n).length ≤ 21 := by
  unfold Lib.itoa
  split
  · rw [List.length_cons, Num.dec_len]
    have := nDigits_le 19 n.natAbs (by omega)
    omega
  · rw [Num.dec_len]
    have := nDigits_le 19 n.toNat (by omega)
    omega
theorem fracS_len (f : Nat) : (Num.fracS f).length ≤ 14 := by
  by_cases h : f = 0
  · subst h; decide
  · rw [fracS_trim h, List.length_cons]
    have := trim_len13 f
    omega
theorem form_len {f : Nat} {e : Int} (h0 : -2000 ≤ e) (h1 : e ≤ 2000) : (Num.form f e).length ≤ 23 := by
  unfold Num.form Num.expS
  rw [List.length_append, List.length_append]
  have a := fracS_len f
  split
  · have b := itoa_len5 (n := -e) (by omega) (by omega)
    simp only [List.length_cons, List.length_nil]
    omega
  · have b := itoa_len5 (n := e) (by omega) (by omega)
    simp only [List.length_cons, List.length_nil]
    omega
theorem fmtU_len {a : Nat} (h : a ≤ 9218868437227405312) : (Num.fmtU a).length ≤ 23 := by
  unfold Num.fmtU
  split
  · decide
  · split
    · decide
    · rename_i h1 h2
      obtain ⟨p1, p2, p3, p4, p5⟩ := Num.nparts h2 (by omega)
      exact form_len (by omega) (by omega)
theorem fmt_len (b : Nat) : (Num.fmt b).length ≤ 24 := by
  unfold Num.fmt
  split
  · decide
  · rename_i h
    have := fmtU_len (a := b % 9223372036854775808) (by omega)
    rw [List.length_append]
    cases decide (9223372036854775808 ≤ b) <;> simp [Num.sg] <;> omega
theorem fmtU_start (a : Nat) : ∃ r, Num.fmtU a = 48 :: 120 :: r := by
  unfold Num.fmtU
  split
  · exact ⟨_, rfl⟩
  · split
    · exact ⟨_, rfl⟩
    · exact ⟨_, rfl⟩
/-- a float's form is no whole number's -/
theorem fmt_isInt (b : Nat) : Num.isInt (Num.fmt b) = false := by
  unfold Num.fmt
  split
  · decide
  · obtain ⟨r, hr⟩ := fmtU_start (b % 9223372036854775808)
    rw [hr]
    cases decide (9223372036854775808 ≤ b)
    · rw [isInt_rest (by simp [Num.sg])]; rfl
    · rw [isInt_rest (by simp [Num.sg])]; rfl
theorem parseInt_range (l : List UInt8) : -9223372036854775808 ≤ (Num.parseInt l).1 ∧ (Num.parseInt l).1 ≤ 9223372036854775807 := by
  unfold Num.parseInt
  simp only
  repeat' split
  all_goals (simp only; omega)
theorem one_form {s : List UInt8} {n : Int} {b : Nat} (h1 : Num.parseInt s = (n, 0)) (h2 : Num.parse s = some b) : False := by
  obtain ⟨e, _, _⟩ := Num.fmt_parse h2
  have h3 := Num.parseInt_bad (fmt_isInt b)
  rw [e, h1] at h3
  cases h3



end Go.Proofs.YtoofbflplhbpbaaGreatDoor
