/- Layer 5 (number): hexadecimal digits, the fraction and the exponent of a float's form. -/
import Derived.Test.YtoofbflplhbpbaaGreatDoorNumInt
import Derived.Lib.TrailingZeros
import Derived.Lib.SlTrimSet
import Derived.Lib.BitFns
import Derived.Lib.Strings
namespace Go.Proofs.YtoofbflplhbpbaaGreatDoor.Num
open Go

/-! hexadecimal digits -/
def hexd (d : Nat) : UInt8 := UInt8.ofNat (if d < 10 then 48 + d else 87 + d)
def hexv (c : UInt8) : Option Nat := if 48 ≤ c.toNat ∧ c.toNat ≤ 57 then some (c.toNat - 48) else if 97 ≤ c.toNat ∧ c.toNat ≤ 102 then some (c.toNat - 87) else none
theorem hexv_hexd : ∀ d : Fin 16, hexv (hexd d.val) = some d.val := by decide
theorem hexd_hexv_fin : ∀ c : Fin 256, ∀ d : Fin 16, hexv (UInt8.ofNat c.val) = some d.val → hexd d.val = UInt8.ofNat c.val := by decide +kernel
theorem hexv_lt {c : UInt8} {d : Nat} (h : hexv c = some d) : d < 16 := by
  unfold hexv at h
  split at h
  · simp at h; omega
  · split at h
    · simp at h; omega
    · cases h
theorem hexd_hexv {c : UInt8} {d : Nat} (h : hexv c = some d) : hexd d = c := by
  have hd := hexv_lt h
  have := hexd_hexv_fin ⟨c.toNat, UInt8.toNat_lt c⟩ ⟨d, hd⟩ (by simpa using h)
  simpa using this
theorem hexd_zero_iff {d : Nat} (h : d < 16) : hexd d = 48 ↔ d = 0 := by
  have : ∀ e : Fin 16, hexd e.val = 48 ↔ e.val = 0 := by decide
  exact this ⟨d, h⟩
def hexN : Nat → Nat → L
  | 0, _ => []
  | k + 1, n => hexN k (n / 16) ++ [hexd (n % 16)]
theorem hexN_len : ∀ (k n : Nat), (hexN k n).length = k
  | 0, _ => rfl
  | k + 1, n => by simp [hexN, hexN_len k]
def hexVal : L → Nat → Option Nat
  | [], acc => some acc
  | c :: r, acc => match hexv c with
    | some d => hexVal r (acc * 16 + d)
    | none => none
theorem hexVal_app : ∀ (a b : L) (acc : Nat), hexVal (a ++ b) acc = (hexVal a acc).bind (hexVal b)
  | [], b, acc => rfl
  | c :: r, b, acc => by
    simp only [List.cons_append, hexVal]
    cases hexv c with
    | none => rfl
    | some d => exact hexVal_app r b _
theorem hexVal_hexN : ∀ (k n acc : Nat), n < 16 ^ k → hexVal (hexN k n) acc = some (acc * 16 ^ k + n)
  | 0, n, acc, h => by simp at h; subst h; simp [hexN, hexVal]
  | k + 1, n, acc, h => by
    rw [Nat.pow_succ] at h
    rw [hexN, hexVal_app, hexVal_hexN k (n / 16) acc (by omega)]
    have e := hexv_hexd ⟨n % 16, by omega⟩
    simp only at e
    simp only [Option.bind_some, hexVal, e]
    congr 1
    rw [Nat.pow_succ, ← Nat.mul_assoc]
    have : acc * 16 ^ k * 16 = (acc * 16 ^ k) * 16 := rfl
    omega
theorem hexN_hexVal : ∀ (k : Nat) (r : L) (n : Nat), r.length = k → hexVal r 0 = some n → n < 16 ^ k ∧ hexN k n = r
  | 0, r, n, hl, h => by
    have : r = [] := List.eq_nil_of_length_eq_zero hl
    subst this
    simp [hexVal] at h
    subst h
    exact ⟨by simp, rfl⟩
  | k + 1, r, n, hl, h => by
    rcases nil_or_snoc r with rfl | ⟨q, c, rfl⟩
    · simp at hl
    · have hq : q.length = k := by simpa using hl
      rw [hexVal_app] at h
      cases hm : hexVal q 0 with
      | none => rw [hm] at h; simp at h
      | some m =>
        rw [hm] at h
        simp only [Option.bind_some, hexVal] at h
        cases hc : hexv c with
        | none => rw [hc] at h; simp at h
        | some d =>
          rw [hc] at h
          simp only [Option.some.injEq] at h
          obtain ⟨h1, h2⟩ := hexN_hexVal k q m hq hm
          have hd := hexv_lt hc
          subst h
          refine ⟨by rw [Nat.pow_succ]; omega, ?_⟩
          rw [hexN, show (m * 16 + d) / 16 = m by omega, show (m * 16 + d) % 16 = d by omega, h2, hexd_hexv hc]
theorem hexN_shift : ∀ (j k n : Nat), hexN (k + j) (n * 16 ^ j) = hexN k n ++ List.replicate j 48
  | 0, k, n => by simp
  | j + 1, k, n => by
    have e : n * 16 ^ (j + 1) = (n * 16 ^ j) * 16 := by rw [Nat.pow_succ, Nat.mul_assoc]
    rw [← Nat.add_assoc, hexN, e, Nat.mul_div_cancel _ (by decide : 0 < 16), Nat.mul_mod_left, hexN_shift j k n, List.append_assoc]
    congr 1
    have : hexd 0 = 48 := by decide
    rw [this, List.replicate_succ']

/-! zeros at the end -/
theorem trim_snoc (l : L) (c : UInt8) : Lib.trimRightS (l ++ [c]) [48] = if c = 48 then Lib.trimRightS l [48] else l ++ [c] := by
  unfold Lib.trimRightS
  rw [List.reverse_append, List.reverse_singleton, List.singleton_append, List.dropWhile_cons, Lib.contains_one]
  by_cases h : c = 48
  · subst h; simp
  · rw [if_neg h]
    have : (c == 48) = false := by simpa using h
    rw [this]
    simp
theorem trim_nil : Lib.trimRightS [] [48] = [] := rfl
theorem trim_keep {l : L} (h : l.getLast? ≠ some 48) : Lib.trimRightS l [48] = l := by
  rcases nil_or_snoc l with rfl | ⟨q, c, rfl⟩
  · rfl
  · rw [trim_snoc, if_neg]
    intro e; subst e; simp at h
theorem trim_zeros (l : L) : ∀ j, Lib.trimRightS (l ++ List.replicate j 48) [48] = Lib.trimRightS l [48]
  | 0 => by simp
  | j + 1 => by rw [List.replicate_succ', ← List.append_assoc, trim_snoc, if_pos rfl, trim_zeros l j]
theorem trim_split : ∀ (n : Nat) (l : L), l.length = n → ∃ j, l = Lib.trimRightS l [48] ++ List.replicate j 48 ∧ (Lib.trimRightS l [48]).getLast? ≠ some 48 := by
  intro n
  induction n with
  | zero =>
    intro l hl
    have : l = [] := List.eq_nil_of_length_eq_zero hl
    subst this
    exact ⟨0, rfl, by simp [trim_nil]⟩
  | succ n ih =>
    intro l hl
    rcases nil_or_snoc l with rfl | ⟨q, c, rfl⟩
    · simp at hl
    · rw [trim_snoc]
      by_cases h : c = 48
      · subst h
        rw [if_pos rfl]
        obtain ⟨j, h1, h2⟩ := ih q (by simpa using hl)
        refine ⟨j + 1, ?_, h2⟩
        rw [List.replicate_succ', ← List.append_assoc, ← h1]
      · rw [if_neg h]
        exact ⟨0, by simp, by simp [h]⟩

/-! the fraction -/
def fracS (f : Nat) : L := if f = 0 then [] else 46 :: Lib.trimRightS (hexN 13 f) [48]
/-- number.fraction -/
def fracG : L → Option Nat
  | [] => some 0
  | c :: h => if c ≠ 46 ∨ h = [] ∨ 13 < h.length ∨ h.getLast? = some 48 then none else (hexVal h 0).map (· * 16 ^ (13 - h.length))
theorem last_ne_zero {k n : Nat} (h : (hexN (k + 1) n).getLast? ≠ some 48) : n % 16 ≠ 0 := by
  intro h0
  apply h
  rw [hexN, h0]
  simp
  decide
theorem fracG_form {u : L} {f : Nat} (h : fracG u = some f) : u = fracS f ∧ f < 4503599627370496 := by
  cases u with
  | nil => simp [fracG] at h; subst h; exact ⟨rfl, by decide⟩
  | cons c t =>
    simp only [fracG] at h
    split at h
    · cases h
    · rename_i hc
      simp only [not_or, Decidable.not_not] at hc
      obtain ⟨rfl, h1, h2, h3⟩ := hc
      cases hv : hexVal t 0 with
      | none => rw [hv] at h; cases h
      | some n =>
        rw [hv] at h
        simp only [Option.map_some, Option.some.injEq] at h
        obtain ⟨k, hk⟩ : ∃ k, t.length = k + 1 := by
          cases t with
          | nil => exact absurd rfl h1
          | cons a b => exact ⟨b.length, rfl⟩
        obtain ⟨hlt, hx⟩ := hexN_hexVal (k + 1) t n hk hv
        rw [hk] at h h2
        have hj : 13 = (k + 1) + (13 - (k + 1)) := by omega
        have hf : f = n * 16 ^ (13 - (k + 1)) := h.symm
        have hl3 : (hexN (k + 1) n).getLast? ≠ some 48 := by rw [hx]; exact h3
        have hn0 := last_ne_zero hl3
        have hp : 0 < 16 ^ (13 - (k + 1)) := Nat.pow_pos (by decide)
        have hf0 : f ≠ 0 := by
          rw [hf]
          exact Nat.mul_ne_zero (by omega) (by omega)
        constructor
        · unfold fracS
          rw [if_neg hf0, hf]
          congr 1
          have e := hexN_shift (13 - (k + 1)) (k + 1) n
          rw [← hj] at e
          rw [e, trim_zeros, trim_keep hl3, hx]
        · have e : (16 : Nat) ^ (k + 1) * 16 ^ (13 - (k + 1)) = 4503599627370496 := by
            rw [← Nat.pow_add, ← hj]
          rw [hf, ← e]
          exact Nat.mul_lt_mul_of_pos_right hlt hp
theorem hexVal_zeros : ∀ (j acc : Nat), hexVal (List.replicate j 48) acc = some (acc * 16 ^ j)
  | 0, acc => by simp [hexVal]
  | j + 1, acc => by
    have e : hexv 48 = some 0 := by decide
    rw [List.replicate_succ, hexVal, e]
    simp only
    rw [hexVal_zeros j, Nat.pow_succ, Nat.add_zero, Nat.mul_assoc, Nat.mul_comm 16]
theorem fracG_fracS {f : Nat} (hf : f < 4503599627370496) : fracG (fracS f) = some f := by
  unfold fracS
  by_cases h0 : f = 0
  · rw [if_pos h0, h0]; rfl
  · rw [if_neg h0]
    obtain ⟨j, h1, h2⟩ := trim_split _ (hexN 13 f) rfl
    obtain ⟨h, hh⟩ : ∃ h, Lib.trimRightS (hexN 13 f) [48] = h := ⟨_, rfl⟩
    rw [hh] at h1 h2 ⊢
    have hv := hexVal_hexN 13 f 0 (by simpa using hf)
    rw [h1, hexVal_app] at hv
    have hlen := hexN_len 13 f
    rw [h1, List.length_append, List.length_replicate] at hlen
    cases hm : hexVal h 0 with
    | none => rw [hm] at hv; simp at hv
    | some m =>
      rw [hm] at hv
      simp only [Option.bind_some, hexVal_zeros, Option.some.injEq, Nat.zero_mul, Nat.zero_add] at hv
      have hne : h ≠ [] := by
        intro e
        subst e
        simp [hexVal] at hm
        subst hm
        simp at hv
        exact h0 hv.symm
      simp only [fracG]
      rw [if_neg (by simp only [ne_eq, not_true, hne, h2, or_false, false_or]; omega), hm]
      simp only [Option.map_some]
      rw [show 13 - h.length = j by omega, hv]

/-! the exponent -/
def expS (e : Int) : L := if e < 0 then 109 :: Lib.itoa (-e) else 112 :: Lib.itoa e
def expR (c : UInt8) (r : L) : Int := if c = 109 then -((valD 0 r : Nat) : Int) else (valD 0 r : Nat)
/-- number.exponent -/
def expG (s : L) : Option Int :=
  match s with
  | [] => none
  | c :: r =>
    if r = [] ∨ 4 < r.length ∨ (c ≠ 112 ∧ c ≠ 109) ∨ isInt r = false ∨ r.head? = some 45 ∨ (c = 109 ∧ r = [48]) then none else
    if expR c r ≤ 1023 ∧ -1074 ≤ expR c r then some (expR c r) else none
theorem expR_m (r : L) : expR 109 r = -((valD 0 r : Nat) : Int) := by unfold expR; rw [if_pos rfl]
theorem expR_p {c : UInt8} (h : c ≠ 109) (r : L) : expR c r = (valD 0 r : Nat) := by unfold expR; rw [if_neg h]
theorem isInt_head {r : L} (h : isInt r = true) (h2 : r.head? ≠ some 45) : Good false r := by
  obtain ⟨neg, q, e, hg⟩ := (isInt_good r).1 h
  cases neg with
  | true => subst e; simp [sg] at h2
  | false => have : r = q := e; subst this; exact hg
theorem good_isInt {r : L} (h : Good false r) : isInt r = true := (isInt_good r).2 ⟨false, r, rfl, h⟩
theorem good_ne {r : L} {neg : Bool} (h : Good neg r) : r ≠ [] := by
  rcases h.2 with ⟨c, t, rfl, _⟩ | ⟨rfl, _⟩ <;> simp
theorem good_head {r : L} {neg : Bool} (h : Good neg r) : r.head? ≠ some 45 := by
  cases r with
  | nil => simp
  | cons c t => have := (head_dig h.1).1; simp; intro e; subst e; exact this rfl
theorem itoa_good {r : L} (h : Good false r) : Lib.itoa (valD 0 r : Nat) = r := by
  have := good_itoa h
  simpa [sgnd, sg] using this
theorem good_zero {r : L} (h : Good false r) (h0 : valD 0 r = 0) : r = [48] := by
  have := itoa_good h
  rw [h0] at this
  rw [← this]
  show Lib.itoa ((0 : Nat) : Int) = _
  rw [Lib.itoa_nonneg, dec_zero]
theorem expG_form {v : L} {e : Int} (h : expG v = some e) : v = expS e ∧ e ≤ 1023 ∧ -1074 ≤ e := by
  cases v with
  | nil => simp [expG] at h
  | cons c r =>
    simp only [expG] at h
    split at h
    · cases h
    · rename_i hc
      simp only [not_or, Bool.not_eq_false] at hc
      obtain ⟨h1, h2, h3, h4, h5, h6⟩ := hc
      have hg := isInt_head h4 h5
      have hi := itoa_good hg
      split at h
      · rename_i hb
        simp only [Option.some.injEq] at h
        subst h
        refine ⟨?_, hb.1, hb.2⟩
        by_cases hc : c = 109
        · rw [hc, expR_m]
          have hpos : valD 0 r ≠ 0 := fun h0 => h6 ⟨hc, good_zero hg h0⟩
          unfold expS
          rw [if_pos (by omega), Int.neg_neg, hi]
        · rw [expR_p hc]
          have : c = 112 := Classical.byContradiction fun h7 => h3 ⟨h7, hc⟩
          unfold expS
          rw [if_neg (by omega), hi, this]
      · cases h
theorem itoa_nat_good (n : Nat) : Good false (Lib.itoa (n : Int)) ∧ valD 0 (Lib.itoa (n : Int)) = n := by
  obtain ⟨neg, r, e, hg, hv, ha, hn⟩ := itoa_form (n : Int)
  have : neg = false := by
    cases neg with
    | false => rfl
    | true => have := hn.1 rfl; omega
  subst this
  have e : Lib.itoa (n : Int) = r := e
  rw [e]
  exact ⟨hg, by omega⟩
theorem itoa_len (n : Nat) (h : n < 10000) : (Lib.itoa (n : Int)).length ≤ 4 := by
  rw [Lib.itoa_nonneg, dec_len]
  have : ∀ k u : Nat, u < 10 ^ (k + 1) → Lib.nDigits u ≤ k + 1 := by
    intro k
    induction k with
    | zero => intro u hu; rw [Lib.nDigits_small (by simpa using hu)]; omega
    | succ k ih =>
      intro u hu
      by_cases hs : u < 10
      · rw [Lib.nDigits_small hs]; omega
      · rw [Lib.nDigits_big hs]
        have := ih (u / 10) (by rw [Nat.pow_succ] at hu; omega)
        omega
  exact this 3 n (by simpa using h)
theorem expG_expS {e : Int} (h1 : e ≤ 1023) (h2 : -1074 ≤ e) : expG (expS e) = some e := by
  unfold expS
  by_cases hn : e < 0
  · rw [if_pos hn]
    obtain ⟨n, hN⟩ : ∃ n : Nat, -e = n := ⟨(-e).toNat, by omega⟩
    rw [hN]
    obtain ⟨hg, hv⟩ := itoa_nat_good n
    have hl := itoa_len n (by omega)
    simp only [expG]
    rw [if_neg, expR_m, hv, if_pos (by omega)]
    · congr 1; omega
    · simp only [not_or]
      refine ⟨good_ne hg, by omega, by simp, by rw [good_isInt hg]; simp, good_head hg, fun h => ?_⟩
      have : valD 0 (Lib.itoa (n : Int)) = 0 := by rw [h.2]; rfl
      omega
  · rw [if_neg hn]
    obtain ⟨n, hN⟩ : ∃ n : Nat, e = n := ⟨e.toNat, by omega⟩
    subst hN
    obtain ⟨hg, hv⟩ := itoa_nat_good n
    have hl := itoa_len n (by omega)
    simp only [expG]
    rw [if_neg, expR_p (by decide), hv, if_pos (by omega)]
    · simp only [not_or]
      exact ⟨good_ne hg, by omega, by simp, by rw [good_isInt hg]; simp, good_head hg, by simp⟩
end Go.Proofs.YtoofbflplhbpbaaGreatDoor.Num
