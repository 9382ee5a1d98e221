/- Layer 5 (number): the plain law of whole numbers: digits, the form, the library's parse at it. -/
import Derived.Lib.ItoaMem
import Derived.Lib.ParseIntBTie
namespace Go.Proofs.YtoofbflplhbpbaaGreatDoor.Num
open Go

abbrev L := List UInt8
def isDig (c : UInt8) : Bool := decide (48 ≤ c.toNat) && decide (c.toNat ≤ 57)
theorem isDig_iff (c : UInt8) : isDig c = true ↔ 48 ≤ c.toNat ∧ c.toNat ≤ 57 := by simp [isDig]
/-- what digits spell behind 'acc' -/
def valE : L → Nat → Nat
  | [], acc => acc
  | c :: r, acc => valE r (acc * 10 + (c.toNat - 48))
def valD (acc : Nat) (l : L) : Nat := valE l acc
theorem valD_nil (acc : Nat) : valD acc [] = acc := rfl
theorem valD_cons (acc : Nat) (c : UInt8) (r : L) : valD acc (c :: r) = valD (acc * 10 + (c.toNat - 48)) r := by unfold valD; rw [valE]
theorem valD_app : ∀ (r : L) (acc : Nat) (q : L), valD acc (r ++ q) = valD (valD acc r) q
  | [], acc, q => by rw [List.nil_append, valD_nil]
  | c :: r, acc, q => by rw [List.cons_append, valD_cons, valD_cons, valD_app r]
theorem valD_ge : ∀ (r : L) (acc : Nat), acc * 10 ^ r.length ≤ valD acc r
  | [], acc => by simp [valD_nil]
  | c :: r, acc => by
    have h := valD_ge r (acc * 10 + (c.toNat - 48))
    have h2 : acc * 10 ^ (r.length + 1) = (acc * 10) * 10 ^ r.length := by rw [Nat.pow_succ, Nat.mul_assoc, Nat.mul_comm 10]
    have h3 : (acc * 10) * 10 ^ r.length ≤ (acc * 10 + (c.toNat - 48)) * 10 ^ r.length := Nat.mul_le_mul_right _ (Nat.le_add_right _ _)
    rw [List.length_cons, valD_cons, h2]
    exact Nat.le_trans h3 h
theorem valD_lt : ∀ (r : L) (acc : Nat), r.all isDig = true → valD acc r < (acc + 1) * 10 ^ r.length
  | [], acc, _ => by simp [valD_nil]
  | c :: r, acc, h => by
    simp only [List.all_cons, Bool.and_eq_true, isDig_iff] at h
    have h1 := valD_lt r (acc * 10 + (c.toNat - 48)) h.2
    have h3 : (acc * 10 + (c.toNat - 48) + 1) * 10 ^ r.length ≤ ((acc + 1) * 10) * 10 ^ r.length := Nat.mul_le_mul_right _ (by omega)
    have h2 : (acc + 1) * 10 ^ (r.length + 1) = ((acc + 1) * 10) * 10 ^ r.length := by rw [Nat.pow_succ, Nat.mul_assoc, Nat.mul_comm 10]
    rw [List.length_cons, valD_cons, h2]
    exact Nat.lt_of_lt_of_le h1 h3
theorem valD_mono (r : L) (acc : Nat) : acc ≤ valD acc r := by
  have h := valD_ge r acc
  have h1 : 1 ≤ 10 ^ r.length := Nat.one_le_pow _ _ (by decide)
  have h2 := Nat.le_mul_of_pos_right acc h1
  omega

/-- the numeral's digits -/
theorem dec_step {u : Nat} (h : ¬ u < 10) : Lib.decDigits u = Lib.decDigits (u / 10) ++ [UInt8.ofNat (48 + u % 10)] := by rw [Lib.decDigits, dif_neg h]
theorem ofNat_dig {d : Nat} (h : d < 10) : (UInt8.ofNat (48 + d)).toNat = 48 + d := by simp; omega
theorem dec_all (u : Nat) : (Lib.decDigits u).all isDig = true := by
  induction u using Nat.strongRecOn with
  | _ u ih =>
    by_cases h : u < 10
    · rw [Lib.decDigits_one h]; simp only [List.all_cons, List.all_nil, Bool.and_true, isDig_iff]; rw [ofNat_dig h]; omega
    · rw [dec_step h, List.all_append, ih _ (by omega)]
      simp only [List.all_cons, List.all_nil, Bool.and_true, Bool.true_and, isDig_iff]
      rw [ofNat_dig (by omega)]; omega
theorem dec_ne (u : Nat) : Lib.decDigits u ≠ [] := by
  by_cases h : u < 10
  · rw [Lib.decDigits_one h]; simp
  · rw [dec_step h]; simp
theorem dec_val (u : Nat) : valD 0 (Lib.decDigits u) = u := by
  induction u using Nat.strongRecOn with
  | _ u ih =>
    by_cases h : u < 10
    · rw [Lib.decDigits_one h]; simp only [valD_nil, valD_cons]; rw [ofNat_dig h]; omega
    · rw [dec_step h, valD_app, ih _ (by omega)]
      simp only [valD_nil, valD_cons]
      rw [ofNat_dig (by omega)]; omega
theorem dec_head (u : Nat) (h0 : u ≠ 0) : ∃ c r, Lib.decDigits u = c :: r ∧ c.toNat ≠ 48 := by
  induction u using Nat.strongRecOn with
  | _ u ih =>
    by_cases h : u < 10
    · exact ⟨_, [], Lib.decDigits_one h, by rw [ofNat_dig h]; omega⟩
    · obtain ⟨c, r, e, hc⟩ := ih (u / 10) (by omega) (by omega)
      exact ⟨c, r ++ [UInt8.ofNat (48 + u % 10)], by rw [dec_step h, e]; rfl, hc⟩
theorem dec_zero : Lib.decDigits 0 = [48] := Lib.decDigits_one (by omega)
theorem dec_len (u : Nat) : (Lib.decDigits u).length = Lib.nDigits u := Lib.decDigits_length u

theorem toNat_ne {c : UInt8} {n : Nat} (hn : n < 256) : c ≠ UInt8.ofNat n ↔ c.toNat ≠ n := by
  constructor
  · intro h e
    exact h (UInt8.toNat_inj.1 (by simp; omega))
  · intro h e
    exact h (by rw [e]; simp; omega)
theorem byte_back {c : UInt8} (h : 48 ≤ c.toNat) (h2 : c.toNat ≤ 57) : UInt8.ofNat (48 + (c.toNat - 48)) = c := by
  rw [show 48 + (c.toNat - 48) = c.toNat by omega]; exact UInt8.ofNat_toNat
theorem nil_or_snoc (t : L) : t = [] ∨ ∃ t' d, t = t' ++ [d] := by
  induction t with
  | nil => exact .inl rfl
  | cons c t ih =>
    refine .inr ?_
    rcases ih with rfl | ⟨t', d, rfl⟩
    · exact ⟨[], c, rfl⟩
    · exact ⟨c :: t', d, rfl⟩
/-- digits without a zero ahead are their number's numeral -/
theorem dec_back : ∀ (n : Nat) (r : L), r.length = n → r.all isDig = true → (∃ c t, r = c :: t ∧ c.toNat ≠ 48) → Lib.decDigits (valD 0 r) = r := by
  intro n
  induction n with
  | zero => intro r hr _ ⟨c, t, e, _⟩; rw [e] at hr; simp at hr
  | succ n ih =>
    intro r hr hall ⟨c, t, e, hc⟩
    rcases nil_or_snoc t with ht | ⟨t', d, ht⟩
    · subst ht e
      simp only [List.all_cons, List.all_nil, Bool.and_true, isDig_iff] at hall
      simp only [valD_nil, valD_cons]
      rw [show 0 * 10 + (c.toNat - 48) = c.toNat - 48 by omega, Lib.decDigits_one (by omega), byte_back hall.1 hall.2]
    · subst ht e
      have e2 : c :: (t' ++ [d]) = (c :: t') ++ [d] := rfl
      rw [e2] at hr hall ⊢
      rw [List.all_append] at hall
      simp only [Bool.and_eq_true, List.all_cons (a := d), List.all_nil, and_true, isDig_iff] at hall
      have h1 := ih (c :: t') (by simpa using hr) hall.1 ⟨c, t', rfl, hc⟩
      have hb := valD_ge t' (c.toNat - 48)
      have h2 : 1 ≤ valD 0 (c :: t') := by
        have hcd : isDig c = true := by
          have := hall.1
          simp only [List.all_cons, Bool.and_eq_true] at this
          exact this.1
        rw [isDig_iff] at hcd
        have := valD_mono t' (0 * 10 + (c.toNat - 48))
        simp only [valD_cons]
        omega
      rw [valD_app]
      simp only [valD_nil, valD_cons]
      simp only [valD_cons] at h1 h2
      rw [dec_step (by omega)]
      rw [show (valD (0 * 10 + (c.toNat - 48)) t' * 10 + (d.toNat - 48)) / 10 = valD (0 * 10 + (c.toNat - 48)) t' by omega, h1,
        show (valD (0 * 10 + (c.toNat - 48)) t' * 10 + (d.toNat - 48)) % 10 = d.toNat - 48 by omega, byte_back hall.2.1 hall.2.2]

/-! the library's parse at digits -/
theorem parseUintM_dig : ∀ (r : L) (acc : Nat), r.all isDig = true → acc ≤ 18446744073709551615 →
    Lib.parseUintM 18446744073709551615 acc r = if valD acc r ≤ 18446744073709551615 then .ok (valD acc r) else .range
  | [], acc, _, ha => by rw [valD_nil, if_pos ha]; rfl
  | c :: r, acc, h, ha => by
    simp only [List.all_cons, Bool.and_eq_true, isDig_iff] at h
    have hm := valD_mono r (acc * 10 + (c.toNat - 48))
    simp only [Lib.parseUintM, valD_cons]
    rw [if_pos h.1]
    by_cases h1 : 1844674407370955162 ≤ acc
    · rw [if_pos h1, if_neg (by omega)]
    · rw [if_neg h1]
      by_cases h2 : 18446744073709551615 < acc * 10 + (c.toNat - 48)
      · rw [if_pos h2, if_neg (by omega)]
      · rw [if_neg h2]
        exact parseUintM_dig r _ h.2 (by omega)

/-- number.isInt -/
def isInt (l : L) : Bool :=
  if l = [48] then true else
  match (if l.head? = some 45 then l.drop 1 else l) with
  | [] => false
  | c :: r => !(c == 48) && (c :: r).all isDig
/-- number.ParseInt, as the document has it -/
def parseInt (l : L) : Int × Nat :=
  let neg := l.head? = some 45
  let r := if neg then l.drop 1 else l
  if r = [] ∨ (r.head? = some 48 ∧ 1 < l.length) then (0, 50) else
  if ¬ r.all isDig then (0, 50) else
  if 19 < r.length then (0, 51) else
  if neg then (if 9223372036854775808 < valD 0 r then (0, 51) else (-(valD 0 r : Int), 0)) else
  if 9223372036854775808 ≤ valD 0 r then (0, 51) else ((valD 0 r : Int), 0)

/-- the number's digits, behind the sign -/
theorem isInt_iff (l : L) : isInt l = true ↔ ∃ (neg : Bool) (r : L), l = (if neg then [45] else []) ++ r ∧ r.all isDig = true ∧ ((∃ c t, r = c :: t ∧ c ≠ 48) ∨ (r = [48] ∧ neg = false)) := by
  unfold isInt
  by_cases h48 : l = [48]
  · subst h48
    simp only [if_true, true_iff]
    exact ⟨false, [48], rfl, by decide, .inr ⟨rfl, rfl⟩⟩
  · rw [if_neg h48]
    by_cases hn : l.head? = some 45
    · rw [if_pos hn]
      obtain ⟨t, rfl⟩ : ∃ t, l = 45 :: t := by
        cases l with
        | nil => simp at hn
        | cons c t => simp at hn; subst hn; exact ⟨t, rfl⟩
      simp only [List.drop_succ_cons, List.drop_zero]
      constructor
      · intro h
        cases t with
        | nil => simp at h
        | cons c t =>
          simp only [Bool.and_eq_true, Bool.not_eq_true', beq_eq_false_iff_ne] at h
          exact ⟨true, c :: t, rfl, h.2, .inl ⟨c, t, rfl, h.1⟩⟩
      · rintro ⟨neg, r, e, hall, hh⟩
        cases neg with
        | true =>
          simp only [if_true, List.singleton_append, List.cons.injEq, true_and] at e
          subst e
          rcases hh with ⟨c, t', rfl, hc⟩ | ⟨_, h⟩
          · simp only [Bool.and_eq_true, Bool.not_eq_true', beq_eq_false_iff_ne]
            exact ⟨hc, hall⟩
          · cases h
        | false =>
          simp only [Bool.false_eq_true, if_false, List.nil_append] at e
          subst e
          simp only [List.all_cons, Bool.and_eq_true] at hall
          exact absurd hall.1 (by decide)
    · rw [if_neg hn]
      constructor
      · intro h
        cases l with
        | nil => simp at h
        | cons c t =>
          simp only [Bool.and_eq_true, Bool.not_eq_true', beq_eq_false_iff_ne] at h
          exact ⟨false, c :: t, rfl, h.2, .inl ⟨c, t, rfl, h.1⟩⟩
      · rintro ⟨neg, r, e, hall, hh⟩
        cases neg with
        | true => subst e; simp at hn
        | false =>
          simp only [Bool.false_eq_true, if_false, List.nil_append] at e
          subst e
          rcases hh with ⟨c, t', rfl, hc⟩ | ⟨h, _⟩
          · simp only [Bool.and_eq_true, Bool.not_eq_true', beq_eq_false_iff_ne]
            exact ⟨hc, hall⟩
          · exact absurd h h48

theorem head_dig {c : UInt8} {t : L} (h : (c :: t).all isDig = true) : c.toNat ≠ 45 ∧ c.toNat ≠ 43 := by
  simp only [List.all_cons, Bool.and_eq_true, isDig_iff] at h
  omega
def over (neg : Bool) (v : Nat) : Prop := if neg then 9223372036854775808 < v else 9223372036854775808 ≤ v
instance (neg : Bool) (v : Nat) : Decidable (over neg v) := by unfold over; cases neg <;> infer_instance
def sgnd (neg : Bool) (v : Nat) : Int := if neg then -(v : Int) else v
def sg (neg : Bool) : L := if neg then [45] else []
def Good (neg : Bool) (r : L) : Prop := r.all isDig = true ∧ ((∃ c t, r = c :: t ∧ c ≠ 48) ∨ (r = [48] ∧ neg = false))
theorem ne48 {c : UInt8} : c ≠ 48 ↔ c.toNat ≠ 48 := toNat_ne (n := 48) (by decide)
theorem long_over {r : L} (h : r.all isDig = true) {c : UInt8} {t : L} (e : r = c :: t) (hc : c ≠ 48) (hl : 19 < r.length) : 10000000000000000000 ≤ valD 0 r := by
  subst e
  have h1 := h
  simp only [List.all_cons, Bool.and_eq_true, isDig_iff] at h1
  have hc' := ne48.1 hc
  rw [valD_cons]
  have h2 := valD_ge t (0 * 10 + (c.toNat - 48))
  have h3 : 10 ^ 19 ≤ 10 ^ t.length := Nat.pow_le_pow_right (by decide) (by simp at hl; omega)
  have h4 : 1 * 10 ^ t.length ≤ (0 * 10 + (c.toNat - 48)) * 10 ^ t.length := Nat.mul_le_mul_right _ (by omega)
  rw [Nat.one_mul] at h4
  exact Nat.le_trans (Nat.le_trans h3 h4) h2
theorem short_lt {r : L} (h : r.all isDig = true) (hl : ¬ 19 < r.length) : valD 0 r < 10000000000000000000 := by
  have h1 := valD_lt r 0 h
  have h3 : 10 ^ r.length ≤ 10 ^ 19 := Nat.pow_le_pow_right (by decide) (by omega)
  have e : (10 : Nat) ^ 19 = 10000000000000000000 := by decide
  rw [e] at h3
  have : (0 + 1) * 10 ^ r.length = 10 ^ r.length := by omega
  omega
theorem parseInt_form {neg : Bool} {r : L} (h : Good neg r) : parseInt (sg neg ++ r) = if over neg (valD 0 r) then (0, 51) else (sgnd neg (valD 0 r), 0) := by
  obtain ⟨hall, hh⟩ := h
  have hne : r ≠ [] := by rcases hh with ⟨c, t, rfl, _⟩ | ⟨rfl, _⟩ <;> simp
  have hbig : 19 < r.length → 10000000000000000000 ≤ valD 0 r := fun hl => by
    rcases hh with ⟨c, t, e, hc⟩ | ⟨rfl, _⟩
    · exact long_over hall e hc hl
    · simp at hl
  cases neg with
  | true =>
    have h48 : ¬ (r.head? = some 48 ∧ 1 < (45 :: r).length) := by
      rcases hh with ⟨c, t, rfl, hc⟩ | ⟨_, h⟩
      · simp [hc]
      · cases h
    unfold parseInt sg
    simp only [if_true, List.singleton_append, List.head?_cons, List.drop_succ_cons, List.drop_zero]
    rw [if_neg (by simp only [hne, false_or]; exact h48), if_neg (by simp [hall])]
    unfold over sgnd
    simp only [if_true]
    by_cases hl : 19 < r.length
    · have := hbig hl
      rw [if_pos hl, if_pos (by omega)]
    · rw [if_neg hl]
  | false =>
    have hhd : r.head? ≠ some 45 := by
      cases r with
      | nil => simp
      | cons c t => have := (head_dig hall).1; simp; intro e; subst e; exact this rfl
    have h48 : ¬ (r.head? = some 48 ∧ 1 < r.length) := by
      rcases hh with ⟨c, t, rfl, hc⟩ | ⟨rfl, _⟩
      · simp [hc]
      · simp
    unfold parseInt sg
    simp only [Bool.false_eq_true, if_false, List.nil_append, if_neg hhd]
    rw [if_neg (by simp only [hne, false_or]; exact h48), if_neg (by simp [hall])]
    unfold over sgnd
    simp only [Bool.false_eq_true, if_false]
    by_cases hl : 19 < r.length
    · have := hbig hl
      rw [if_pos hl, if_pos (by omega)]
    · rw [if_neg hl]
theorem isInt_good (l : L) : isInt l = true ↔ ∃ neg r, l = sg neg ++ r ∧ Good neg r := isInt_iff l
theorem parseInt_bad {l : L} (h : isInt l = false) : parseInt l = (0, 50) := by
  have hn : ¬ ∃ neg r, l = sg neg ++ r ∧ Good neg r := fun hh => by rw [(isInt_good l).2 hh] at h; cases h
  have key : ∀ (neg : Bool) (r : L), l = sg neg ++ r → (neg = true → l.head? = some 45) → r = [] ∨ (r.head? = some 48 ∧ 1 < l.length) ∨ ¬ r.all isDig = true := fun neg r e he => by
    refine Classical.byContradiction fun hc => ?_
    simp only [not_or, Decidable.not_not] at hc
    obtain ⟨c1, c2, c3⟩ := hc
    refine hn ⟨neg, r, e, c3, ?_⟩
    cases r with
    | nil => exact absurd rfl c1
    | cons c t =>
      by_cases h48 : c = 48
      · subst h48
        have hl : ¬ 1 < l.length := fun hl => c2 ⟨rfl, hl⟩
        rw [e] at hl
        cases neg with
        | true => simp [sg] at hl
        | false =>
          cases t with
          | nil => exact .inr ⟨rfl, rfl⟩
          | cons d t => simp [sg] at hl
      · exact .inl ⟨c, t, rfl, h48⟩
  unfold parseInt
  by_cases hd : l.head? = some 45
  · obtain ⟨t, rfl⟩ : ∃ t, l = 45 :: t := by
      cases l with
      | nil => simp at hd
      | cons c t => simp at hd; subst hd; exact ⟨t, rfl⟩
    have := key true t rfl (fun _ => rfl)
    simp only [List.head?_cons, if_true, List.drop_succ_cons, List.drop_zero]
    rcases this with h1 | h1 | h1
    · rw [if_pos (.inl h1)]
    · rw [if_pos (.inr h1)]
    · by_cases h2 : t = [] ∨ (t.head? = some 48 ∧ 1 < (45 :: t).length)
      · rw [if_pos h2]
      · rw [if_neg h2, if_pos h1]
  · have := key false l rfl (fun e => by cases e)
    simp only [if_neg hd]
    rcases this with h1 | h1 | h1
    · rw [if_pos (.inl h1)]
    · rw [if_pos (.inr h1)]
    · by_cases h2 : l = [] ∨ (l.head? = some 48 ∧ 1 < l.length)
      · rw [if_pos h2]
      · rw [if_neg h2, if_pos h1]

/-- the library's answer at a number's form -/
theorem lib_parse {neg : Bool} {r : L} (h : Good neg r) : Lib.parseIntB 64 (sg neg ++ r) = if over neg (valD 0 r) then .range else .ok (sgnd neg (valD 0 r)) := by
  obtain ⟨hall, hh⟩ := h
  have hne : r ≠ [] := by rcases hh with ⟨c, t, rfl, _⟩ | ⟨rfl, _⟩ <;> simp
  have hu : Lib.parseMag r = if valD 0 r ≤ 18446744073709551615 then .ok (valD 0 r) else .range := by
    unfold Lib.parseMag
    rw [if_neg hne, ← Lib.parseUintM_64, parseUintM_dig r 0 hall (by omega)]
  rw [Lib.parseIntB_64]
  obtain ⟨c, t, rfl⟩ : ∃ c t, r = c :: t := by
    cases r with
    | nil => exact absurd rfl hne
    | cons c t => exact ⟨c, t, rfl⟩
  obtain ⟨h45, h43⟩ := head_dig hall
  obtain ⟨v, hv⟩ : ∃ v, valD 0 (c :: t) = v := ⟨_, rfl⟩
  rw [hv] at hu ⊢
  cases neg with
  | true =>
    show Lib.atoiAll (45 :: c :: t) = _
    unfold Lib.atoiAll over sgnd
    simp only [show (45 : UInt8).toNat = 45 from rfl, or_true, if_true, hu]
    by_cases hb : v ≤ 18446744073709551615
    · rw [if_pos hb]
      simp only [not_true, false_and, if_false, true_and]
    · rw [if_neg hb]
      simp only
      rw [if_pos (by omega)]
  | false =>
    show Lib.atoiAll (c :: t) = _
    unfold Lib.atoiAll over sgnd
    simp only [h43, h45, or_self, if_false, hu, Bool.false_eq_true]
    by_cases hb : v ≤ 18446744073709551615
    · rw [if_pos hb]
      simp only [not_false_eq_true, true_and, false_and, if_false]
    · rw [if_neg hb]
      simp only
      rw [if_pos (by omega)]

/-- a number's form -/
theorem itoa_form (n : Int) : ∃ neg r, Lib.itoa n = sg neg ++ r ∧ Good neg r ∧ sgnd neg (valD 0 r) = n ∧ valD 0 r = n.natAbs ∧ (neg = true ↔ n < 0) := by
  unfold Lib.itoa
  by_cases h : n < 0
  · rw [if_pos h]
    obtain ⟨c, r, e, hc⟩ := dec_head n.natAbs (by omega)
    refine ⟨true, Lib.decDigits n.natAbs, rfl, ⟨dec_all _, .inl ⟨c, r, e, ne48.2 hc⟩⟩, ?_, dec_val _, by simp [h]⟩
    rw [dec_val]
    unfold sgnd
    simp only [if_true]
    omega
  · rw [if_neg h]
    refine ⟨false, Lib.decDigits n.toNat, rfl, ⟨dec_all _, ?_⟩, ?_, by rw [dec_val]; omega, by simp; omega⟩
    · by_cases h0 : n.toNat = 0
      · exact .inr ⟨by rw [h0, dec_zero], rfl⟩
      · obtain ⟨c, r, e, hc⟩ := dec_head n.toNat h0
        exact .inl ⟨c, r, e, ne48.2 hc⟩
    · rw [dec_val]
      unfold sgnd
      simp only [Bool.false_eq_true, if_false]
      omega
theorem parse_itoa (n : Int) (h0 : -9223372036854775808 ≤ n) (h1 : n ≤ 9223372036854775807) : parseInt (Lib.itoa n) = (n, 0) := by
  obtain ⟨neg, r, e, hg, hv, ha, hn⟩ := itoa_form n
  rw [e, parseInt_form hg, if_neg, hv]
  unfold over
  cases neg with
  | true => simp at hn ⊢; omega
  | false => simp at hn ⊢; omega
theorem good_itoa {neg : Bool} {r : L} (h : Good neg r) : Lib.itoa (sgnd neg (valD 0 r)) = sg neg ++ r := by
  obtain ⟨hall, hh⟩ := h
  rcases hh with ⟨c, t, e, hc⟩ | ⟨rfl, rfl⟩
  · have hb := dec_back r.length r rfl hall ⟨c, t, e, ne48.1 hc⟩
    have hpos : valD 0 r ≠ 0 := fun h0 => by
      rw [h0, dec_zero, e] at hb
      simp at hb
      exact hc hb.1.symm
    unfold Lib.itoa sgnd sg
    cases neg with
    | true =>
      simp only [if_true]
      rw [if_pos (by omega)]
      simp only [Int.natAbs_neg, Int.natAbs_natCast, List.singleton_append, hb]
    | false =>
      simp only [Bool.false_eq_true, if_false, List.nil_append]
      rw [if_neg (by omega)]
      simp only [Int.toNat_natCast, hb]
  · have : valD 0 [48] = 0 := rfl
    rw [this]
    unfold Lib.itoa sgnd sg
    simp [dec_zero]
theorem itoa_of_parse {l : L} {n : Int} (h : parseInt l = (n, 0)) : Lib.itoa n = l := by
  cases hi : isInt l with
  | false => rw [parseInt_bad hi] at h; simp at h
  | true =>
    obtain ⟨neg, r, rfl, hg⟩ := (isInt_good l).1 hi
    rw [parseInt_form hg] at h
    split at h
    · simp at h
    · simp only [Prod.mk.injEq, and_true] at h
      rw [← h]
      exact good_itoa hg
theorem lib_parse_isInt {l : L} (h : isInt l = true) : (∃ v, Lib.parseIntB 64 l = .ok v ∧ parseInt l = (v, 0)) ∨ (Lib.parseIntB 64 l = .range ∧ parseInt l = (0, 51)) := by
  obtain ⟨neg, r, rfl, hg⟩ := (isInt_good l).1 h
  rw [lib_parse hg, parseInt_form hg]
  split
  · exact .inr ⟨rfl, rfl⟩
  · exact .inl ⟨_, rfl, rfl⟩
end Go.Proofs.YtoofbflplhbpbaaGreatDoor.Num
