/- Layer 5 (number): the document's reading of a float (guess, write, compare) is the same. -/
import Derived.Test.YtoofbflplhbpbaaGreatDoorNumForm
namespace Go.Proofs.YtoofbflplhbpbaaGreatDoor.Num
open Go

/-! the document's guess -/
def dgt (c : UInt8) : Nat := if 97 ≤ c.toNat ∧ c.toNat ≤ 102 then c.toNat - 87 else c.toNat % 16
theorem dgt_lt (c : UInt8) : dgt c < 16 := by unfold dgt; split <;> omega
theorem dgt_hexv {c : UInt8} {d : Nat} (h : hexv c = some d) : dgt c = d := by
  unfold hexv at h
  unfold dgt
  split at h
  · rw [if_neg (by omega)]; simp at h; omega
  · split at h
    · rename_i h2; rw [if_pos h2]; simpa using h
    · cases h
def isPM (c : UInt8) : Bool := c == 112 || c == 109
def gSig : Nat → L → Nat → Nat × L × Nat
  | 0, l, sig => (sig, l, 0)
  | k + 1, [], sig => (sig, [], k + 1)
  | k + 1, c :: r, sig => if isPM c then (sig, c :: r, k + 1) else gSig k r (sig * 16 + dgt c)
def gExp : Nat → L → Nat → Nat
  | 0, _, e => e
  | _ + 1, [], e => e
  | k + 1, c :: r, e => gExp k r (e * 10 + c.toNat % 16)
def gDown : Nat → Nat → Int → Nat × Int
  | 0, s, e => (s, e)
  | k + 1, s, e => if e < -1022 ∧ 0 < s then gDown k (s / 2) (e + 1) else (s, e)
def gEnd (x : Nat × Int) : Nat := if x.1 < 4503599627370496 ∨ 1023 < x.2 then x.1 % 4503599627370496 else (x.2 + 1022).toNat * 4503599627370496 + x.1
def gSgn (c : UInt8) (n : Nat) : Int := if c = 109 then -(n : Int) else n
def gTail (y : Nat × L × Nat) : Nat :=
  match y.2.1 with
  | [] => 0
  | c :: r => gEnd (gDown 64 (y.1 * 16 ^ y.2.2) (gSgn c (gExp 4 r 0)))
def guess (t : L) : Nat := if t.length < 5 then 0 else gTail (gSig 13 (if t[3]? = some 46 then t.drop 4 else t.drop 3) 1)

theorem gSig_bound : ∀ (k : Nat) (l : L) (sig M : Nat), sig < M → (gSig k l sig).1 * 16 ^ (gSig k l sig).2.2 < M * 16 ^ k
  | 0, l, sig, M, h => by simpa [gSig] using h
  | k + 1, [], sig, M, h => by
    simp only [gSig]
    exact Nat.mul_lt_mul_of_pos_right h (Nat.pow_pos (by decide))
  | k + 1, c :: r, sig, M, h => by
    simp only [gSig]
    split
    · exact Nat.mul_lt_mul_of_pos_right h (Nat.pow_pos (by decide))
    · have := gSig_bound k r (sig * 16 + dgt c) (M * 16) (by have := dgt_lt c; omega)
      have e : M * 16 ^ (k + 1) = M * 16 * 16 ^ k := by rw [Nat.pow_succ, Nat.mul_assoc, Nat.mul_comm 16]
      rw [e]
      exact this
theorem gExp_bound : ∀ (k : Nat) (l : L) (e : Nat), gExp k l e ≤ (e + 2) * 10 ^ k
  | 0, l, e => by simp [gExp]
  | k + 1, [], e => by
    simp only [gExp]
    have h1 : 1 ≤ 10 ^ (k + 1) := Nat.one_le_pow _ _ (by decide)
    have := Nat.le_mul_of_pos_right (e + 2) h1
    omega
  | k + 1, c :: r, e => by
    simp only [gExp]
    have h := gExp_bound k r (e * 10 + c.toNat % 16)
    have h2 : (e * 10 + c.toNat % 16 + 2) * 10 ^ k ≤ ((e + 2) * 10) * 10 ^ k := Nat.mul_le_mul_right _ (by omega)
    have e2 : (e + 2) * 10 ^ (k + 1) = (e + 2) * 10 * 10 ^ k := by rw [Nat.pow_succ, Nat.mul_assoc, Nat.mul_comm 10]
    rw [e2]
    exact Nat.le_trans h h2
theorem gDown_le : ∀ (k s : Nat) (e : Int), (gDown k s e).1 ≤ s
  | 0, s, e => Nat.le_refl _
  | k + 1, s, e => by
    simp only [gDown]
    split
    · have := gDown_le k (s / 2) (e + 1); omega
    · exact Nat.le_refl _
theorem gDown_stop {k s : Nat} {e : Int} (h : ¬ (e < -1022 ∧ 0 < s)) : gDown k s e = (s, e) := by
  cases k with
  | zero => rfl
  | succ k => simp only [gDown]; rw [if_neg h]
theorem gDown_steps : ∀ (d k s : Nat) (e : Int), d ≤ k → e + d = -1022 → 2 ^ d ≤ s → gDown k s e = (s / 2 ^ d, -1022)
  | 0, k, s, e, _, he, _ => by
    have : e = -1022 := by omega
    subst this
    rw [gDown_stop (by omega)]
    simp
  | d + 1, k, s, e, hk, he, hs => by
    obtain ⟨k', rfl⟩ : ∃ k', k = k' + 1 := ⟨k - 1, by omega⟩
    have h1 : 0 < 2 ^ (d + 1) := Nat.pow_pos (by decide)
    simp only [gDown]
    rw [if_pos (by omega), gDown_steps d k' (s / 2) (e + 1) (by omega) (by omega) (by rw [Nat.pow_succ] at hs; omega), Nat.div_div_eq_div_mul, Nat.pow_succ, Nat.mul_comm 2]

theorem gSig_hex : ∀ (h : L) (k : Nat) (rest : L) (sig n : Nat), hexVal h sig = some n → h.length ≤ k → (∃ c r, rest = c :: r ∧ isPM c = true) → gSig k (h ++ rest) sig = (n, rest, k - h.length)
  | [], k, rest, sig, n, hv, _, ⟨c, r, e, hc⟩ => by
    simp [hexVal] at hv
    subst hv e
    cases k with
    | zero => simp [gSig]
    | succ k => simp [gSig, hc]
  | d :: h, k, rest, sig, n, hv, hl, hr => by
    obtain ⟨k', rfl⟩ : ∃ k', k = k' + 1 := ⟨k - 1, by simp at hl; omega⟩
    simp only [hexVal] at hv
    cases hd : hexv d with
    | none => rw [hd] at hv; cases hv
    | some v =>
      rw [hd] at hv
      simp only at hv
      have hp : isPM d = false := by
        have h1 := hexd_hexv hd
        have h2 := hexv_lt hd
        have h3 := hexd_not ⟨v, h2⟩
        rw [h1] at h3
        simp [isPM, h3.1, h3.2]
      simp only [List.cons_append, gSig, hp, Bool.false_eq_true, if_false]
      rw [dgt_hexv hd, gSig_hex h k' rest _ n hv (by simpa using hl) hr]
      simp
theorem gExp_digits : ∀ (r : L) (k e : Nat), r.all isDig = true → r.length ≤ k → gExp k r e = valD e r
  | [], 0, e, _, _ => rfl
  | [], k + 1, e, _, _ => rfl
  | c :: r, k, e, h, hl => by
    obtain ⟨k', rfl⟩ : ∃ k', k = k' + 1 := ⟨k - 1, by simp at hl; omega⟩
    simp only [List.all_cons, Bool.and_eq_true, isDig_iff] at h
    simp only [gExp]
    rw [valD_cons, gExp_digits r k' _ h.2 (by simpa using hl)]
    congr 1
    omega
theorem expS_parts {e : Int} (h1 : e ≤ 1023) (h2 : -1074 ≤ e) : ∃ c r, expS e = c :: r ∧ isPM c = true ∧ gSgn c (gExp 4 r 0) = e ∧ 1 ≤ r.length := by
  unfold expS
  by_cases hn : e < 0
  · rw [if_pos hn]
    obtain ⟨n, hN⟩ : ∃ n : Nat, -e = n := ⟨(-e).toNat, by omega⟩
    rw [hN]
    obtain ⟨hg, hv⟩ := itoa_nat_good n
    refine ⟨109, _, rfl, rfl, ?_, ?_⟩
    · rw [gExp_digits _ 4 0 hg.1 (itoa_len n (by omega)), hv]
      unfold gSgn
      rw [if_pos rfl]
      omega
    · exact List.length_pos_iff.2 (good_ne hg)
  · rw [if_neg hn]
    obtain ⟨n, hN⟩ : ∃ n : Nat, e = n := ⟨e.toNat, by omega⟩
    subst hN
    obtain ⟨hg, hv⟩ := itoa_nat_good n
    refine ⟨112, _, rfl, rfl, ?_, ?_⟩
    · rw [gExp_digits _ 4 0 hg.1 (itoa_len n (by omega)), hv]
      unfold gSgn
      rw [if_neg (by decide)]
    · exact List.length_pos_iff.2 (good_ne hg)
theorem hexVal_start : ∀ (h : L) (acc n : Nat), hexVal h 0 = some n → hexVal h acc = some (acc * 16 ^ h.length + n)
  | [], acc, n, hv => by simp [hexVal] at hv; subst hv; simp [hexVal]
  | c :: r, acc, n, hv => by
    simp only [hexVal] at hv ⊢
    cases hc : hexv c with
    | none => rw [hc] at hv; cases hv
    | some d =>
      rw [hc] at hv
      simp only at hv ⊢
      obtain ⟨m, hm⟩ : ∃ m, hexVal r 0 = some m := by
        cases hr : hexVal r 0 with
        | some m => exact ⟨m, rfl⟩
        | none =>
          exfalso
          have key : ∀ (r : L) (a b : Nat), hexVal r a = none → hexVal r b = none := by
            intro r
            induction r with
            | nil => intro a b h; simp [hexVal] at h
            | cons x r ih =>
              intro a b h
              simp only [hexVal] at h ⊢
              cases hx : hexv x with
              | none => rfl
              | some y => rw [hx] at h; exact ih _ _ h
          rw [key r 0 _ hr] at hv
          cases hv
      rw [hexVal_start r (0 * 16 + d) m hm] at hv
      rw [hexVal_start r (acc * 16 + d) m hm]
      simp only [Option.some.injEq] at hv ⊢
      rw [List.length_cons, Nat.pow_succ]
      have e1 : (acc * 16 + d) * 16 ^ r.length = acc * (16 ^ r.length * 16) + d * 16 ^ r.length := by
        rw [Nat.add_mul, Nat.mul_assoc, Nat.mul_comm 16]
      have e2 : (0 * 16 + d) * 16 ^ r.length = d * 16 ^ r.length := by rw [Nat.zero_mul, Nat.zero_add]
      rw [e1]
      rw [e2] at hv
      rw [← hv, Nat.add_assoc]
theorem gTail_of {sig j : Nat} {c : UInt8} {r : L} : gTail (sig, c :: r, j) = gEnd (gDown 64 (sig * 16 ^ j) (gSgn c (gExp 4 r 0))) := rfl
theorem gEnd_of {f : Nat} {e : Int} (hf : f < 4503599627370496) (h1 : e ≤ 1023) (h2 : -1074 ≤ e) : gEnd (gDown 64 (4503599627370496 + f) e) = bitsOf f e := by
  by_cases he : -1022 ≤ e
  · rw [gDown_stop (by omega)]
    unfold gEnd bitsOf
    simp only
    rw [if_neg (by omega), if_pos he]
    omega
  · obtain ⟨d, hd⟩ : ∃ d : Nat, (-1022 - e).toNat = d := ⟨_, rfl⟩
    have hp : 2 ^ d ≤ 2 ^ 52 := Nat.pow_le_pow_right (by decide) (by omega)
    have hp1 : 2 ^ 1 ≤ 2 ^ d := Nat.pow_le_pow_right (by decide) (by omega)
    rw [gDown_steps d 64 _ e (by omega) (by omega) (by omega)]
    unfold gEnd bitsOf
    simp only
    have hs : (4503599627370496 + f) / 2 ^ d < 4503599627370496 := by
      rw [Nat.div_lt_iff_lt_mul (by omega)]
      have : 4503599627370496 * 2 ≤ 4503599627370496 * 2 ^ d := Nat.mul_le_mul_left _ (by omega)
      omega
    rw [if_pos (.inl hs), if_neg he, hd, Nat.mod_eq_of_lt hs]
theorem guess_form {f : Nat} {e : Int} (hf : f < 4503599627370496) (h1 : e ≤ 1023) (h2 : -1074 ≤ e) : guess (form f e) = bitsOf f e := by
  obtain ⟨c, r, hx, hc, hs, hl⟩ := expS_parts h1 h2
  have hlen : ¬ (form f e).length < 5 := by
    unfold form
    rw [List.length_append, List.length_append, hx]
    simp
    omega
  unfold guess
  rw [if_neg hlen]
  by_cases h0 : f = 0
  · have e1 : fracS f = [] := by unfold fracS; rw [if_pos h0]
    have e2 : form f e = 48 :: 120 :: 49 :: c :: r := by unfold form; rw [e1, hx]; rfl
    have hne : ¬ (48 :: 120 :: 49 :: c :: r : L)[3]? = some 46 := by
      simp
      intro h
      subst h
      cases hc
    rw [e2, if_neg hne]
    show gTail (gSig 13 (c :: r) 1) = _
    have e3 : gSig 13 (c :: r) 1 = (1, c :: r, 13) := by simp [gSig, hc]
    rw [e3, gTail_of, hs, ← gEnd_of hf h1 h2, h0]
  · obtain ⟨j, t1, t2⟩ := trim_split _ (hexN 13 f) rfl
    have e1 : fracS f = 46 :: Lib.trimRightS (hexN 13 f) [48] := by unfold fracS; rw [if_neg h0]
    obtain ⟨h, hh⟩ : ∃ h, Lib.trimRightS (hexN 13 f) [48] = h := ⟨_, rfl⟩
    rw [hh] at t1 t2 e1
    have hv := hexVal_hexN 13 f 0 (by simpa using hf)
    have hlen := hexN_len 13 f
    rw [t1, List.length_append, List.length_replicate] at hlen
    rw [t1, hexVal_app] at hv
    cases hm : hexVal h 0 with
    | none => rw [hm] at hv; simp at hv
    | some m =>
      rw [hm] at hv
      simp only [Option.bind_some, hexVal_zeros, Option.some.injEq, Nat.zero_mul, Nat.zero_add] at hv
      have e2 : form f e = 48 :: 120 :: 49 :: 46 :: (h ++ c :: r) := by unfold form; rw [e1, hx]; rfl
      have hdot : (48 :: 120 :: 49 :: 46 :: (h ++ c :: r) : L)[3]? = some 46 := rfl
      rw [e2, if_pos hdot]
      show gTail (gSig 13 (h ++ c :: r) 1) = _
      have e5 : (1 * 16 ^ h.length + m) * 16 ^ (13 - h.length) = 4503599627370496 + f := by
        rw [show 13 - h.length = j by omega, Nat.add_mul, hv, Nat.one_mul, ← Nat.pow_add, show h.length + j = 13 by omega]
      rw [gSig_hex h 13 (c :: r) 1 _ (hexVal_start h 1 m hm) (by omega) ⟨c, r, rfl, hc⟩, gTail_of, hs, e5, gEnd_of hf h1 h2]
/-- the document's reading: guess, write, compare -/
def refNum (t : L) : Nat := if t = ZERO then 0 else if t = INFS then 9218868437227405312 else guess t
def refTry (neg : Bool) (t s : L) : Option Nat :=
  let b := refNum t
  let x := (if neg then 9223372036854775808 else 0) + b
  if b ≤ 9218868437227405312 ∧ fmt x = s then some x else none
def refParse (s : L) : Option Nat :=
  if s = NANS then some 9221120237041090560 else
  if s.head? = some 45 then refTry true (s.drop 1) s else refTry false s s
theorem refNum_of {a : Nat} (h : a ≤ 9218868437227405312) : refNum (fmtU a) = a := by
  unfold refNum fmtU
  by_cases hi : a = 9218868437227405312
  · rw [if_pos hi, if_neg (by decide), if_pos rfl, hi]
  · rw [if_neg hi]
    by_cases h0 : a = 0
    · rw [if_pos h0, if_pos rfl, h0]
    · rw [if_neg h0]
      obtain ⟨p1, p2, p3, p4, p5⟩ := nparts h0 (by omega)
      obtain ⟨_, _, q3, q4⟩ := form_head (nfrac a) (nexp a)
      rw [if_neg q4, if_neg q3, guess_form p1 p2 p3, p4]
theorem refParse_eq (s : L) : refParse s = parse s := by
  by_cases hn : s = NANS
  · unfold refParse parse; rw [if_pos hn, if_pos hn]
  · cases hp : parse s with
    | none =>
      have hno : ∀ x, x < 18446744073709551616 → fmt x ≠ s := fun x hx e => by
        rw [← e, parse_fmt hx] at hp
        cases hp
      unfold refParse refTry
      rw [if_neg hn]
      split
      · simp only [if_true]
        rw [if_neg]
        rintro ⟨h1, h2⟩
        exact hno _ (by omega) h2
      · simp only [Bool.false_eq_true, if_false]
        rw [if_neg]
        rintro ⟨h1, h2⟩
        exact hno _ (by omega) h2
    | some b =>
      obtain ⟨g1, g2, g3⟩ := fmt_parse hp
      unfold parse at hp
      rw [if_neg hn] at hp
      unfold refParse refTry
      rw [if_neg hn]
      split at hp
      · rename_i hd
        rw [if_pos hd]
        cases hq : parseU (s.drop 1) with
        | none => rw [hq] at hp; cases hp
        | some a =>
          rw [hq] at hp
          simp only [Option.map_some, Option.some.injEq] at hp
          obtain ⟨r1, r2⟩ := parseU_form hq
          have e := refNum_of r2
          rw [← r1] at e
          simp only [if_true]
          rw [e, if_pos ⟨r2, by rw [hp]; exact g1⟩, hp]
      · rename_i hd
        rw [if_neg hd]
        obtain ⟨r1, r2⟩ := parseU_form hp
        have e := refNum_of r2
        rw [← r1] at e
        simp only [Bool.false_eq_true, if_false, Nat.zero_add]
        rw [e, if_pos ⟨r2, g1⟩]
end Go.Proofs.YtoofbflplhbpbaaGreatDoor.Num
