/- Layer 5 (number): the form of a float and its reading: each is the other's inverse. -/
import Derived.Test.YtoofbflplhbpbaaGreatDoorNumFloat
namespace Go.Proofs.YtoofbflplhbpbaaGreatDoor.Num
open Go

/-! the float's parts -/
theorem bitLen_spec : ∀ (k x : Nat), x < 2 ^ k → k ≤ 64 → x ≠ 0 → 2 ^ (Lib.bitLen x - 1) ≤ x ∧ x < 2 ^ Lib.bitLen x ∧ 1 ≤ Lib.bitLen x
  | 0, x, h, _, h0 => by simp at h; exact absurd h h0
  | k + 1, x, h, hk, h0 => by
    have h64 : x < 2 ^ 64 := Nat.lt_of_lt_of_le h (Nat.pow_le_pow_right (by decide) hk)
    rw [Lib.bitLen_half x h0 h64]
    by_cases h1 : x / 2 = 0
    · have : x = 1 := by omega
      subst this
      have : Lib.bitLen (1 / 2) = 0 := by decide
      rw [this]
      simp
    · have ih := bitLen_spec k (x / 2) (by rw [Nat.pow_succ] at h; omega) (by omega) h1
      obtain ⟨a, b, c⟩ := ih
      obtain ⟨m, hm⟩ : ∃ m, Lib.bitLen (x / 2) = m + 1 := ⟨Lib.bitLen (x / 2) - 1, by omega⟩
      rw [hm] at a b ⊢
      simp only [Nat.add_sub_cancel] at a
      rw [show 1 + (m + 1) - 1 = m + 1 by omega, show 1 + (m + 1) = (m + 1) + 1 by omega]
      rw [Nat.pow_succ 2 (m + 1)]
      rw [Nat.pow_succ] at b ⊢
      omega

def up (a : Nat) : Nat := 53 - Lib.bitLen a
/-- a float below the normal ones: doubled till there is a 1 ahead of the point -/
theorem up_spec {a : Nat} (h0 : a ≠ 0) (h : a < 4503599627370496) : 1 ≤ up a ∧ up a ≤ 52 ∧ 4503599627370496 ≤ a * 2 ^ up a ∧ a * 2 ^ up a < 9007199254740992 := by
  obtain ⟨h1, h2, h3⟩ := bitLen_spec 52 a h (by decide) h0
  have h4 : Lib.bitLen a ≤ 52 := Lib.bitLen_le a 52 (by decide) h
  unfold up
  obtain ⟨m, hm⟩ : ∃ m, Lib.bitLen a = m + 1 := ⟨Lib.bitLen a - 1, by omega⟩
  rw [hm] at h1 h2 h4 ⊢
  simp only [Nat.add_sub_cancel] at h1
  have e1 : 2 ^ m * 2 ^ (53 - (m + 1)) = 4503599627370496 := by rw [← Nat.pow_add, show m + (53 - (m + 1)) = 52 by omega]
  have e2 : 2 ^ (m + 1) * 2 ^ (53 - (m + 1)) = 9007199254740992 := by rw [← Nat.pow_add, show m + 1 + (53 - (m + 1)) = 53 by omega]
  refine ⟨by omega, by omega, ?_, ?_⟩
  · rw [← e1]; exact Nat.mul_le_mul_right _ h1
  · rw [← e2]; exact Nat.mul_lt_mul_of_pos_right h2 (Nat.pow_pos (by decide))
theorem bitLen_of {a m : Nat} (h1 : 2 ^ m ≤ a) (h2 : a < 2 ^ (m + 1)) (hm : m < 63) : Lib.bitLen a = m + 1 := by
  have h0 : a ≠ 0 := by have := Nat.pow_pos (n := m) (show 0 < 2 by decide); omega
  obtain ⟨c1, c2, c3⟩ := bitLen_spec (m + 1) a h2 (by omega) h0
  have l1 := Lib.bitLen_le a (m + 1) (by omega) h2
  have l2 : ¬ Lib.bitLen a ≤ m := fun hle => by
    have := Nat.pow_le_pow_right (show 0 < 2 by decide) hle
    omega
  omega

def nexp (a : Nat) : Int := if a < 4503599627370496 then -1022 - (up a : Int) else (a / 4503599627370496 : Nat) - 1023
def nfrac (a : Nat) : Nat := if a < 4503599627370496 then a * 2 ^ up a - 4503599627370496 else a % 4503599627370496
/-- the bits of a fraction and an exponent -/
def bitsOf (f : Nat) (e : Int) : Nat := if -1022 ≤ e then (e + 1023).toNat * 4503599627370496 + f else (4503599627370496 + f) / 2 ^ (-1022 - e).toNat
def fits (f : Nat) (e : Int) : Prop := -1022 ≤ e ∨ (-1022 - e).toNat ≤ Lib.ctz 64 (4503599627370496 + f)
instance (f : Nat) (e : Int) : Decidable (fits f e) := by unfold fits; infer_instance

theorem ctz_dvd {x d : Nat} (h0 : x ≠ 0) (h : x < 2 ^ 64) : d ≤ Lib.ctz 64 x ↔ 2 ^ d ∣ x := by
  have e : Lib.ctz 64 x = Lib.ctzFrom 64 x := by simp [Lib.ctz, h0]
  rw [e]
  obtain ⟨m, hm, _⟩ := Lib.ctzFrom_spec 64 x (by omega) h
  obtain ⟨c, hc⟩ : ∃ c, Lib.ctzFrom 64 x = c := ⟨_, rfl⟩
  rw [hc] at hm ⊢
  constructor
  · intro hd
    rw [hm, show c = d + (c - d) by omega, Nat.pow_add, Nat.mul_assoc]
    exact Nat.dvd_mul_right _ _
  · intro hd
    refine Classical.byContradiction fun hn => ?_
    rw [hm, show d = c + ((d - c - 1) + 1) by omega, Nat.pow_add] at hd
    have h2 := Nat.dvd_of_mul_dvd_mul_left (Nat.pow_pos (by decide)) hd
    rw [Nat.pow_succ] at h2
    have h3 : 2 ∣ 2 * m + 1 := Nat.dvd_trans (Nat.dvd_mul_left 2 _) h2
    omega
theorem nparts {a : Nat} (h0 : a ≠ 0) (h : a < 9218868437227405312) : nfrac a < 4503599627370496 ∧ nexp a ≤ 1023 ∧ -1074 ≤ nexp a ∧ bitsOf (nfrac a) (nexp a) = a ∧ fits (nfrac a) (nexp a) := by
  by_cases hs : a < 4503599627370496
  · obtain ⟨u1, u2, u3, u4⟩ := up_spec h0 hs
    obtain ⟨u, hu⟩ : ∃ u, up a = u := ⟨_, rfl⟩
    obtain ⟨x, hx⟩ : ∃ x, a * 2 ^ u = x := ⟨_, rfl⟩
    have e1 : nexp a = -1022 - (u : Int) := by unfold nexp; rw [if_pos hs, hu]
    have e2 : nfrac a = x - 4503599627370496 := by unfold nfrac; rw [if_pos hs, hu, hx]
    rw [hu] at u1 u2 u3 u4
    rw [hx] at u3 u4
    rw [e1, e2]
    have e3 : (-1022 - (-1022 - (u : Int))).toNat = u := by omega
    have e4 : 4503599627370496 + (x - 4503599627370496) = x := by omega
    refine ⟨by omega, by omega, by omega, ?_, .inr ?_⟩
    · unfold bitsOf
      rw [if_neg (by omega), e3, e4, ← hx, Nat.mul_div_cancel _ (Nat.pow_pos (by decide))]
    · rw [e3, e4, ctz_dvd (by omega) (by omega), ← hx]
      exact Nat.dvd_mul_left _ _
  · have e1 : nexp a = (a / 4503599627370496 : Nat) - 1023 := by unfold nexp; rw [if_neg hs]
    have e2 : nfrac a = a % 4503599627370496 := by unfold nfrac; rw [if_neg hs]
    rw [e1, e2]
    refine ⟨by omega, by omega, by omega, ?_, .inl (by omega)⟩
    unfold bitsOf
    rw [if_pos (by omega)]
    omega
theorem nback {f : Nat} {e : Int} (hf : f < 4503599627370496) (h1 : e ≤ 1023) (h2 : -1074 ≤ e) (hfit : fits f e) :
    bitsOf f e ≠ 0 ∧ bitsOf f e < 9218868437227405312 ∧ nfrac (bitsOf f e) = f ∧ nexp (bitsOf f e) = e := by
  by_cases he : -1022 ≤ e
  · have e1 : bitsOf f e = (e + 1023).toNat * 4503599627370496 + f := by unfold bitsOf; rw [if_pos he]
    rw [e1]
    refine ⟨by omega, by omega, ?_, ?_⟩
    · unfold nfrac; rw [if_neg (by omega)]; omega
    · unfold nexp; rw [if_neg (by omega)]; omega
  · have hd := hfit.resolve_left he
    obtain ⟨d, hd0⟩ : ∃ d, (-1022 - e).toNat = d := ⟨_, rfl⟩
    obtain ⟨x, hx⟩ : ∃ x, 4503599627370496 + f = x := ⟨_, rfl⟩
    have e1 : bitsOf f e = x / 2 ^ d := by unfold bitsOf; rw [if_neg he, hd0, hx]
    rw [hd0, hx, ctz_dvd (by omega) (by omega)] at hd
    obtain ⟨a, ha⟩ := hd
    have hp : 0 < 2 ^ d := Nat.pow_pos (by decide)
    have e2 : x / 2 ^ d = a := by rw [ha, Nat.mul_div_cancel_left _ hp]
    have hd52 : 1 ≤ d ∧ d ≤ 52 := by omega
    rw [e1, e2]
    have hxa : a * 2 ^ d = x := by rw [ha, Nat.mul_comm]
    have lo : 2 ^ (52 - d) ≤ a := by
      refine Nat.le_of_mul_le_mul_right ?_ hp
      rw [← Nat.pow_add, show 52 - d + d = 52 by omega, hxa]
      omega
    have hi : a < 2 ^ (52 - d + 1) := by
      refine Nat.lt_of_mul_lt_mul_right (a := 2 ^ d) ?_
      rw [← Nat.pow_add, show 52 - d + 1 + d = 53 by omega, hxa]
      omega
    have hb := bitLen_of lo hi (by omega)
    have hup : up a = d := by unfold up; omega
    have ha0 : a ≠ 0 := by have := Nat.pow_pos (n := 52 - d) (show 0 < 2 by decide); omega
    have has : a < 4503599627370496 := by
      have : 2 ^ (52 - d + 1) ≤ 2 ^ 52 := Nat.pow_le_pow_right (by decide) (by omega)
      omega
    refine ⟨ha0, by omega, ?_, ?_⟩
    · unfold nfrac; rw [if_pos has, hup, hxa]; omega
    · unfold nexp; rw [if_pos has, hup]; omega

/-! the form -/
def form (f : Nat) (e : Int) : L := [48, 120, 49] ++ (fracS f ++ expS e)
def NANS : L := [48, 120, 110, 97, 110]
def INFS : L := [48, 120, 105, 110, 102]
def ZERO : L := [48, 120, 48]
/-- the form of the float without its sign -/
def fmtU (a : Nat) : L := if a = 9218868437227405312 then INFS else if a = 0 then ZERO else form (nfrac a) (nexp a)
/-- the form of the float with these bits -/
def fmt (b : Nat) : L :=
  if 9218868437227405312 < b % 9223372036854775808 then NANS else sg (decide (9223372036854775808 ≤ b)) ++ fmtU (b % 9223372036854775808)

/-- the first p or m -/
def cutPM : L → Option (L × L)
  | [] => none
  | c :: r => if c = 112 ∨ c = 109 then some ([], c :: r) else (cutPM r).map fun x => (c :: x.1, x.2)
theorem cutPM_some : ∀ (l u v : L), cutPM l = some (u, v) → l = u ++ v
  | [], u, v, h => by simp [cutPM] at h
  | c :: r, u, v, h => by
    simp only [cutPM] at h
    split at h
    · simp only [Option.some.injEq, Prod.mk.injEq] at h
      obtain ⟨rfl, rfl⟩ := h
      rfl
    · cases hc : cutPM r with
      | none => rw [hc] at h; cases h
      | some x =>
        rw [hc] at h
        simp only [Option.map_some, Option.some.injEq, Prod.mk.injEq] at h
        obtain ⟨rfl, rfl⟩ := h
        rw [cutPM_some r x.1 x.2 hc]
        rfl
theorem cutPM_of : ∀ (u : L) (c : UInt8) (r : L), (∀ x ∈ u, x ≠ 112 ∧ x ≠ 109) → c = 112 ∨ c = 109 → cutPM (u ++ c :: r) = some (u, c :: r)
  | [], c, r, _, h => by simp [cutPM, h]
  | d :: u, c, r, hu, h => by
    have hd := hu d (by simp)
    simp only [List.cons_append, cutPM]
    rw [if_neg (by simp [hd.1, hd.2]), cutPM_of u c r (fun x hx => hu x (by simp [hx])) h]
    rfl
/-- number.ParseFloat behind the sign and the two words -/
def pair (t : L) : Option (Nat × Int) :=
  if Lib.hasPrefix t [48, 120, 49] then
    match cutPM (t.drop 3) with
    | none => none
    | some (u, v) => match fracG u, expG v with
      | some f, some e => some (f, e)
      | _, _ => none
  else none
def parseU (t : L) : Option Nat :=
  if t = INFS then some 9218868437227405312 else if t = ZERO then some 0 else
  match pair t with
  | none => none
  | some (f, e) => if fits f e then some (bitsOf f e) else none
def parse (s : L) : Option Nat :=
  if s = NANS then some 9221120237041090560 else
  if s.head? = some 45 then (parseU (s.drop 1)).map (9223372036854775808 + ·) else parseU s

theorem pair_form {t : L} {f : Nat} {e : Int} (h : pair t = some (f, e)) : t = form f e ∧ f < 4503599627370496 ∧ e ≤ 1023 ∧ -1074 ≤ e := by
  unfold pair at h
  split at h
  · rename_i hp
    cases hc : cutPM (t.drop 3) with
    | none => rw [hc] at h; cases h
    | some x =>
      obtain ⟨u, v⟩ := x
      rw [hc] at h
      simp only at h
      cases hf : fracG u with
      | none => rw [hf] at h; simp at h
      | some f' =>
        cases he : expG v with
        | none => rw [hf, he] at h; simp at h
        | some e' =>
          rw [hf, he] at h
          simp only [Option.some.injEq, Prod.mk.injEq] at h
          obtain ⟨rfl, rfl⟩ := h
          obtain ⟨h1, h2⟩ := fracG_form hf
          obtain ⟨h3, h4, h5⟩ := expG_form he
          refine ⟨?_, h2, h4, h5⟩
          have e1 := cutPM_some _ _ _ hc
          unfold Lib.hasPrefix at hp
          rw [List.isPrefixOf_iff_prefix] at hp
          obtain ⟨q, hq⟩ := hp
          unfold form
          rw [← hq] at e1 ⊢
          simp at e1
          rw [e1, ← h1, ← h3]
  · cases h
theorem hexd_not : ∀ d : Fin 16, hexd d.val ≠ 112 ∧ hexd d.val ≠ 109 := by decide
theorem hexN_not : ∀ (k n : Nat), ∀ x ∈ hexN k n, x ≠ 112 ∧ x ≠ 109
  | 0, _, x, h => by simp [hexN] at h
  | k + 1, n, x, h => by
    rw [hexN] at h
    rcases List.mem_append.1 h with h | h
    · exact hexN_not k _ x h
    · rw [List.mem_singleton.1 h]
      exact hexd_not ⟨n % 16, by omega⟩
theorem fracS_not (f : Nat) : ∀ x ∈ fracS f, x ≠ 112 ∧ x ≠ 109 := by
  unfold fracS
  split
  · simp
  · intro x hx
    rcases List.mem_cons.1 hx with rfl | hx
    · decide
    · refine hexN_not 13 f x ?_
      obtain ⟨j, h1, _⟩ := trim_split _ (hexN 13 f) rfl
      rw [h1]
      exact List.mem_append.2 (.inl hx)
theorem pair_of {f : Nat} {e : Int} (hf : f < 4503599627370496) (h1 : e ≤ 1023) (h2 : -1074 ≤ e) : pair (form f e) = some (f, e) := by
  have hx : ∃ c r, expS e = c :: r ∧ (c = 112 ∨ c = 109) := by
    unfold expS
    split
    · exact ⟨_, _, rfl, .inr rfl⟩
    · exact ⟨_, _, rfl, .inl rfl⟩
  obtain ⟨c, r, hc, hc2⟩ := hx
  have e1 : (form f e).drop 3 = fracS f ++ expS e := rfl
  have e2 : Lib.hasPrefix (form f e) [48, 120, 49] = true := by
    unfold Lib.hasPrefix form
    simp [List.isPrefixOf]
  unfold pair
  rw [if_pos e2, e1, hc, cutPM_of _ _ _ (fracS_not f) hc2, ← hc]
  simp only
  rw [fracG_fracS hf, expG_expS h1 h2]
theorem form_head (f : Nat) (e : Int) : (form f e).head? ≠ some 45 ∧ form f e ≠ NANS ∧ form f e ≠ INFS ∧ form f e ≠ ZERO := by
  unfold form NANS INFS ZERO
  refine ⟨by simp, by simp, by simp, by simp⟩

theorem parseU_of {a : Nat} (h : a ≤ 9218868437227405312) : parseU (fmtU a) = some a := by
  unfold fmtU
  by_cases hi : a = 9218868437227405312
  · rw [if_pos hi, hi]; rfl
  · rw [if_neg hi]
    by_cases h0 : a = 0
    · rw [if_pos h0, h0]; rfl
    · rw [if_neg h0]
      obtain ⟨p1, p2, p3, p4, p5⟩ := nparts h0 (by omega)
      obtain ⟨_, _, q3, q4⟩ := form_head (nfrac a) (nexp a)
      unfold parseU
      rw [if_neg q3, if_neg q4, pair_of p1 p2 p3]
      simp only
      rw [if_pos p5, p4]
theorem parseU_form {t : L} {a : Nat} (h : parseU t = some a) : t = fmtU a ∧ a ≤ 9218868437227405312 := by
  unfold parseU at h
  split at h
  · rename_i hi
    simp only [Option.some.injEq] at h
    subst h
    exact ⟨by rw [hi]; rfl, by omega⟩
  · split at h
    · rename_i h0
      simp only [Option.some.injEq] at h
      subst h
      exact ⟨by rw [h0]; rfl, by omega⟩
    · cases hp : pair t with
      | none => rw [hp] at h; cases h
      | some x =>
        obtain ⟨f, e⟩ := x
        rw [hp] at h
        simp only at h
        split at h
        · rename_i hfit
          simp only [Option.some.injEq] at h
          obtain ⟨r1, r2, r3, r4⟩ := pair_form hp
          obtain ⟨s1, s2, s3, s4⟩ := nback r2 r3 r4 hfit
          rw [h] at s1 s2 s3 s4
          refine ⟨?_, by omega⟩
          unfold fmtU
          rw [if_neg (by omega), if_neg s1, s3, s4, r1]
        · cases h
theorem fmtU_head (a : Nat) : (fmtU a).head? ≠ some 45 ∧ fmtU a ≠ NANS := by
  unfold fmtU
  split
  · exact ⟨by decide, by decide⟩
  · split
    · exact ⟨by decide, by decide⟩
    · exact ⟨(form_head _ _).1, (form_head _ _).2.1⟩
/-- the one number that is told for what is no number -/
def canon (b : Nat) : Nat := if 9218868437227405312 < b % 9223372036854775808 then 9221120237041090560 else b
theorem parse_fmt {b : Nat} (hb : b < 18446744073709551616) : parse (fmt b) = some (canon b) := by
  unfold fmt canon
  by_cases hn : 9218868437227405312 < b % 9223372036854775808
  · rw [if_pos hn, if_pos hn]; rfl
  · rw [if_neg hn, if_neg hn]
    obtain ⟨h1, h2⟩ := fmtU_head (b % 9223372036854775808)
    unfold parse
    by_cases hs : 9223372036854775808 ≤ b
    · rw [decide_eq_true hs]
      have e : sg true ++ fmtU (b % 9223372036854775808) = 45 :: fmtU (b % 9223372036854775808) := rfl
      rw [e, if_neg (by simp [NANS]), List.head?_cons, if_pos rfl, List.drop_succ_cons, List.drop_zero, parseU_of (by omega)]
      simp only [Option.map_some, Option.some.injEq]
      omega
    · rw [decide_eq_false hs]
      have e : sg false ++ fmtU (b % 9223372036854775808) = fmtU (b % 9223372036854775808) := rfl
      rw [e, if_neg h2, if_neg h1, parseU_of (by omega)]
      congr 1
      omega
theorem fmt_parse {s : L} {b : Nat} (h : parse s = some b) : fmt b = s ∧ b < 18446744073709551616 ∧ canon b = b := by
  unfold parse at h
  split at h
  · rename_i hn
    simp only [Option.some.injEq] at h
    subst h
    exact ⟨by rw [hn]; rfl, by omega, by decide⟩
  · split at h
    · rename_i hd
      obtain ⟨t, rfl⟩ : ∃ t, s = 45 :: t := by
        cases s with
        | nil => simp at hd
        | cons c t => simp at hd; subst hd; exact ⟨t, rfl⟩
      rw [List.drop_succ_cons, List.drop_zero] at h
      cases hp : parseU t with
      | none => rw [hp] at h; cases h
      | some a =>
        rw [hp] at h
        simp only [Option.map_some, Option.some.injEq] at h
        obtain ⟨r1, r2⟩ := parseU_form hp
        have e1 : b % 9223372036854775808 = a := by omega
        refine ⟨?_, by omega, by unfold canon; rw [if_neg (by omega)]⟩
        unfold fmt
        rw [e1, if_neg (by omega), decide_eq_true (by omega), r1]
        rfl
    · obtain ⟨r1, r2⟩ := parseU_form h
      have e1 : b % 9223372036854775808 = b := by omega
      refine ⟨?_, by omega, by unfold canon; rw [if_neg (by omega)]⟩
      unfold fmt
      rw [e1, if_neg (by omega), decide_eq_false (by omega)]
      exact r1.symm
end Go.Proofs.YtoofbflplhbpbaaGreatDoor.Num
