/- Layer 24 (lexer): the plain law: gaps, tokens, reading, quoting. -/
import Derived.Test.YtoofbflplhbpbaaGreatDoorNumGuess
namespace Go.Proofs.YtoofbflplhbpbaaGreatDoor.Lex
open Go
abbrev L := List UInt8

/-! the bytes -/
def isLet (c : UInt8) : Bool := (decide (97 ≤ c.toNat) && decide (c.toNat ≤ 122)) || (decide (65 ≤ c.toNat) && decide (c.toNat ≤ 90)) || decide (c.toNat = 95)
def inWord (c : UInt8) : Bool := isLet c || Num.isDig c
def inNum (c : UInt8) : Bool := inWord c || c == 46
def blank (c : UInt8) : Bool := c == 32 || c == 9 || c == 13 || c == 10
def run (p : UInt8 → Bool) (l : L) : Nat := (l.takeWhile p).length
/-- the bytes of blanks and comments ahead; within a comment or not -/
def gap : Bool → L → Nat
  | _, [] => 0
  | true, c :: r => 1 + gap (c != 10) r
  | false, c :: r => if c = 47 ∧ r.head? = some 47 then 1 + gap true r else if blank c then 1 + gap false r else 0

structure Tok where
  kind : Nat
  text : L
  num : Int
  pos : Nat
inductive Res where
  | tok (kind : Nat) (text : L) (num : Int) (len : Nat)
  | err (off : Nat) (e : Nat)

/-! the tokens -/
def int64 (b : Nat) : Int := if b < 9223372036854775808 then (b : Int) else (b : Int) - 18446744073709551616
def numHead (w : L) : L := if w.head? = some 45 then w.drop 1 else w
def numTok (w : L) : Res :=
  if Lib.hasPrefix (numHead w) [48, 120] = true then
    match Num.parse w with
    | some b => .tok 3 [] (int64 b) w.length
    | none => .err 0 52
  else if (Num.parseInt w).2 = 0 then .tok 2 [] (Num.parseInt w).1 w.length else .err 0 (Num.parseInt w).2
def esc : L → Option (UInt8 × Nat)
  | [] => none
  | c :: r =>
    if c = 92 ∨ c = 39 then some (c, 1) else
    if c = 110 then some (10, 1) else
    if c = 114 then some (13, 1) else
    if c = 116 then some (9, 1) else
    if c = 120 then
      match r with
      | a :: b :: _ =>
        match Num.hexv a, Num.hexv b with
        | some x, some y => some (UInt8.ofNat (x * 16 + y), 3)
        | _, _ => none
      | _ => none
    else none
def odd (c : UInt8) : Bool := decide (c.toNat < 32) || decide (126 < c.toNat)
/-- what stands behind a quote: the number of rounds, what is left, its place from the quote on, the text so far -/
def textR : Nat → L → Nat → L → Res
  | 0, _, _, _ => .err 0 241
  | _ + 1, [], _, _ => .err 0 241
  | k + 1, c :: r, o, b =>
    if c = 39 then .tok 4 b 0 (o + 1) else
    if odd c = true then .err o 240 else
    if c = 92 then
      match esc r with
      | none => .err o 242
      | some (x, n) => textR k (r.drop n) (o + 1 + n) (b ++ [x])
    else textR k r (o + 1) (b ++ [c])
def MARKS : L := [40, 41, 123, 125, 91, 93, 58, 44, 59, 45]
def tok1 : L → Res
  | [] => .err 0 0
  | c :: r =>
    if c = 39 then textR (r.length + 1) r 1 [] else
    if isLet c = true then .tok 1 ((c :: r).take (run inWord (c :: r))) 0 (run inWord (c :: r)) else
    if Num.isDig c = true ∨ (c = 45 ∧ r.head?.any Num.isDig = true) then numTok ((c :: r).take (1 + run inNum r)) else
    if c = 45 ∧ r.head? = some 62 then .tok 5 [45, 62] 0 2 else
    if c ∈ MARKS then .tok 5 [c] 0 1 else .err 0 240
/-- the tokens, and the place and number of the error -/
def scan : Nat → L → Nat → List Tok × Option (Nat × Nat)
  | 0, _, _ => ([], none)
  | _ + 1, [], _ => ([], none)
  | k + 1, c :: r, i =>
    match tok1 (c :: r) with
    | .err o e => ([], some (i + o, e))
    | .tok kd tx nm n =>
      ((⟨kd, tx, nm, i⟩ : Tok) :: (scan k ((c :: r).drop (n + gap false ((c :: r).drop n))) (i + n + gap false ((c :: r).drop n))).1,
       (scan k ((c :: r).drop (n + gap false ((c :: r).drop n))) (i + n + gap false ((c :: r).drop n))).2)
def body (l : L) (i : Nat) : List Tok × Option (Nat × Nat) := scan (l.length + 1) (l.drop (gap false l)) (i + gap false l)
def read (s : L) : List Tok × Option (Nat × Nat) := if 16777216 < s.length then ([], some (0, 1)) else body s 0

/-! sizes -/
theorem run_le (p : UInt8 → Bool) (l : L) : run p l ≤ l.length := by
  unfold run
  exact (List.takeWhile_prefix p).length_le
theorem run_cons_pos {p : UInt8 → Bool} {c : UInt8} (r : L) (h : p c = true) : run p (c :: r) = 1 + run p r := by
  unfold run
  rw [List.takeWhile_cons, if_pos h, List.length_cons, Nat.add_comm]
theorem run_cons_neg {p : UInt8 → Bool} {c : UInt8} (r : L) (h : p c = false) : run p (c :: r) = 0 := by
  unfold run
  rw [List.takeWhile_cons, if_neg (by rw [h]; decide)]
  rfl
theorem gap_le : ∀ (b : Bool) (l : L), gap b l ≤ l.length
  | _, [] => by simp [gap]
  | true, c :: r => by
    have := gap_le (c != 10) r
    simp only [gap, List.length_cons]
    omega
  | false, c :: r => by
    have h1 := gap_le true r
    have h2 := gap_le false r
    simp only [gap, List.length_cons]
    split
    · omega
    · split <;> omega
theorem esc_le {r : L} {x : UInt8} {n : Nat} (h : esc r = some (x, n)) : 1 ≤ n ∧ n ≤ r.length := by
  unfold esc at h
  split at h
  · cases h
  · rename_i c r
    rw [List.length_cons]
    repeat' split at h
    all_goals first
      | (cases h; done)
      | (simp only [Option.some.injEq, Prod.mk.injEq] at h; obtain ⟨rfl, rfl⟩ := h; (try simp only [List.length_cons]); omega)
theorem textR_len : ∀ (k : Nat) (r : L) (o : Nat) (b : L) {kd : Nat} {tx : L} {nm : Int} {n : Nat}, textR k r o b = .tok kd tx nm n → o + 1 ≤ n ∧ n ≤ o + r.length
  | 0, r, o, b, kd, tx, nm, n, h => by simp [textR] at h
  | k + 1, [], o, b, kd, tx, nm, n, h => by simp [textR] at h
  | k + 1, c :: r, o, b, kd, tx, nm, n, h => by
    simp only [textR] at h
    rw [List.length_cons]
    split at h
    · simp only [Res.tok.injEq] at h; omega
    · split at h
      · cases h
      · split at h
        · cases he : esc r with
          | none => rw [he] at h; cases h
          | some x =>
            obtain ⟨x, m⟩ := x
            rw [he] at h
            simp only at h
            obtain ⟨h1, h2⟩ := esc_le he
            have := textR_len k _ _ _ h
            rw [List.length_drop] at this
            omega
        · have := textR_len k _ _ _ h
          omega
theorem numTok_len {w : L} {kd : Nat} {tx : L} {nm : Int} {n : Nat} (h : numTok w = .tok kd tx nm n) : n = w.length := by
  unfold numTok at h
  split at h
  · split at h
    · simp only [Res.tok.injEq] at h; omega
    · cases h
  · split at h
    · simp only [Res.tok.injEq] at h; omega
    · cases h
theorem tok1_len {l : L} {kd : Nat} {tx : L} {nm : Int} {n : Nat} (h : tok1 l = .tok kd tx nm n) : 1 ≤ n ∧ n ≤ l.length := by
  cases l with
  | nil => simp [tok1] at h
  | cons c r =>
    simp only [tok1] at h
    split at h
    · have := textR_len _ _ _ _ h
      rw [List.length_cons]
      omega
    · split at h
      · rename_i h1
        simp only [Res.tok.injEq] at h
        have h2 := run_le inWord (c :: r)
        have h3 := run_cons_pos (p := inWord) r (c := c) (by unfold inWord; rw [h1]; rfl)
        omega
      · split at h
        · have h1 := numTok_len h
          have h2 := run_le inNum r
          rw [List.length_take, List.length_cons] at h1
          rw [List.length_cons]
          omega
        · split at h
          · rename_i h1
            simp only [Res.tok.injEq] at h
            have : 1 ≤ r.length := by
              cases r with
              | nil => simp at h1
              | cons d r => simp
            rw [List.length_cons]
            omega
          · split at h
            · simp only [Res.tok.injEq] at h
              rw [List.length_cons]
              omega
            · cases h
theorem scan_nil (k i : Nat) : scan k [] i = ([], none) := by cases k <;> rfl
/-- one token more -/
theorem scan_tok {k : Nat} {l : L} {i kd : Nat} {tx : L} {nm : Int} {n g : Nat} (h : tok1 l = .tok kd tx nm n) (hg : gap false (l.drop n) = g) :
    scan (k + 1) l i = ((⟨kd, tx, nm, i⟩ : Tok) :: (scan k (l.drop (n + g)) (i + n + g)).1, (scan k (l.drop (n + g)) (i + n + g)).2) := by
  cases l with
  | nil => simp [tok1] at h
  | cons c r =>
    simp only [scan]
    rw [h]
    simp only [hg]
theorem scan_err {k : Nat} {l : L} {i o e : Nat} (hl : l ≠ []) (h : tok1 l = .err o e) : scan (k + 1) l i = ([], some (i + o, e)) := by
  cases l with
  | nil => exact absurd rfl hl
  | cons c r =>
    simp only [scan]
    rw [h]
/-- rounds enough are rounds enough -/
theorem scan_fuel : ∀ (k m : Nat) (l : L) (i : Nat), l.length < k → l.length < m → scan k l i = scan m l i
  | 0, _, _, _, h, _ => by omega
  | _, 0, _, _, _, h => by omega
  | k + 1, m + 1, [], i, _, _ => by rw [scan_nil, scan_nil]
  | k + 1, m + 1, c :: r, i, h1, h2 => by
    cases ht : tok1 (c :: r) with
    | err o e => rw [scan_err (by simp) ht, scan_err (by simp) ht]
    | tok kd tx nm n =>
      obtain ⟨t1, t2⟩ := tok1_len ht
      rw [scan_tok ht rfl, scan_tok ht rfl]
      have e := scan_fuel k m ((c :: r).drop (n + gap false ((c :: r).drop n))) (i + n + gap false ((c :: r).drop n)) (by rw [List.length_drop]; omega) (by rw [List.length_drop]; omega)
      rw [e]
theorem drop_gap_len (l : L) : (l.drop (gap false l)).length < l.length + 1 := by rw [List.length_drop]; omega
/-- the reading, a token at a time -/
theorem body_end {l : L} (i : Nat) (h : l.drop (gap false l) = []) : body l i = ([], none) := by
  unfold body
  rw [h, scan_nil]
theorem body_err {l l' : L} {i o e : Nat} (h : l.drop (gap false l) = l') (hl : l' ≠ []) (ht : tok1 l' = .err o e) : body l i = ([], some (i + gap false l + o, e)) := by
  unfold body
  rw [h, scan_err hl ht]
theorem body_tok {l l' : L} {i kd : Nat} {tx : L} {nm : Int} {n : Nat} (h : l.drop (gap false l) = l') (ht : tok1 l' = .tok kd tx nm n) :
    body l i = ((⟨kd, tx, nm, i + gap false l⟩ : Tok) :: (body (l'.drop n) (i + gap false l + n)).1, (body (l'.drop n) (i + gap false l + n)).2) := by
  obtain ⟨t1, t2⟩ := tok1_len ht
  unfold body
  rw [h, scan_tok ht rfl]
  have hl : l'.length ≤ l.length := by rw [← h, List.length_drop]; omega
  have e : scan l.length (l'.drop (n + gap false (l'.drop n))) (i + gap false l + n + gap false (l'.drop n)) = scan ((l'.drop n).length + 1) ((l'.drop n).drop (gap false (l'.drop n))) (i + gap false l + n + gap false (l'.drop n)) := by
    rw [List.drop_drop]
    exact scan_fuel _ _ _ _ (by rw [List.length_drop]; omega) (by rw [List.length_drop, List.length_drop]; omega)
  rw [e]

/-! places are shifted -/
def Tok.shift (d : Nat) (t : Tok) : Tok := ⟨t.kind, t.text, t.num, t.pos + d⟩
def shiftE (d : Nat) (x : Option (Nat × Nat)) : Option (Nat × Nat) := x.map fun y => (y.1 + d, y.2)
theorem scan_shift : ∀ (k : Nat) (l : L) (i d : Nat), scan k l (i + d) = ((scan k l i).1.map (Tok.shift d), shiftE d (scan k l i).2)
  | 0, l, i, d => rfl
  | k + 1, [], i, d => by rw [scan_nil, scan_nil]; rfl
  | k + 1, c :: r, i, d => by
    cases ht : tok1 (c :: r) with
    | err o e =>
      rw [scan_err (by simp) ht, scan_err (by simp) ht]
      simp only [List.map_nil, shiftE, Option.map_some, Prod.mk.injEq, Option.some.injEq, true_and, and_true]
      omega
    | tok kd tx nm n =>
      rw [scan_tok ht rfl, scan_tok ht rfl]
      have ih := scan_shift k ((c :: r).drop (n + gap false ((c :: r).drop n))) (i + n + gap false ((c :: r).drop n)) d
      rw [show i + d + n + gap false ((c :: r).drop n) = i + n + gap false ((c :: r).drop n) + d by omega, ih]
      rfl
theorem body_shift (l : L) (i d : Nat) : body l (i + d) = ((body l i).1.map (Tok.shift d), shiftE d (body l i).2) := by
  unfold body
  rw [show i + d + gap false l = i + gap false l + d by omega]
  exact scan_shift _ _ _ _

/-! an error has a number -/
theorem textR_err : ∀ (k : Nat) (r : L) (o : Nat) (b : L) {p e : Nat}, textR k r o b = .err p e → e ≠ 0 ∧ p ≤ o + r.length
  | 0, r, o, b, p, e, h => by simp only [textR, Res.err.injEq] at h; omega
  | k + 1, [], o, b, p, e, h => by simp only [textR, Res.err.injEq] at h; omega
  | k + 1, c :: r, o, b, p, e, h => by
    simp only [textR] at h
    rw [List.length_cons]
    split at h
    · cases h
    · split at h
      · simp only [Res.err.injEq] at h; omega
      · split at h
        · cases he : esc r with
          | none => rw [he] at h; simp only [Res.err.injEq] at h; omega
          | some x =>
            obtain ⟨x, m⟩ := x
            rw [he] at h
            simp only at h
            obtain ⟨h1, h2⟩ := esc_le he
            have := textR_err k _ _ _ h
            rw [List.length_drop] at this
            omega
        · have := textR_err k _ _ _ h
          omega
theorem tok1_err {l : L} {o e : Nat} (hl : l ≠ []) (h : tok1 l = .err o e) : e ≠ 0 ∧ o ≤ l.length := by
  cases l with
  | nil => exact absurd rfl hl
  | cons c r =>
    simp only [tok1] at h
    rw [List.length_cons]
    split at h
    · have := textR_err _ _ _ _ h
      omega
    · split at h
      · cases h
      · split at h
        · unfold numTok at h
          split at h
          · split at h
            · cases h
            · simp only [Res.err.injEq] at h; omega
          · split at h
            · cases h
            · simp only [Res.err.injEq] at h; omega
        · split at h
          · cases h
          · split at h
            · cases h
            · simp only [Res.err.injEq] at h; omega

/-! two scripts -/
theorem run_join {p : UInt8 → Bool} (h : p 10 = false) (b : L) : ∀ l : L, run p (l ++ 10 :: b) = run p l
  | [] => run_cons_neg b h
  | c :: r => by
    rw [List.cons_append]
    cases hc : p c with
    | true => rw [run_cons_pos _ hc, run_cons_pos _ hc, run_join h b r]
    | false => rw [run_cons_neg _ hc, run_cons_neg _ hc]
theorem esc_join {r : L} {x : UInt8} {n : Nat} (z : L) (h : esc r = some (x, n)) : esc (r ++ z) = some (x, n) := by
  cases r with
  | nil => cases h
  | cons c r =>
    rw [List.cons_append]
    simp only [esc] at h ⊢
    split at h
    · rename_i h1; rw [if_pos h1]; exact h
    · rename_i h1
      rw [if_neg h1]
      split at h
      · rename_i h2; rw [if_pos h2]; exact h
      · rename_i h2
        rw [if_neg h2]
        split at h
        · rename_i h3; rw [if_pos h3]; exact h
        · rename_i h3
          rw [if_neg h3]
          split at h
          · rename_i h4; rw [if_pos h4]; exact h
          · rename_i h4
            rw [if_neg h4]
            split at h
            · rename_i h5
              rw [if_pos h5]
              match r, h with
              | a :: b :: r, h => exact h
            · cases h
theorem textR_join (z : L) : ∀ (k m : Nat) (r : L) (o : Nat) (b : L) {kd : Nat} {tx : L} {nm : Int} {n : Nat}, textR k r o b = .tok kd tx nm n → k ≤ m → textR m (r ++ z) o b = .tok kd tx nm n
  | 0, _, _, _, _, _, _, _, _, h, _ => by simp [textR] at h
  | _ + 1, 0, _, _, _, _, _, _, _, _, h => by omega
  | _ + 1, _ + 1, [], _, _, _, _, _, _, h, _ => by simp [textR] at h
  | k + 1, m + 1, c :: r, o, b, kd, tx, nm, n, h, hk => by
    rw [List.cons_append]
    simp only [textR] at h ⊢
    split at h
    · rename_i h1; rw [if_pos h1]; exact h
    · rename_i h1
      rw [if_neg h1]
      split at h
      · cases h
      · rename_i h2
        rw [if_neg h2]
        split at h
        · rename_i h3
          rw [if_pos h3]
          cases he : esc r with
          | none => rw [he] at h; cases h
          | some x =>
            obtain ⟨x, j⟩ := x
            rw [he] at h
            rw [esc_join z he]
            simp only at h ⊢
            obtain ⟨e1, e2⟩ := esc_le he
            have := textR_join z k m _ _ _ h (by omega)
            rw [List.drop_append_of_le_length e2]
            exact this
        · rename_i h3
          rw [if_neg h3]
          exact textR_join z k m _ _ _ h (by omega)
theorem tok1_join {l : L} {kd : Nat} {tx : L} {nm : Int} {n : Nat} (b : L) (h : tok1 l = .tok kd tx nm n) : tok1 (l ++ 10 :: b) = .tok kd tx nm n := by
  cases l with
  | nil => simp [tok1] at h
  | cons c r =>
    rw [List.cons_append]
    simp only [tok1] at h ⊢
    split at h
    · rename_i h1
      rw [if_pos h1]
      exact textR_join _ _ _ _ _ _ h (by rw [List.length_append]; omega)
    · rename_i h1
      rw [if_neg h1]
      split at h
      · rename_i h2
        rw [if_pos h2]
        have e := run_join (p := inWord) (by decide) b (c :: r)
        rw [List.cons_append] at e
        rw [e, ← List.cons_append, List.take_append_of_le_length (run_le _ _)]
        exact h
      · rename_i h2
        rw [if_neg h2]
        have hh : (r ++ 10 :: b).head?.any Num.isDig = r.head?.any Num.isDig := by
          cases r with
          | nil => rfl
          | cons d r => rfl
        rw [hh]
        split at h
        · rename_i h3
          rw [if_pos h3]
          have e := run_join (p := inNum) (by decide) b r
          have e2 := run_le inNum r
          rw [e, ← List.cons_append, List.take_append_of_le_length (by rw [List.length_cons]; omega)]
          exact h
        · rename_i h3
          rw [if_neg h3]
          split at h
          · rename_i h4
            have : (r ++ 10 :: b).head? = some 62 := by
              cases r with
              | nil => simp at h4
              | cons d r => exact h4.2
            rw [if_pos ⟨h4.1, this⟩]
            exact h
          · rename_i h4
            have : ¬ (c = 45 ∧ (r ++ 10 :: b).head? = some 62) := by
              rintro ⟨g1, g2⟩
              cases r with
              | nil => simp at g2
              | cons d r => exact h4 ⟨g1, g2⟩
            rw [if_neg this]
            exact h
theorem gap_join (b : L) : ∀ (st : Bool) (l : L), gap st (l ++ 10 :: b) = if gap st l = l.length then l.length + 1 + gap false b else gap st l
  | true, [] => by simp [gap]
  | false, [] => by
    simp only [List.nil_append, gap, List.length_nil, if_true]
    rw [if_neg (by rintro ⟨h, _⟩; exact absurd h (by decide)), if_pos (by decide)]
  | true, c :: r => by
    have ih := gap_join b (c != 10) r
    have g1 : gap true (c :: r) = 1 + gap (c != 10) r := rfl
    have g2 : gap true (c :: r ++ 10 :: b) = 1 + gap (c != 10) (r ++ 10 :: b) := rfl
    rw [g1, g2, ih, List.length_cons]
    by_cases hx : gap (c != 10) r = r.length
    · rw [if_pos hx, if_pos (by omega)]; omega
    · rw [if_neg hx, if_neg (by omega)]
  | false, c :: r => by
    have i1 := gap_join b true r
    have i2 := gap_join b false r
    have hh : (r ++ 10 :: b).head? = some 47 ↔ r.head? = some 47 := by
      cases r with
      | nil => simp
      | cons d r => simp
    by_cases h1 : c = 47 ∧ r.head? = some 47
    · have g1 : gap false (c :: r) = 1 + gap true r := by simp only [gap]; rw [if_pos h1]
      have g2 : gap false (c :: r ++ 10 :: b) = 1 + gap true (r ++ 10 :: b) := by rw [List.cons_append]; simp only [gap]; rw [if_pos ⟨h1.1, hh.2 h1.2⟩]
      rw [g1, g2, i1, List.length_cons]
      by_cases hx : gap true r = r.length
      · rw [if_pos hx, if_pos (by omega)]; omega
      · rw [if_neg hx, if_neg (by omega)]
    · by_cases h2 : blank c = true
      · have g1 : gap false (c :: r) = 1 + gap false r := by simp only [gap]; rw [if_neg h1, if_pos h2]
        have g2 : gap false (c :: r ++ 10 :: b) = 1 + gap false (r ++ 10 :: b) := by rw [List.cons_append]; simp only [gap]; rw [if_neg (fun g => h1 ⟨g.1, hh.1 g.2⟩), if_pos h2]
        rw [g1, g2, i2, List.length_cons]
        by_cases hx : gap false r = r.length
        · rw [if_pos hx, if_pos (by omega)]; omega
        · rw [if_neg hx, if_neg (by omega)]
      · have g1 : gap false (c :: r) = 0 := by simp only [gap]; rw [if_neg h1, if_neg h2]
        have g2 : gap false (c :: r ++ 10 :: b) = 0 := by rw [List.cons_append]; simp only [gap]; rw [if_neg (fun g => h1 ⟨g.1, hh.1 g.2⟩), if_neg h2]
        rw [g1, g2, List.length_cons, if_neg (by omega)]
/-- a script that is read, a line's end, another: the tokens of both, or the second one's error -/
theorem body_join (b : L) : ∀ (n : Nat) (l : L) (i : Nat), l.length ≤ n → (body l i).2 = none →
    body (l ++ 10 :: b) i = ((body l i).1 ++ (body b (i + l.length + 1)).1, (body b (i + l.length + 1)).2) := by
  intro n
  induction n with
  | zero =>
    intro l i hl _
    have : l = [] := List.eq_nil_of_length_eq_zero (by omega)
    subst this
    have hg : gap false (10 :: b) = 1 + gap false b := by
      simp only [gap]
      rw [if_neg (by rintro ⟨h, _⟩; exact absurd h (by decide)), if_pos (by decide)]
    rw [body_end (l := []) i rfl]
    unfold body
    rw [List.nil_append, hg, show 1 + gap false b = gap false b + 1 by omega, List.drop_succ_cons]
    simp only [List.nil_append, List.length_nil, List.length_cons, Nat.add_zero]
    rw [show i + (gap false b + 1) = i + 1 + gap false b by omega, scan_fuel (b.length + 1 + 1) (b.length + 1) _ _ (by rw [List.length_drop]; omega) (by rw [List.length_drop]; omega)]
  | succ n ih =>
    intro l i hl hn
    obtain ⟨l', hl'⟩ : ∃ l', l.drop (gap false l) = l' := ⟨_, rfl⟩
    have hg := gap_join b false l
    have hgl := gap_le false l
    by_cases he : l' = []
    · subst he
      have hge : gap false l = l.length := by
        have := congrArg List.length hl'
        rw [List.length_drop, List.length_nil] at this
        omega
      rw [if_pos hge] at hg
      rw [body_end i hl']
      unfold body
      have hd : (l ++ 10 :: b).drop (l.length + 1 + gap false b) = b.drop (gap false b) := by
        rw [show l.length + 1 + gap false b = l.length + (gap false b + 1) by omega, ← List.drop_drop, List.drop_left, List.drop_succ_cons]
      rw [hg, hd]
      simp only [List.nil_append, List.length_append, List.length_cons]
      rw [show i + (l.length + 1 + gap false b) = i + l.length + 1 + gap false b by omega, scan_fuel (l.length + (b.length + 1) + 1) (b.length + 1) _ _ (by rw [List.length_drop]; omega) (by rw [List.length_drop]; omega)]
    · have hge : gap false l ≠ l.length := by
        intro h
        apply he
        rw [← hl', h, List.drop_length]
      rw [if_neg hge] at hg
      have hd : (l ++ 10 :: b).drop (gap false (l ++ 10 :: b)) = l' ++ 10 :: b := by
        rw [hg, List.drop_append_of_le_length hgl, hl']
      cases ht : tok1 l' with
      | err o e => rw [body_err hl' he ht] at hn; cases hn
      | tok kd tx nm m =>
        obtain ⟨t1, t2⟩ := tok1_len ht
        have hl2 : l'.length ≤ l.length := by rw [← hl', List.length_drop]; omega
        rw [body_tok hl' ht] at hn ⊢
        rw [body_tok hd (tok1_join b ht), hg, List.drop_append_of_le_length t2]
        simp only at hn
        rw [ih (l'.drop m) (i + gap false l + m) (by rw [List.length_drop]; omega) hn]
        have hsum : i + gap false l + m + (l'.drop m).length + 1 = i + l.length + 1 := by
          rw [List.length_drop, ← hl', List.length_drop]
          have : m ≤ l.length - gap false l := by rw [← hl', List.length_drop] at t2; exact t2
          omega
        rw [hsum]
        rfl

/-! quoting -/
def q1 (c : UInt8) : L :=
  if c = 10 then [92, 110] else
  if c = 13 then [92, 114] else
  if c = 9 then [92, 116] else
  if odd c = true then [92, 120, Num.hexd (c.toNat / 16), Num.hexd (c.toNat % 16)] else
  if c = 39 ∨ c = 92 then [92, c] else [c]
def quote (s : L) : L := 39 :: (s.flatMap q1 ++ [39])
theorem q1_len (c : UInt8) : 1 ≤ (q1 c).length ∧ (q1 c).length ≤ 4 := by
  unfold q1
  repeat' split
  all_goals simp
theorem quote_len (s : L) : (quote s).length ≤ 4 * s.length + 2 := by
  unfold quote
  rw [List.length_cons, List.length_append, List.length_singleton]
  have : ∀ s : L, (s.flatMap q1).length ≤ 4 * s.length := by
    intro s
    induction s with
    | nil => simp
    | cons c r ih =>
      rw [List.flatMap_cons, List.length_append, List.length_cons]
      have := q1_len c
      omega
  have := this s
  omega
theorem odd_92 : odd 92 = false := by decide
theorem textR_plain {k : Nat} {c : UInt8} {r : L} {o : Nat} {b : L} (h1 : c ≠ 39) (h2 : odd c = false) (h3 : c ≠ 92) : textR (k + 1) (c :: r) o b = textR k r (o + 1) (b ++ [c]) := by
  simp only [textR]
  rw [if_neg h1, if_neg (by rw [h2]; decide), if_neg h3]
theorem textR_esc {k : Nat} {r : L} {o n : Nat} {x : UInt8} {b : L} (h : esc r = some (x, n)) : textR (k + 1) (92 :: r) o b = textR k (r.drop n) (o + 1 + n) (b ++ [x]) := by
  simp only [textR]
  rw [if_neg (by decide), if_neg (by rw [odd_92]; decide), if_true, h]
theorem hexv_hexd' {d : Nat} (h : d < 16) : Num.hexv (Num.hexd d) = some d := Num.hexv_hexd ⟨d, h⟩
theorem textR_q1 (c : UInt8) (z : L) (k o : Nat) (b : L) : textR (k + 1) (q1 c ++ z) o b = textR k z (o + (q1 c).length) (b ++ [c]) := by
  unfold q1
  by_cases h1 : c = 10
  · subst h1; rw [if_pos rfl]; exact textR_esc (r := 110 :: z) (n := 1) rfl
  rw [if_neg h1]
  by_cases h2 : c = 13
  · subst h2; rw [if_pos rfl]; exact textR_esc (r := 114 :: z) (n := 1) rfl
  rw [if_neg h2]
  by_cases h3 : c = 9
  · subst h3; rw [if_pos rfl]; exact textR_esc (r := 116 :: z) (n := 1) rfl
  rw [if_neg h3]
  by_cases h4 : odd c = true
  · rw [if_pos h4]
    have hc := UInt8.toNat_lt c
    have he : esc (120 :: Num.hexd (c.toNat / 16) :: Num.hexd (c.toNat % 16) :: z) = some (c, 3) := by
      simp only [esc]
      rw [if_neg (by decide), if_neg (by decide), if_neg (by decide), if_neg (by decide), if_true, hexv_hexd' (by omega), hexv_hexd' (by omega)]
      simp only [Option.some.injEq, Prod.mk.injEq, and_true]
      rw [show c.toNat / 16 * 16 + c.toNat % 16 = c.toNat by omega]
      simp
    exact textR_esc he
  rw [if_neg h4]
  have h4' : odd c = false := by cases h : odd c with
    | false => rfl
    | true => exact absurd h h4
  by_cases h5 : c = 39 ∨ c = 92
  · rw [if_pos h5]
    have he : esc (c :: z) = some (c, 1) := by
      simp only [esc]
      rw [if_pos h5.symm]
    exact textR_esc he
  · rw [if_neg h5]
    exact textR_plain (fun h => h5 (.inl h)) h4' (fun h => h5 (.inr h))
theorem textR_quote : ∀ (s : L) (k o : Nat) (b : L), s.length < k → textR k (s.flatMap q1 ++ [39]) o b = .tok 4 (b ++ s) 0 (o + (s.flatMap q1).length + 1)
  | _, 0, _, _, h => by omega
  | [], k + 1, o, b, _ => by simp [textR]
  | c :: r, k + 1, o, b, h => by
    rw [List.flatMap_cons, List.append_assoc, textR_q1, textR_quote r k _ _ (by rw [List.length_cons] at h; omega), List.length_append]
    simp only [List.append_assoc, List.singleton_append]
    congr 1
    omega
theorem flatMap_len (s : L) : s.length ≤ (s.flatMap q1).length := by
  induction s with
  | nil => simp
  | cons c r ih =>
    rw [List.flatMap_cons, List.length_append, List.length_cons]
    have := q1_len c
    omega
/-- a quoted text is one token that stands for it -/
theorem read_quote {s : L} (h : (quote s).length ≤ 16777216) : read (quote s) = ([⟨4, s, 0, 0⟩], none) := by
  unfold read
  rw [if_neg (by omega)]
  have hg : gap false (quote s) = 0 := by
    unfold quote
    simp only [gap]
    rw [if_neg (by rintro ⟨h, _⟩; exact absurd h (by decide)), if_neg (by decide)]
  have hd : (quote s).drop (gap false (quote s)) = quote s := by rw [hg]; rfl
  have hl := flatMap_len s
  have ht : tok1 (quote s) = .tok 4 s 0 (quote s).length := by
    unfold quote
    simp only [tok1, if_true]
    rw [textR_quote s _ 1 [] (by rw [List.length_append, List.length_singleton]; omega)]
    simp only [List.nil_append, List.length_cons, List.length_append, List.length_nil]
    congr 1
    omega
  rw [body_tok hd ht, List.drop_length, hg, body_end _ rfl]
/-- the errors of a reading -/
theorem read_join {a b : L} (h : (read a).2 = none) (ha : a.length ≤ 8000000) (hb : b.length ≤ 8000000) :
    read (a ++ 10 :: b) = ((read a).1 ++ (read b).1.map (Tok.shift (a.length + 1)), shiftE (a.length + 1) (read b).2) := by
  unfold read at h ⊢
  rw [if_neg (by omega)] at h
  rw [if_neg (by rw [List.length_append, List.length_cons]; omega), if_neg (by omega), if_neg (by omega), body_join b _ a 0 (Nat.le_refl _) h]
  have e := body_shift b 0 (a.length + 1)
  rw [Nat.zero_add] at e
  rw [show 0 + a.length + 1 = a.length + 1 by omega, e]
end Go.Proofs.YtoofbflplhbpbaaGreatDoor.Lex
