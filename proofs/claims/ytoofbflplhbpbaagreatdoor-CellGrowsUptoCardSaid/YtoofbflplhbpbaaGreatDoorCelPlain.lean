/- Layer 22 (cell): the plain law: values, their check, printing, reading. -/
import Derived.Test.YtoofbflplhbpbaaGreatDoorNumGuess
namespace Go.Proofs.YtoofbflplhbpbaaGreatDoor.Cel
open Go
abbrev L := List UInt8

structure V where
  kind : Int
  num : Int
  text : L
  nums : List Int
  texts : List L
def V0 : V := ⟨0, 0, [], [], []⟩
def u64 (n : Int) : Nat := (n % 18446744073709551616).toNat
def s64 (b : Nat) : Int := if b < 9223372036854775808 then (b : Int) else (b : Int) - 18446744073709551616
def In64 (n : Int) : Prop := -9223372036854775808 ≤ n ∧ n ≤ 9223372036854775807
def nanBad (n : Int) : Bool := decide (9218868437227405312 < u64 n % 9223372036854775808) && decide (u64 n ≠ 9221120237041090560)
/-- what is wrong with an element of the kind 1, 2 or 3 -/
def numWrong (k n : Int) : Nat := if k = 1 ∧ n ≠ 0 ∧ n ≠ 1 then 42 else if k = 3 ∧ nanBad n = true then 43 else 0
def numsWrong (k : Int) : List Int → Nat
  | [] => 0
  | n :: r => if numWrong k n ≠ 0 then numWrong k n else numsWrong k r
def longs (l : List L) : Bool := l.any fun s => decide (1000 < s.length)
def Unused (v : V) : Prop := (v.num ≠ 0 ∧ 3 < v.kind) ∨ (v.text ≠ [] ∧ v.kind ≠ 4) ∨ (v.nums ≠ [] ∧ (v.kind < 5 ∨ v.kind = 8)) ∨ (v.texts ≠ [] ∧ v.kind ≠ 8)
instance (v : V) : Decidable (Unused v) := by unfold Unused; infer_instance
def check (v : V) : Nat :=
  if v.kind < 1 ∨ 8 < v.kind then 40 else
  if Unused v then 41 else
  if 40 < v.nums.length ∨ 40 < v.texts.length then 45 else
  if 1000 < v.text.length ∨ longs v.texts = true then 44 else
  if v.kind < 4 then numWrong v.kind v.num else numsWrong (v.kind - 4) v.nums

/-! the form -/
def cls (k : Int) : UInt8 := if k = 1 then 98 else if k = 2 then 105 else if k = 3 then 102 else 115
def letter (k : Int) : L := if 4 < k then [cls (k - 4), 91, 93] else [cls k]
def TRUE : L := [116, 114, 117, 101]
def FALSE : L := [102, 97, 108, 115, 101]
def numS (k n : Int) : L := if k = 2 then Lib.itoa n else if k = 3 then Num.fmt (u64 n) else if n = 0 then FALSE else TRUE
def escT : L → L
  | [] => []
  | c :: r => if c = 92 ∨ c = 59 then 92 :: c :: escT r else c :: escT r
def numE (k n : Int) : L := numS k n ++ [59]
def textE (t : L) : L := escT t ++ [59]
def print (v : V) : L := letter v.kind ++ [58] ++ (if v.kind < 4 then numS v.kind v.num else []) ++ v.text ++ v.nums.flatMap (numE (v.kind - 4)) ++ v.texts.flatMap textE
def printR (v : V) : L × Nat := if check v = 0 then (print v, 0) else ([], check v)

/-! the reading -/
def numP (k : Int) (s : L) : Int × Nat :=
  if k = 1 then (if s = TRUE then (1, 0) else if s = FALSE then (0, 0) else (0, 220)) else
  if k = 2 then Num.parseInt s else
  match Num.parse s with
  | some b => (s64 b, 0)
  | none => (0, 52)
/-- up to the semicolon, and behind it -/
def cut59 : L → L → Option (L × L)
  | [], _ => none
  | c :: r, b => if c = 59 then some (b, r) else cut59 r (b ++ [c])
/-- an element of a list of texts: what it stands for, and what is behind its semicolon -/
def elem : L → L → Option (L × L)
  | [], _ => none
  | [c], b => if c = 59 then some (b, []) else none
  | c :: d :: r, b =>
    if c = 59 then some (b, d :: r) else
    if c = 92 then (if d = 92 ∨ d = 59 then elem r (b ++ [d]) else none) else elem (d :: r) (b ++ [c])
def numsP (k : Int) : Nat → L → List Int → List Int × Nat
  | 0, _, acc => (acc, 0)
  | f + 1, l, acc =>
    if l = [] then (acc, 0) else
    match cut59 l [] with
    | none => ([], 220)
    | some (s, r) => if (numP k s).2 ≠ 0 then ([], (numP k s).2) else numsP k f r (acc ++ [(numP k s).1])
def textsP : Nat → L → List L → List L × Nat
  | 0, _, acc => (acc, 0)
  | f + 1, l, acc =>
    if l = [] then (acc, 0) else
    match elem l [] with
    | none => ([], 220)
    | some (s, r) => textsP f r (acc ++ [s])
def kindOf (c : UInt8) : Int := if c = 98 then 1 else if c = 105 then 2 else if c = 102 then 3 else if c = 115 then 4 else 0
def headP : L → Option (Int × L)
  | [] => none
  | c :: r =>
    if Lib.hasPrefix r [91, 93] = true then
      (if kindOf c = 0 ∨ Lib.hasPrefix (r.drop 2) [58] = false then none else some (kindOf c + 4, r.drop 3))
    else
      (if kindOf c = 0 ∨ Lib.hasPrefix r [58] = false then none else some (kindOf c, r.drop 1))
def bodyP (k : Int) (r : L) : V × Nat :=
  if 4 < k then
    (if k = 8 then (⟨k, 0, [], [], (textsP (r.length + 1) r []).1⟩, (textsP (r.length + 1) r []).2)
     else (⟨k, 0, [], (numsP (k - 4) (r.length + 1) r []).1, []⟩, (numsP (k - 4) (r.length + 1) r []).2))
  else if k = 4 then (⟨4, 0, r, [], []⟩, 0)
  else (⟨k, (numP k r).1, [], [], []⟩, (numP k r).2)
def parse (s : L) : V × Nat :=
  match headP s with
  | none => (V0, 220)
  | some (k, r) => if (bodyP k r).2 ≠ 0 then (V0, (bodyP k r).2) else if check (bodyP k r).1 ≠ 0 then (V0, check (bodyP k r).1) else ((bodyP k r).1, 0)

/-! numbers -/
theorem u64_lt (n : Int) : u64 n < 18446744073709551616 := by unfold u64; omega
theorem s64_u64 {n : Int} (h : In64 n) : s64 (u64 n) = n := by
  obtain ⟨h1, h2⟩ := h
  unfold s64 u64
  split <;> omega
theorem u64_s64 {b : Nat} (h : b < 18446744073709551616) : u64 (s64 b) = b := by
  unfold s64 u64
  split <;> omega
theorem s64_in {b : Nat} (h : b < 18446744073709551616) : In64 (s64 b) := by
  unfold s64 In64
  split <;> omega
theorem canon_good {n : Int} (h : nanBad n = false) : Num.canon (u64 n) = u64 n := by
  unfold Num.canon
  split
  · rename_i h1
    unfold nanBad at h
    rw [decide_eq_true h1, Bool.true_and, decide_eq_false_iff_not, Decidable.not_not] at h
    exact h.symm
  · rfl
theorem numP_numS {k n : Int} (hk : 1 ≤ k) (hk3 : k ≤ 3) (hn : In64 n) (h : numWrong k n = 0) : numP k (numS k n) = (n, 0) := by
  unfold numP numS
  by_cases h2 : k = 2
  · rw [if_neg (by omega), if_pos h2, if_pos h2]
    exact Num.parse_itoa n hn.1 hn.2
  by_cases h3 : k = 3
  · rw [if_neg (by omega), if_neg h2, if_neg h2, if_pos h3, Num.parse_fmt (u64_lt n)]
    have hb : nanBad n = false := by
      cases hb : nanBad n with
      | false => rfl
      | true => unfold numWrong at h; rw [if_neg (by omega), if_pos ⟨h3, hb⟩] at h; omega
    simp only
    rw [canon_good hb, s64_u64 hn]
  · have h1 : k = 1 := by omega
    rw [if_pos h1, if_neg h2, if_neg h3]
    by_cases hz : n = 0
    · rw [if_pos hz, hz]; rfl
    · have hone : n = 1 := by
        unfold numWrong at h
        by_cases h9 : n = 1
        · exact h9
        · rw [if_pos ⟨h1, hz, h9⟩] at h; omega
      rw [if_neg hz, hone]
      rfl
theorem numS_numP {k n : Int} {s : L} (hk : 1 ≤ k) (hk3 : k ≤ 3) (h : numP k s = (n, 0)) : numS k n = s ∧ In64 n := by
  unfold numP at h
  unfold numS
  by_cases h2 : k = 2
  · rw [if_neg (by omega), if_pos h2] at h
    rw [if_pos h2]
    refine ⟨Num.itoa_of_parse h, ?_⟩
    have := h
    unfold Num.parseInt at this
    simp only at this
    unfold In64
    repeat' split at this
    all_goals first
      | (simp only [Prod.mk.injEq] at this; omega)
      | (obtain ⟨rfl, -⟩ := Prod.mk.inj this; omega)
  by_cases h3 : k = 3
  · rw [if_neg (by omega), if_neg h2] at h
    rw [if_neg h2, if_pos h3]
    cases hp : Num.parse s with
    | none => rw [hp] at h; simp at h
    | some b =>
      rw [hp] at h
      simp only [Prod.mk.injEq, and_true] at h
      obtain ⟨g1, g2, -⟩ := Num.fmt_parse hp
      subst h
      exact ⟨by rw [u64_s64 g2, g1], s64_in g2⟩
  · have h1 : k = 1 := by omega
    rw [if_pos h1] at h
    rw [if_neg h2, if_neg h3]
    split at h
    · rename_i e
      cases h
      exact ⟨by rw [e]; rfl, by unfold In64; omega⟩
    · split at h
      · rename_i e
        cases h
        exact ⟨by rw [e]; rfl, by unfold In64; omega⟩
      · cases h

/-! no semicolon in a number's form -/
theorem dig_no {c : UInt8} (h : Num.isDig c = true) : c ≠ 59 := by
  rintro rfl
  exact absurd h (by decide)
theorem itoa_no (n : Int) : ∀ x ∈ Lib.itoa n, x ≠ 59 := by
  obtain ⟨neg, r, e, hg, -⟩ := Num.itoa_form n
  intro x hx
  rw [e] at hx
  rcases List.mem_append.1 hx with h | h
  · cases neg with
    | true => rw [List.mem_singleton.1 h]; decide
    | false => cases h
  · exact dig_no (List.all_eq_true.1 hg.1 x h)
theorem hexd_no : ∀ d : Fin 16, Num.hexd d.val ≠ 59 := by decide
theorem hexN_no : ∀ (k n : Nat), ∀ x ∈ Num.hexN k n, x ≠ 59
  | 0, n, x, h => by simp [Num.hexN] at h
  | k + 1, n, x, h => by
    unfold Num.hexN at h
    rcases List.mem_append.1 h with h | h
    · exact hexN_no k _ x h
    · rw [List.mem_singleton.1 h]
      exact hexd_no ⟨n % 16, Nat.mod_lt _ (by decide)⟩
theorem fracS_no (f : Nat) : ∀ x ∈ Num.fracS f, x ≠ 59 := by
  intro x hx
  unfold Num.fracS at hx
  split at hx
  · cases hx
  · rcases List.mem_cons.1 hx with rfl | h
    · decide
    · obtain ⟨j, e, -⟩ := Num.trim_split _ (Num.hexN 13 f) rfl
      exact hexN_no 13 f x (by rw [e]; exact List.mem_append_left _ h)
theorem expS_no (e : Int) : ∀ x ∈ Num.expS e, x ≠ 59 := by
  intro x hx
  unfold Num.expS at hx
  split at hx
  · rcases List.mem_cons.1 hx with rfl | h
    · decide
    · exact itoa_no _ x h
  · rcases List.mem_cons.1 hx with rfl | h
    · decide
    · exact itoa_no _ x h
theorem const_no : ∀ x ∈ Num.NANS ++ Num.INFS ++ Num.ZERO ++ [45, 48, 120, 49] ++ TRUE ++ FALSE, x ≠ (59 : UInt8) := by decide
theorem form_no (f : Nat) (e : Int) : ∀ x ∈ Num.form f e, x ≠ 59 := by
  intro x hx
  unfold Num.form at hx
  rcases List.mem_append.1 hx with h | h
  · exact const_no x (by simp at h ⊢; rcases h with rfl | rfl | rfl <;> simp)
  · rcases List.mem_append.1 h with h | h
    · exact fracS_no f x h
    · exact expS_no e x h
theorem fmt_no (b : Nat) : ∀ x ∈ Num.fmt b, x ≠ 59 := by
  intro x hx
  unfold Num.fmt at hx
  split at hx
  · exact const_no x (by simp only [List.mem_append]; simp [hx])
  · rcases List.mem_append.1 hx with h | h
    · unfold Num.sg at h
      split at h
      · rw [List.mem_singleton.1 h]; decide
      · cases h
    · unfold Num.fmtU at h
      split at h
      · exact const_no x (by simp only [List.mem_append]; simp [h])
      · split at h
        · exact const_no x (by simp only [List.mem_append]; simp [h])
        · exact form_no _ _ x h
theorem numS_no (k n : Int) : ∀ x ∈ numS k n, x ≠ 59 := by
  intro x hx
  unfold numS at hx
  repeat' split at hx
  · exact itoa_no _ x hx
  · exact fmt_no _ x hx
  · exact const_no x (by simp only [List.mem_append]; simp [hx])
  · exact const_no x (by simp only [List.mem_append]; simp [hx])

/-! elements -/
theorem cut59_of : ∀ (a r b : L), (∀ x ∈ a, x ≠ 59) → cut59 (a ++ 59 :: r) b = some (b ++ a, r)
  | [], r, b, _ => by simp [cut59]
  | c :: a, r, b, h => by
    rw [List.cons_append, cut59, if_neg (h c (by simp)), cut59_of a r _ (fun x hx => h x (by simp [hx]))]
    simp
theorem cut59_some : ∀ (l b x r : L), cut59 l b = some (x, r) → ∃ a, x = b ++ a ∧ l = a ++ 59 :: r
  | [], b, x, r, h => by cases h
  | c :: l, b, x, r, h => by
    unfold cut59 at h
    split at h
    · rename_i hc
      cases h
      exact ⟨[], by simp, by rw [hc]; rfl⟩
    · obtain ⟨a, e1, e2⟩ := cut59_some l _ x r h
      exact ⟨c :: a, by rw [e1]; simp, by rw [e2]; rfl⟩
theorem elem_cons {c : UInt8} {l b : L} (h1 : c ≠ 59) (h2 : c ≠ 92) : elem (c :: l) b = elem l (b ++ [c]) := by
  cases l with
  | nil => simp only [elem]; rw [if_neg h1]
  | cons d r => rw [elem, if_neg h1, if_neg h2]
theorem elem_end (l b : L) : elem (59 :: l) b = some (b, l) := by
  cases l with
  | nil => simp [elem]
  | cons d r => simp [elem]
theorem elem_esc {d : UInt8} {l b : L} (h : d = 92 ∨ d = 59) : elem (92 :: d :: l) b = elem l (b ++ [d]) := by
  rw [elem, if_neg (by decide), if_pos rfl, if_pos h]
theorem elem_of : ∀ (t r b : L), elem (escT t ++ 59 :: r) b = some (b ++ t, r)
  | [], r, b => by rw [escT, List.nil_append, elem_end, List.append_nil]
  | c :: t, r, b => by
    unfold escT
    split
    · rename_i h
      rw [List.cons_append, List.cons_append, elem_esc h, elem_of t r]
      simp
    · rename_i h
      rw [List.cons_append, elem_cons (fun e => h (.inr e)) (fun e => h (.inl e)), elem_of t r]
      simp
theorem elem_some : ∀ (n : Nat) (l b x r : L), l.length ≤ n → elem l b = some (x, r) → ∃ t, x = b ++ t ∧ l = escT t ++ 59 :: r
  | _, [], b, x, r, _, h => by cases h
  | 0, c :: l, b, x, r, hl, h => by simp at hl
  | n + 1, c :: l, b, x, r, hl, h => by
    rw [List.length_cons] at hl
    by_cases h1 : c = 59
    · subst h1
      rw [elem_end] at h
      cases h
      exact ⟨[], by simp, rfl⟩
    by_cases h2 : c = 92
    · subst h2
      cases l with
      | nil => simp [elem] at h
      | cons d l =>
        by_cases hd : d = 92 ∨ d = 59
        · rw [elem_esc hd] at h
          obtain ⟨t, e1, e2⟩ := elem_some n l _ x r (by rw [List.length_cons] at hl; omega) h
          exact ⟨d :: t, by rw [e1]; simp, by rw [escT, if_pos hd, e2]; rfl⟩
        · rw [elem, if_neg (by decide), if_pos rfl, if_neg hd] at h
          cases h
    · rw [elem_cons h1 h2] at h
      obtain ⟨t, e1, e2⟩ := elem_some n l _ x r (by omega) h
      exact ⟨c :: t, by rw [e1]; simp, by rw [escT, if_neg (fun e => e.elim h2 h1), e2]; rfl⟩

/-! lists -/
theorem numE_len (k n : Int) : 1 ≤ (numE k n).length := by unfold numE; simp
theorem textE_len (t : L) : 1 ≤ (textE t).length := by unfold textE; simp
theorem numsWrong_cons {k n : Int} {r : List Int} (h : numsWrong k (n :: r) = 0) : numWrong k n = 0 ∧ numsWrong k r = 0 := by
  unfold numsWrong at h
  split at h
  · rename_i h1; exact absurd h h1
  · rename_i h1; exact ⟨by omega, h⟩
theorem numsP_of {k : Int} (hk : 1 ≤ k) (hk3 : k ≤ 3) : ∀ (f : Nat) (ns acc : List Int), (ns.flatMap (numE k)).length < f → (∀ n ∈ ns, In64 n) → numsWrong k ns = 0 → numsP k f (ns.flatMap (numE k)) acc = (acc ++ ns, 0)
  | 0, _, _, h, _, _ => by omega
  | f + 1, [], acc, _, _, _ => by simp [numsP]
  | f + 1, n :: r, acc, hf, hn, hw => by
    obtain ⟨w1, w2⟩ := numsWrong_cons hw
    have e : (n :: r).flatMap (numE k) = numS k n ++ 59 :: r.flatMap (numE k) := by simp [numE]
    have hl := numE_len k n
    rw [List.flatMap_cons, List.length_append] at hf
    unfold numsP
    rw [e, if_neg (by simp), cut59_of _ _ _ (numS_no k n)]
    simp only [List.nil_append]
    rw [numP_numS hk hk3 (hn n (by simp)) w1, if_neg (by simp), numsP_of hk hk3 f r _ (by omega) (fun m hm => hn m (by simp [hm])) w2]
    simp
theorem textsP_of : ∀ (f : Nat) (ts acc : List L), (ts.flatMap textE).length < f → textsP f (ts.flatMap textE) acc = (acc ++ ts, 0)
  | 0, _, _, h => by omega
  | f + 1, [], acc, _ => by simp [textsP]
  | f + 1, t :: r, acc, hf => by
    have e : (t :: r).flatMap textE = escT t ++ 59 :: r.flatMap textE := by simp [textE]
    have hl := textE_len t
    rw [List.flatMap_cons, List.length_append] at hf
    unfold textsP
    rw [e, if_neg (by simp), elem_of]
    simp only [List.nil_append]
    rw [textsP_of f r _ (by omega)]
    simp
theorem numsP_some {k : Int} (hk : 1 ≤ k) (hk3 : k ≤ 3) : ∀ (f : Nat) (l : L) (acc ns : List Int), l.length < f → numsP k f l acc = (ns, 0) → ∃ m, ns = acc ++ m ∧ l = m.flatMap (numE k) ∧ ∀ n ∈ m, In64 n
  | 0, l, acc, ns, h, _ => by omega
  | f + 1, l, acc, ns, hf, h => by
    unfold numsP at h
    split at h
    · rename_i hl
      cases h
      exact ⟨[], by simp, by rw [hl]; rfl, by simp⟩
    · cases hc : cut59 l [] with
      | none => rw [hc] at h; simp at h
      | some x =>
        obtain ⟨s, r⟩ := x
        rw [hc] at h
        simp only at h
        obtain ⟨a, e1, e2⟩ := cut59_some l [] s r hc
        rw [List.nil_append] at e1
        subst e1
        split at h
        · rename_i hne
          simp only [Prod.mk.injEq] at h
          exact absurd h.2 hne
        · rename_i hne
          obtain ⟨n, hn⟩ : ∃ n, numP k s = (n, 0) := ⟨(numP k s).1, by rw [← Decidable.not_not.1 hne]⟩
          rw [hn] at h
          obtain ⟨g1, g2⟩ := numS_numP hk hk3 hn
          obtain ⟨m, e3, e4, e5⟩ := numsP_some hk hk3 f r _ ns (by rw [e2] at hf; simp at hf; omega) h
          refine ⟨n :: m, by rw [e3]; simp, ?_, ?_⟩
          · rw [e2, e4, List.flatMap_cons, numE, g1]
            simp
          · intro x hx
            rcases List.mem_cons.1 hx with rfl | hx
            · exact g2
            · exact e5 x hx
theorem textsP_some : ∀ (f : Nat) (l : L) (acc ts : List L), l.length < f → textsP f l acc = (ts, 0) → ∃ m, ts = acc ++ m ∧ l = m.flatMap textE
  | 0, l, acc, ts, h, _ => by omega
  | f + 1, l, acc, ts, hf, h => by
    unfold textsP at h
    split at h
    · rename_i hl
      cases h
      exact ⟨[], by simp, by rw [hl]; rfl⟩
    · cases hc : elem l [] with
      | none => rw [hc] at h; simp at h
      | some x =>
        obtain ⟨s, r⟩ := x
        rw [hc] at h
        simp only at h
        obtain ⟨a, e1, e2⟩ := elem_some _ l [] s r (Nat.le_refl _) hc
        rw [List.nil_append] at e1
        subst e1
        obtain ⟨m, e3, e4⟩ := textsP_some f r _ ts (by rw [e2] at hf; simp at hf; omega) h
        refine ⟨s :: m, by rw [e3]; simp, ?_⟩
        rw [e2, e4, List.flatMap_cons, textE]
        simp

/-! the head -/
theorem kindOf_cls : ∀ k : Fin 5, 1 ≤ k.val → kindOf (cls (k.val : Int)) = (k.val : Int) := by decide
theorem kindOf_cls' {k : Int} (h1 : 1 ≤ k) (h2 : k ≤ 4) : kindOf (cls k) = k := by
  have := kindOf_cls ⟨k.toNat, by omega⟩ (by show 1 ≤ k.toNat; omega)
  simp only at this
  rwa [show ((k.toNat : Nat) : Int) = k by omega] at this
theorem cls_kindOf {c : UInt8} (h : kindOf c ≠ 0) : cls (kindOf c) = c ∧ 1 ≤ kindOf c ∧ kindOf c ≤ 4 := by
  unfold kindOf at h ⊢
  repeat' split at h
  all_goals first
    | (rename_i e; subst e; decide)
    | (exfalso; exact h rfl)
    | (rename_i a b c e; subst e; decide)
    | (rename_i a e; subst e; decide)
    | (rename_i a b e; subst e; decide)
theorem hasPrefix_iff (l p : L) : Lib.hasPrefix l p = true ↔ ∃ r, l = p ++ r := by
  unfold Lib.hasPrefix
  rw [List.isPrefixOf_iff_prefix]
  constructor
  · rintro ⟨r, hr⟩; exact ⟨r, hr.symm⟩
  · rintro ⟨r, hr⟩; exact ⟨r, hr.symm⟩
theorem hasPrefix_one (c : UInt8) (l : L) : Lib.hasPrefix (c :: l) [c] = true := (hasPrefix_iff _ _).2 ⟨l, rfl⟩
theorem headP_of {k : Int} (h1 : 1 ≤ k) (h2 : k ≤ 8) (r : L) : headP (letter k ++ [58] ++ r) = some (k, r) := by
  unfold letter
  by_cases h : 4 < k
  · rw [if_pos h]
    have hk := kindOf_cls' (k := k - 4) (by omega) (by omega)
    show headP (cls (k - 4) :: 91 :: 93 :: 58 :: r) = _
    simp only [headP]
    rw [if_pos ((hasPrefix_iff (91 :: 93 :: 58 :: r) [91, 93]).2 ⟨58 :: r, rfl⟩), hk]
    simp only [List.drop_succ_cons, List.drop_zero]
    rw [hasPrefix_one, if_neg (by rintro (h | h) <;> first | omega | cases h)]
    congr 2
    omega
  · rw [if_neg h]
    have hk := kindOf_cls' (k := k) (by omega) (by omega)
    show headP (cls k :: 58 :: r) = _
    simp only [headP]
    rw [if_neg (by rw [hasPrefix_iff]; rintro ⟨t, ht⟩; simp at ht), hk, hasPrefix_one, if_neg (by rintro (h | h) <;> first | omega | cases h)]
    simp
theorem headP_some {s : L} {k : Int} {r : L} (h : headP s = some (k, r)) : s = letter k ++ [58] ++ r ∧ 1 ≤ k ∧ k ≤ 8 := by
  unfold headP at h
  split at h
  · cases h
  · rename_i c l
    split at h
    · rename_i hp
      split at h
      · cases h
      · rename_i hn
        simp only [not_or] at hn
        obtain ⟨hn1, hn2⟩ := hn
        obtain ⟨g1, g2, g3⟩ := cls_kindOf hn1
        obtain ⟨t, rfl⟩ := (hasPrefix_iff _ _).1 hp
        obtain ⟨u, hu⟩ := (hasPrefix_iff _ _).1 (by simpa using hn2)
        have hu' : t = 58 :: u := hu
        subst hu'
        simp only [Option.some.injEq, Prod.mk.injEq] at h
        obtain ⟨rfl, rfl⟩ := h
        refine ⟨?_, by omega, by omega⟩
        unfold letter
        rw [if_pos (by omega), show kindOf c + 4 - 4 = kindOf c by omega, g1]
        rfl
    · split at h
      · cases h
      · rename_i hn
        simp only [not_or] at hn
        obtain ⟨hn1, hn2⟩ := hn
        obtain ⟨g1, g2, g3⟩ := cls_kindOf hn1
        obtain ⟨u, rfl⟩ := (hasPrefix_iff _ _).1 (by simpa using hn2)
        simp only [Option.some.injEq, Prod.mk.injEq] at h
        obtain ⟨rfl, rfl⟩ := h
        refine ⟨?_, by omega, by omega⟩
        unfold letter
        rw [if_neg (by omega), g1]
        rfl

/-! the laws -/
theorem check_range {v : V} (h : check v = 0) : 1 ≤ v.kind ∧ v.kind ≤ 8 := by
  unfold check at h
  split at h
  · cases h
  · omega
theorem check_parts {v : V} (h : check v = 0) : 1 ≤ v.kind ∧ v.kind ≤ 8 ∧ ¬ Unused v ∧ v.nums.length ≤ 40 ∧ v.texts.length ≤ 40 ∧ v.text.length ≤ 1000 ∧ longs v.texts = false ∧ (if v.kind < 4 then numWrong v.kind v.num else numsWrong (v.kind - 4) v.nums) = 0 := by
  have hr := check_range h
  unfold check at h
  rw [if_neg (by omega)] at h
  split at h
  · cases h
  · rename_i hu
    split at h
    · cases h
    · rename_i hl
      split at h
      · cases h
      · rename_i ht
        simp only [not_or] at ht
        exact ⟨hr.1, hr.2, hu, by omega, by omega, by omega, Bool.eq_false_iff.2 ht.2, h⟩
theorem there {v : V} (h : check v = 0) (hn : In64 v.num) (hns : ∀ n ∈ v.nums, In64 n) : parse (print v) = (v, 0) := by
  obtain ⟨h1, h8, hu, -, -, -, -, hw⟩ := check_parts h
  have hu' : ¬ (v.num ≠ 0 ∧ 3 < v.kind) ∧ ¬ (v.text ≠ [] ∧ v.kind ≠ 4) ∧ ¬ (v.nums ≠ [] ∧ (v.kind < 5 ∨ v.kind = 8)) ∧ ¬ (v.texts ≠ [] ∧ v.kind ≠ 8) := by
    unfold Unused at hu
    simp only [not_or] at hu
    exact hu
  obtain ⟨u1, u2, u3, u4⟩ := hu'
  have hb : bodyP v.kind ((if v.kind < 4 then numS v.kind v.num else []) ++ v.text ++ v.nums.flatMap (numE (v.kind - 4)) ++ v.texts.flatMap textE) = (v, 0) := by
    obtain ⟨k, n, t, ns, ts⟩ := v
    simp only at h1 h8 hu hw u1 u2 u3 u4 hn hns ⊢
    unfold bodyP
    by_cases k4 : 4 < k
    · have e1 : n = 0 := by apply Decidable.not_not.1; intro e; exact u1 ⟨e, by omega⟩
      have e2 : t = [] := by apply Decidable.not_not.1; intro e; exact u2 ⟨e, by omega⟩
      subst e1 e2
      have e0 : (if k < 4 then numS k 0 else []) = [] := if_neg (by omega)
      rw [if_pos k4, e0, List.nil_append, List.nil_append]
      by_cases k8 : k = 8
      · have e3 : ns = [] := by apply Decidable.not_not.1; intro e; exact u3 ⟨e, .inr k8⟩
        subst e3
        rw [if_pos k8, List.flatMap_nil, List.nil_append, textsP_of _ _ _ (by omega)]
        rfl
      · have e4 : ts = [] := by apply Decidable.not_not.1; intro e; exact u4 ⟨e, k8⟩
        subst e4
        rw [if_neg (by omega)] at hw
        rw [if_neg k8, List.flatMap_nil, List.append_nil, numsP_of (by omega) (by omega) _ _ _ (by omega) hns hw]
        rfl
    · have e3 : ns = [] := by apply Decidable.not_not.1; intro e; exact u3 ⟨e, .inl (by omega)⟩
      have e4 : ts = [] := by apply Decidable.not_not.1; intro e; exact u4 ⟨e, by omega⟩
      subst e3 e4
      rw [if_neg k4, List.flatMap_nil, List.flatMap_nil, List.append_nil, List.append_nil]
      by_cases k44 : k = 4
      · have e1 : n = 0 := by apply Decidable.not_not.1; intro e; exact u1 ⟨e, by omega⟩
        subst e1 k44
        have e0 : (if (4 : Int) < 4 then numS 4 0 else []) = [] := if_neg (by omega)
        rw [if_pos rfl, e0, List.nil_append]
      · have e2 : t = [] := by apply Decidable.not_not.1; intro e; exact u2 ⟨e, k44⟩
        subst e2
        have e0 : (if k < 4 then numS k n else []) = numS k n := if_pos (by omega)
        rw [if_neg k44, e0, List.append_nil]
        rw [if_pos (by omega)] at hw
        rw [numP_numS (by omega) (by omega) hn hw]
  have hp : print v = letter v.kind ++ [58] ++ ((if v.kind < 4 then numS v.kind v.num else []) ++ v.text ++ v.nums.flatMap (numE (v.kind - 4)) ++ v.texts.flatMap textE) := by
    unfold print
    simp only [List.append_assoc]
  unfold parse
  rw [hp, headP_of h1 h8]
  simp only [hb]
  rw [if_neg (by omega), if_neg (by omega)]
theorem one {s : L} {v : V} (h : parse s = (v, 0)) : check v = 0 ∧ print v = s ∧ In64 v.num ∧ ∀ n ∈ v.nums, In64 n := by
  unfold parse at h
  split at h
  · cases h
  · rename_i k r hh
    obtain ⟨hs, h1, h8⟩ := headP_some hh
    split at h
    · rename_i hne
      simp only [Prod.mk.injEq] at h
      exact absurd h.2 hne
    · rename_i hz
      split at h
      · rename_i hne
        simp only [Prod.mk.injEq] at h
        exact absurd h.2 hne
      · rename_i hc
        simp only [Prod.mk.injEq, and_true] at h
        have hz' : (bodyP k r).2 = 0 := by omega
        have hc' : check v = 0 := by rw [← h]; omega
        refine ⟨hc', ?_⟩
        clear hc hz hh
        unfold bodyP at h hz'
        rw [hs]
        unfold print
        by_cases k4 : 4 < k
        · rw [if_pos k4] at h hz'
          by_cases k8 : k = 8
          · rw [if_pos k8] at h hz'
            simp only at h hz'
            obtain ⟨m, e1, e2⟩ := textsP_some (r.length + 1) r [] (textsP (r.length + 1) r []).1 (by omega) (by rw [← hz'])
            rw [List.nil_append] at e1
            rw [← h]
            simp only
            rw [e1, if_neg (by omega), ← e2]
            exact ⟨by simp, by unfold In64; omega, by simp⟩
          · rw [if_neg k8] at h hz'
            simp only at h hz'
            obtain ⟨m, e1, e2, e3⟩ := numsP_some (k := k - 4) (by omega) (by omega) (r.length + 1) r [] (numsP (k - 4) (r.length + 1) r []).1 (by omega) (by rw [← hz'])
            rw [List.nil_append] at e1
            rw [← h]
            simp only
            rw [e1, if_neg (by omega), ← e2]
            exact ⟨by simp, by unfold In64; omega, e3⟩
        · rw [if_neg k4] at h hz'
          by_cases k44 : k = 4
          · rw [if_pos k44] at h
            rw [← h]
            simp only
            rw [if_neg (by omega), k44]
            exact ⟨by simp, by unfold In64; omega, by simp⟩
          · rw [if_neg k44] at h hz'
            simp only at hz'
            obtain ⟨g1, g2⟩ := numS_numP (k := k) (n := (numP k r).1) (s := r) (by omega) (by omega) (by rw [← hz'])
            rw [← h]
            simp only
            rw [if_pos (by omega), g1]
            exact ⟨by simp, g2, by simp⟩
theorem parse_err {s : L} {v : V} {e : Nat} (h : parse s = (v, e)) (he : e ≠ 0) : v = V0 := by
  unfold parse at h
  repeat' split at h
  all_goals (simp only [Prod.mk.injEq] at h; first | exact h.1.symm | exact absurd h.2.symm he)
end Go.Proofs.YtoofbflplhbpbaaGreatDoor.Cel
