/- The plain laws of layer 21 (csv): what the program's text and the document's text compute, as functions of lists of bytes; that the two agree; there, back, joins. No program in sight. -/
namespace Go.Proofs.YtjkbaihcdjbjiaaDoor.Csv

abbrev F := List UInt8

def special (c : UInt8) : Bool := c == 34 || c == 44 || c == 13 || c == 10

/-! ### Printing -/
def esc (f : F) : F := f.flatMap fun c => if c = 34 then [34, 34] else [c]
def printF (f : F) : F := if f.any special then 34 :: esc f ++ [34] else f
/-- a row's fields behind k fields -/
def fieldsK : Nat → List F → F
  | _, [] => []
  | k, f :: r => (if 0 < k then [44] else []) ++ printF f ++ fieldsK (k + 1) r
def printRow (r : List F) : F := fieldsK 0 r ++ [13, 10]
def print : List (List F) → Option F
  | [] => some []
  | r :: rs => if r = [] then none else (print rs).map (printRow r ++ ·)

theorem esc_plain (f : F) (h : f.any special = false) : esc f = f := by
  induction f with
  | nil => rfl
  | cons c f ih =>
    simp only [List.any_cons, Bool.or_eq_false_iff] at h
    have hc : c ≠ 34 := by intro e; subst e; simp [special] at h
    simp only [esc, List.flatMap_cons, if_neg hc] at ih ⊢
    rw [ih h.2]
    rfl

theorem print_none {rs : List (List F)} (h : [] ∈ rs) : print rs = none := by
  induction rs with
  | nil => cases h
  | cons r rs ih =>
    unfold print
    by_cases hr : r = []
    · rw [if_pos hr]
    · rw [if_neg hr, ih (by cases h with | head => exact absurd rfl hr | tail _ h => exact h)]
      rfl
theorem print_some {rs : List (List F)} (h : [] ∉ rs) : print rs = some (rs.flatMap printRow) := by
  induction rs with
  | nil => rfl
  | cons r rs ih =>
    unfold print
    rw [if_neg (fun e => h (by simp [e])), ih (fun e => h (by simp [e]))]
    simp

/-- what printing takes at the most -/
def wRow (r : List F) : Nat := (r.map fun f => 2 * f.length + 3).sum + 2
def wRows (rs : List (List F)) : Nat := (rs.map wRow).sum
theorem esc_length (f : F) : (esc f).length ≤ 2 * f.length := by
  induction f with
  | nil => simp [esc]
  | cons c f ih =>
    have e : esc (c :: f) = (if c = 34 then [34, 34] else [c]) ++ esc f := rfl
    rw [e, List.length_append, List.length_cons]
    split <;> simp <;> omega
theorem printF_length (f : F) : (printF f).length ≤ 2 * f.length + 2 := by
  unfold printF
  have := esc_length f
  split
  · simp; omega
  · omega
theorem fieldsK_length (r : List F) : ∀ k, (fieldsK k r).length + 2 ≤ wRow r := by
  induction r with
  | nil => intro k; simp [fieldsK, wRow]
  | cons f r ih =>
    intro k
    have h1 := ih (k + 1)
    have h2 := printF_length f
    have e : fieldsK k (f :: r) = (if 0 < k then [44] else []) ++ printF f ++ fieldsK (k + 1) r := rfl
    rw [e, List.length_append, List.length_append]
    have h3 : (if 0 < k then [44] else ([] : F)).length ≤ 1 := by split <;> simp
    simp only [wRow, List.map_cons, List.sum_cons] at h1 ⊢
    omega

/-! ### Reading, as the program does -/
def plainP (l : F) : Option (F × F) :=
  match l.dropWhile (!special ·) with
  | 34 :: _ => none
  | r => some (l.takeWhile (!special ·), r)
def quotedA : F → F → Option (F × F)
  | _, [] => none
  | acc, c :: r =>
    if c = 34 then
      match r with
      | [] => some (acc, [])
      | d :: r' => if d = 34 then quotedA (acc ++ [34]) r' else if d = 44 ∨ d = 13 ∨ d = 10 then some (acc, d :: r') else none
    else quotedA (acc ++ [c]) r
def fieldP : F → Option (F × F)
  | 34 :: r => quotedA [] r
  | l => plainP l
def rowA : Nat → List F → F → Nat × List F × F
  | 0, _, _ => (0, [], [])
  | n + 1, acc, l =>
    match fieldP l with
    | none => (210, [], [])
    | some (f, []) => (0, acc ++ [f], [])
    | some (f, c :: r) => if c = 44 then rowA n (acc ++ [f]) r else if c = 13 ∧ r.head? = some 10 then (0, acc ++ [f], r.tail) else (211, [], [])
/-- behind a field -/
def rowB (n : Nat) (acc : List F) (f : F) : F → Nat × List F × F
  | [] => (0, acc ++ [f], [])
  | c :: r => if c = 44 then rowA n (acc ++ [f]) r else if c = 13 ∧ r.head? = some 10 then (0, acc ++ [f], r.tail) else (211, [], [])
theorem rowB_cons (n : Nat) (acc : List F) (f : F) (c : UInt8) (r : F) : rowB n acc f (c :: r) = if c = 44 then rowA n (acc ++ [f]) r else if c = 13 ∧ r.head? = some 10 then (0, acc ++ [f], r.tail) else (211, [], []) := rfl
theorem rowA_none {n : Nat} {acc : List F} {l : F} (h : fieldP l = none) : rowA (n + 1) acc l = (210, [], []) := by
  unfold rowA
  rw [h]
theorem rowA_some {n : Nat} {acc : List F} {l f r : F} (h : fieldP l = some (f, r)) : rowA (n + 1) acc l = rowB n acc f r := by
  unfold rowA
  rw [h]
  cases r <;> rfl
def rowsA : Nat → List (List F) → F → List (List F) × Nat
  | 0, acc, _ => (acc, 0)
  | n + 1, acc, l =>
    if l = [] then (acc, 0)
    else match rowA (l.length + 1) [] l with
      | (0, fs, r) => rowsA n (acc ++ [fs]) r
      | (e + 1, _, _) => (acc, e + 1)
/-- the rows that are read, and the number of the error that ends the reading -/
def rowsOf (l : F) : List (List F) × Nat := rowsA (l.length + 1) [] l

theorem rowsA_prefix (n : Nat) : ∀ (acc : List (List F)) (l : F), acc <+: (rowsA n acc l).1 := by
  induction n with
  | zero => intro acc l; exact List.prefix_refl _
  | succ n ih =>
    intro acc l
    unfold rowsA
    split
    · exact List.prefix_refl _
    · split
      · exact (List.prefix_append acc _).trans (ih _ _)
      · exact List.prefix_refl _
theorem rowsA_some {n : Nat} {acc : List (List F)} {l r : F} {fs : List F} (hl : l ≠ []) (h : rowA (l.length + 1) [] l = (0, fs, r)) : rowsA (n + 1) acc l = rowsA n (acc ++ [fs]) r := by
  rw [rowsA, if_neg hl, h]
theorem rowsA_err {n k : Nat} {acc : List (List F)} {l r : F} {fs : List F} (hl : l ≠ []) (h : rowA (l.length + 1) [] l = (k + 1, fs, r)) : rowsA (n + 1) acc l = (acc, k + 1) := by
  rw [rowsA, if_neg hl, h]
theorem take_of_prefix {α : Type} {a b : List α} (h : a <+: b) : b.take a.length = a := by
  obtain ⟨c, rfl⟩ := h
  simp
theorem get_of_prefix {α : Type} {a b : List α} {x : α} (h : a ++ [x] <+: b) : b[a.length]? = some x := by
  obtain ⟨c, rfl⟩ := h
  simp
theorem quotedA_cons (acc : F) (c : UInt8) (r : F) : quotedA acc (c :: r) =
    if c = 34 then
      match r with
      | [] => some (acc, [])
      | d :: r' => if d = 34 then quotedA (acc ++ [34]) r' else if d = 44 ∨ d = 13 ∨ d = 10 then some (acc, d :: r') else none
    else quotedA (acc ++ [c]) r := by
  rw [quotedA.eq_def]
  cases r <;> rfl
theorem fieldP_other {l : F} (h : ∀ r, l ≠ 34 :: r) : fieldP l = plainP l := by
  unfold fieldP
  split
  · exact absurd rfl (h _)
  · rfl
theorem quotedA_chunk (a : F) (h : ∀ x ∈ a, x ≠ 34) (acc l : F) : quotedA acc (a ++ l) = quotedA (acc ++ a) l := by
  induction a generalizing acc with
  | nil => simp
  | cons c a ih =>
    rw [List.cons_append, quotedA_cons, if_neg (h c (by simp)), ih (fun x hx => h x (by simp [hx]))]
    simp
theorem quotedA_none (l : F) (h : ∀ x ∈ l, x ≠ 34) (acc : F) : quotedA acc l = none := by
  induction l generalizing acc with
  | nil => rfl
  | cons c a ih =>
    rw [quotedA_cons, if_neg (h c (by simp)), ih (fun x hx => h x (by simp [hx]))]
theorem quotedA_rest {l acc f r : F} (h : quotedA acc l = some (f, r)) : r.length < l.length ∧ (r = [] ∨ ∃ d r', r = d :: r' ∧ (d = 44 ∨ d = 13 ∨ d = 10)) := by
  have key : ∀ n (l acc : F), l.length ≤ n → quotedA acc l = some (f, r) → r.length < l.length ∧ (r = [] ∨ ∃ d r', r = d :: r' ∧ (d = 44 ∨ d = 13 ∨ d = 10)) := by
    intro n
    induction n with
    | zero => intro l acc hl h; cases l with | nil => cases h | cons c l => simp at hl
    | succ n ih =>
      intro l acc hl h
      cases l with
      | nil => cases h
      | cons c l =>
        rw [quotedA_cons] at h
        split at h
        · split at h
          · cases h; exact ⟨by simp, .inl rfl⟩
          · rename_i d r'
            split at h
            · have := ih r' _ (by simp at hl; omega) h
              exact ⟨by have := this.1; simp; omega, this.2⟩
            · split at h
              · cases h
                exact ⟨by simp, .inr ⟨_, _, rfl, by assumption⟩⟩
              · cases h
        · have := ih l _ (by simp at hl; omega) h
          exact ⟨by have := this.1; simp; omega, this.2⟩
  exact key _ l acc (Nat.le_refl _) h
theorem dropWhile_head {p : UInt8 → Bool} {l : F} {c : UInt8} {r : F} (h : l.dropWhile p = c :: r) : p c = false := by
  induction l with
  | nil => cases h
  | cons a l ih =>
    rw [List.dropWhile_cons] at h
    split at h
    · exact ih h
    · rename_i ha
      cases h
      simpa using ha
theorem dropWhile_le (p : UInt8 → Bool) (l : F) : (l.dropWhile p).length ≤ l.length := by
  induction l with
  | nil => simp
  | cons a l ih =>
    rw [List.dropWhile_cons]
    split
    · simp; omega
    · simp
theorem plainP_rest {l f r : F} (h : plainP l = some (f, r)) : r.length ≤ l.length ∧ (r = [] ∨ ∃ d r', r = d :: r' ∧ (d = 44 ∨ d = 13 ∨ d = 10)) := by
  unfold plainP at h
  split at h
  · cases h
  · rename_i hne
    simp only [Option.some.injEq, Prod.mk.injEq] at h
    obtain ⟨rfl, rfl⟩ := h
    refine ⟨dropWhile_le _ _, ?_⟩
    cases hd : l.dropWhile (!special ·) with
    | nil => exact .inl rfl
    | cons d r' =>
      refine .inr ⟨d, r', rfl, ?_⟩
      have h1 := dropWhile_head hd
      have h2 : d ≠ 34 := fun e => hne r' (by rw [hd, e])
      simp only [special, Bool.not_eq_false', Bool.or_eq_true, beq_iff_eq] at h1
      rcases h1 with ((h1 | h1) | h1) | h1
      · exact absurd h1 h2
      · exact .inl h1
      · exact .inr (.inl h1)
      · exact .inr (.inr h1)
theorem fieldP_rest {l f r : F} (h : fieldP l = some (f, r)) : r.length ≤ l.length ∧ (r = [] ∨ ∃ d r', r = d :: r' ∧ (d = 44 ∨ d = 13 ∨ d = 10)) := by
  unfold fieldP at h
  split at h
  · have := quotedA_rest h
    exact ⟨by simp; omega, this.2⟩
  · exact plainP_rest h

/-! ### Reading, as the document does -/
structure St where
  st : Nat
  rows : List (List F)
  row : List F
  field : F

def step (s : St) (c : UInt8) : St ⊕ Nat :=
  if s.st = 4 then (if c = 10 then .inl ⟨0, s.rows ++ [s.row], [], []⟩ else .inr 211)
  else if s.st = 2 then (if c = 34 then .inl ⟨3, s.rows, s.row, s.field⟩ else .inl ⟨2, s.rows, s.row, s.field ++ [c]⟩)
  else if c = 34 then (if s.st = 1 then .inr 210 else .inl ⟨2, s.rows, s.row, if s.st = 3 then s.field ++ [c] else s.field⟩)
  else if c = 44 ∨ c = 13 then .inl ⟨if c = 13 then 4 else 0, s.rows, s.row ++ [s.field], []⟩
  else if c = 10 then .inr 211
  else if s.st = 3 then .inr 210 else .inl ⟨1, s.rows, s.row, s.field ++ [c]⟩
def fin (s : St) : List (List F) × Nat :=
  if s.st = 2 then (s.rows, 210)
  else if s.st = 4 then (s.rows, 211)
  else if 0 < s.row.length ∨ 0 < s.field.length ∨ s.st ≠ 0 then (s.rows ++ [s.row ++ [s.field]], 0)
  else (s.rows, 0)
def read : St → F → List (List F) × Nat
  | s, [] => fin s
  | s, c :: l =>
    match step s c with
    | .inl s' => read s' l
    | .inr e => (s.rows, e)

theorem step_plain {s : St} {c : UInt8} (h : s.st = 0 ∨ s.st = 1) (hc : special c = false) : step s c = .inl ⟨1, s.rows, s.row, s.field ++ [c]⟩ := by
  simp only [special, Bool.or_eq_false_iff, beq_eq_false_iff_ne] at hc
  obtain ⟨⟨⟨h1, h2⟩, h3⟩, h4⟩ := hc
  unfold step
  rw [if_neg (by omega), if_neg (by omega), if_neg h1, if_neg (by simp [h2, h3]), if_neg h4, if_neg (by omega)]
theorem read_plain (l : F) : ∀ s : St, (s.st = 0 ∨ s.st = 1) → ∃ st', (st' = 0 ∨ st' = 1) ∧ (st' = 0 → s.st = 0 ∧ l.takeWhile (!special ·) = []) ∧
    read s l = read ⟨st', s.rows, s.row, s.field ++ l.takeWhile (!special ·)⟩ (l.dropWhile (!special ·)) := by
  induction l with
  | nil => intro s h; exact ⟨s.st, h, fun e => ⟨e, rfl⟩, by simp⟩
  | cons c l ih =>
    intro s h
    rw [List.takeWhile_cons, List.dropWhile_cons]
    cases hc : special c with
    | true => exact ⟨s.st, h, fun e => ⟨e, by simp⟩, by simp⟩
    | false =>
      obtain ⟨st', h1, h2, h3⟩ := ih ⟨1, s.rows, s.row, s.field ++ [c]⟩ (.inr rfl)
      refine ⟨st', h1, fun e => absurd (h2 e).1 (by simp), ?_⟩
      rw [read, step_plain h hc]
      simpa using h3
theorem read_quoted (n : Nat) : ∀ (l : F) (rows : List (List F)) (row : List F) (f : F), l.length ≤ n → read ⟨2, rows, row, f⟩ l =
    match quotedA f l with
    | none => (rows, 210)
    | some (g, r) => read ⟨3, rows, row, g⟩ r := by
  induction n with
  | zero => intro l rows row f hl; cases l with | nil => rfl | cons c l => simp at hl
  | succ n ih =>
    intro l rows row f hl
    cases l with
    | nil => rfl
    | cons c l =>
      rw [read, quotedA_cons]
      by_cases hc : c = 34
      · subst hc
        have e : step ⟨2, rows, row, f⟩ 34 = .inl ⟨3, rows, row, f⟩ := rfl
        rw [e, if_pos rfl]
        dsimp only
        cases l with
        | nil => rfl
        | cons d r =>
          dsimp only
          rw [read]
          by_cases hd : d = 34
          · subst hd
            rw [if_pos rfl]
            have e : step ⟨3, rows, row, f⟩ 34 = .inl ⟨2, rows, row, f ++ [34]⟩ := rfl
            rw [e]
            exact ih r rows row _ (by simp at hl; omega)
          · rw [if_neg hd]
            by_cases h3 : d = 44 ∨ d = 13 ∨ d = 10
            · rw [if_pos h3]
              dsimp only
              rw [read]
            · rw [if_neg h3]
              have e : step ⟨3, rows, row, f⟩ d = .inr 210 := by
                unfold step
                simp only [not_or] at h3
                rw [if_neg (by simp), if_neg (by simp), if_neg hd, if_neg (by simp [h3.1, h3.2.1]), if_neg h3.2.2, if_pos rfl]
              rw [e]
      · rw [if_neg hc]
        have e : step ⟨2, rows, row, f⟩ c = .inl ⟨2, rows, row, f ++ [c]⟩ := by
          unfold step
          rw [if_neg (by simp), if_pos rfl, if_neg hc]
        rw [e]
        exact ih l rows row _ (by simp at hl; omega)

/-- what comes behind a field -/
theorem read_behind (rows : List (List F)) (row : List F) (f : F) (st : Nat) (hst : st = 0 ∨ st = 1 ∨ st = 3) (r : F) (hr : r = [] ∨ ∃ d r', r = d :: r' ∧ (d = 44 ∨ d = 13 ∨ d = 10)) :
    read ⟨st, rows, row, f⟩ r =
      match r with
      | [] => fin ⟨st, rows, row, f⟩
      | c :: r' => if c = 44 then read ⟨0, rows, row ++ [f], []⟩ r' else if c = 13 ∧ r'.head? = some 10 then read ⟨0, rows ++ [row ++ [f]], [], []⟩ r'.tail else (rows, 211) := by
  rcases hr with rfl | ⟨d, r', rfl, hd⟩
  · rfl
  · rw [read]
    have h4 : st ≠ 4 := by omega
    have h2 : st ≠ 2 := by omega
    rcases hd with rfl | rfl | rfl
    · have e : step ⟨st, rows, row, f⟩ 44 = .inl ⟨0, rows, row ++ [f], []⟩ := by simp [step, h4, h2]
      rw [e]; simp
    · have e : step ⟨st, rows, row, f⟩ 13 = .inl ⟨4, rows, row ++ [f], []⟩ := by simp [step, h4, h2]
      rw [e]
      dsimp only
      cases r' with
      | nil => rfl
      | cons a r' =>
        rw [read]
        by_cases ha : a = 10
        · subst ha; rfl
        · have e : step ⟨4, rows, row ++ [f], []⟩ a = .inr 211 := by simp [step, ha]
          rw [e]; simp [ha]
    · have e : step ⟨st, rows, row, f⟩ 10 = .inr 211 := by simp [step, h4, h2]
      rw [e]; simp

theorem read_field (rows : List (List F)) (row : List F) (l : F) (hne : row ≠ [] ∨ l ≠ []) :
    read ⟨0, rows, row, []⟩ l =
      match fieldP l with
      | none => (rows, 210)
      | some (f, []) => (rows ++ [row ++ [f]], 0)
      | some (f, c :: r) => if c = 44 then read ⟨0, rows, row ++ [f], []⟩ r else if c = 13 ∧ r.head? = some 10 then read ⟨0, rows ++ [row ++ [f]], [], []⟩ r.tail else (rows, 211) := by
  by_cases hq' : ∃ r, l = 34 :: r
  · obtain ⟨r, rfl⟩ := hq'
    have ef : fieldP (34 :: r) = quotedA [] r := rfl
    have er : read ⟨0, rows, row, []⟩ (34 :: r) = read ⟨2, rows, row, []⟩ r := rfl
    rw [ef, er, read_quoted _ r rows row [] (Nat.le_refl _)]
    cases hq : quotedA [] r with
    | none => rfl
    | some x =>
      obtain ⟨f, r'⟩ := x
      dsimp only
      rw [read_behind rows row f 3 (by simp) r' (quotedA_rest hq).2]
      cases r' <;> simp [fin]
  · have hne' : ∀ r, l ≠ 34 :: r := fun r e => hq' ⟨r, e⟩
    rw [fieldP_other hne']
    obtain ⟨st', h1, h2, h3⟩ := read_plain l ⟨0, rows, row, []⟩ (.inl rfl)
    rw [h3]
    have hll := List.takeWhile_append_dropWhile (p := (!special ·)) (l := l)
    cases hp : plainP l with
    | none =>
      unfold plainP at hp
      split at hp
      · rename_i x hx
        rw [hx]
        rcases h1 with rfl | rfl
        · obtain ⟨_, h5⟩ := h2 rfl
          have : l = 34 :: x := by rw [← hll, h5, hx]; rfl
          exact absurd this (hne' _)
        · rfl
      · cases hp
    | some x =>
      obtain ⟨f, r⟩ := x
      have hr := (plainP_rest hp).2
      unfold plainP at hp
      split at hp
      · cases hp
      · simp only [Option.some.injEq, Prod.mk.injEq] at hp
        obtain ⟨h5, h6⟩ := hp
        dsimp only
        rw [List.nil_append, h5, h6, read_behind rows row _ st' (by rcases h1 with h | h <;> simp [h]) _ hr]
        rw [h5, h6] at hll
        cases r with
        | nil =>
          dsimp only
          unfold fin
          rw [if_neg (by dsimp only; omega), if_neg (by dsimp only; omega), if_pos ?_]
          dsimp only
          rcases hne with hne | hne
          · exact .inl (List.length_pos_iff.2 hne)
          · refine .inr (.inl (List.length_pos_iff.2 fun e => hne ?_))
            rw [← hll, e]; rfl
        | cons c r => rfl

theorem read_row (n : Nat) : ∀ (l : F) (rows : List (List F)) (row : List F), l.length < n → (row ≠ [] ∨ l ≠ []) →
    (read ⟨0, rows, row, []⟩ l =
      match rowA n row l with
      | (0, fs, r) => read ⟨0, rows ++ [fs], [], []⟩ r
      | (e + 1, _, _) => (rows, e + 1)) ∧
    ((rowA n row l).1 = 0 → (rowA n row l).2.2.length < l.length ∨ (l = [] ∧ (rowA n row l).2.2 = [])) := by
  induction n with
  | zero => intro l rows row h; omega
  | succ n ih =>
    intro l rows row h hne
    rw [read_field rows row l hne]
    unfold rowA
    cases hf : fieldP l with
    | none => exact ⟨rfl, fun h => by simp at h⟩
    | some x =>
      obtain ⟨f, r⟩ := x
      have hr := fieldP_rest hf
      cases r with
      | nil =>
        dsimp only
        refine ⟨by simp [read, fin], fun _ => ?_⟩
        cases l with
        | nil => exact .inr ⟨rfl, rfl⟩
        | cons c l => exact .inl (by simp)
      | cons c r =>
        dsimp only
        have hlen := hr.1
        simp only [List.length_cons] at hlen
        by_cases hc : c = 44
        · rw [if_pos hc, if_pos hc]
          have := ih r rows (row ++ [f]) (by omega) (.inl (by simp))
          refine ⟨this.1, fun h0 => ?_⟩
          rcases this.2 h0 with h1 | ⟨h1, h2⟩
          · exact .inl (by omega)
          · exact .inl (by rw [h2]; simp; omega)
        · rw [if_neg hc, if_neg hc]
          split
          · refine ⟨rfl, fun _ => .inl ?_⟩
            have : r.tail.length ≤ r.length := by cases r <;> simp
            dsimp only
            omega
          · exact ⟨rfl, fun h => by simp at h⟩

theorem rowsA_length (n : Nat) : ∀ (acc : List (List F)) (l : F), (rowsA n acc l).1.length ≤ acc.length + l.length := by
  induction n with
  | zero => intro acc l; simp [rowsA]
  | succ n ih =>
    intro acc l
    unfold rowsA
    by_cases hl : l = []
    · rw [if_pos hl]; simp
    · rw [if_neg hl]
      have h2 := (read_row (l.length + 1) l [] [] (by omega) (.inr hl)).2
      generalize rowA (l.length + 1) [] l = x at h2 ⊢
      obtain ⟨e, fs, r⟩ := x
      cases e with
      | zero =>
        dsimp only
        have := ih (acc ++ [fs]) r
        rw [List.length_append] at this
        rcases h2 rfl with h3 | ⟨h3, _⟩
        · simp only [List.length_singleton] at this h3; omega
        · exact absurd h3 hl
      | succ e => simp
theorem rowsOf_length (l : F) : (rowsOf l).1.length ≤ l.length := by
  have := rowsA_length (l.length + 1) [] l
  simpa [rowsOf] using this
theorem rows_read (n : Nat) : ∀ (l : F) (acc : List (List F)), l.length < n → rowsA n acc l = read ⟨0, acc, [], []⟩ l := by
  induction n with
  | zero => intro l acc h; omega
  | succ n ih =>
    intro l acc h
    unfold rowsA
    by_cases hl : l = []
    · subst hl; rw [if_pos rfl]; rfl
    · rw [if_neg hl]
      obtain ⟨h1, h2⟩ := read_row (l.length + 1) l acc [] (by omega) (.inr hl)
      rw [h1]
      generalize rowA (l.length + 1) [] l = x at h2 ⊢
      obtain ⟨e, fs, r⟩ := x
      cases e with
      | zero =>
        dsimp only
        refine ih r _ ?_
        rcases h2 rfl with h3 | ⟨h3, _⟩
        · simp only at h3; omega
        · exact absurd h3 hl
      | succ e => rfl
/-- the program reads as the document does -/
theorem rowsOf_read (l : F) : rowsOf l = read ⟨0, [], [], []⟩ l := rows_read _ l [] (by omega)

/-! ### There -/
theorem read_esc (f : F) : ∀ (rows : List (List F)) (row : List F) (g : F) (l : F), read ⟨2, rows, row, g⟩ (esc f ++ l) = read ⟨2, rows, row, g ++ f⟩ l := by
  induction f with
  | nil => intro rows row g l; simp [esc]
  | cons c f ih =>
    intro rows row g l
    by_cases hc : c = 34
    · subst hc
      have e : esc (34 :: f) ++ l = 34 :: 34 :: (esc f ++ l) := by simp [esc]
      rw [e, read]
      have e1 : step ⟨2, rows, row, g⟩ 34 = .inl ⟨3, rows, row, g⟩ := rfl
      rw [e1]
      dsimp only
      rw [read]
      have e2 : step ⟨3, rows, row, g⟩ 34 = .inl ⟨2, rows, row, g ++ [34]⟩ := rfl
      rw [e2]
      dsimp only
      rw [ih]
      simp
    · have e : esc (c :: f) ++ l = c :: (esc f ++ l) := by simp [esc, hc]
      rw [e, read]
      have e1 : step ⟨2, rows, row, g⟩ c = .inl ⟨2, rows, row, g ++ [c]⟩ := by
        unfold step
        rw [if_neg (by simp), if_pos rfl, if_neg hc]
      rw [e1]
      dsimp only
      rw [ih]
      simp
theorem takeWhile_all {p : UInt8 → Bool} {f l : F} (h : ∀ x ∈ f, p x = true) (hl : l = [] ∨ ∃ c r, l = c :: r ∧ p c = false) : (f ++ l).takeWhile p = f ∧ (f ++ l).dropWhile p = l := by
  induction f with
  | nil =>
    rcases hl with rfl | ⟨c, r, rfl, hc⟩
    · exact ⟨rfl, rfl⟩
    · simp [hc]
  | cons a f ih =>
    obtain ⟨h1, h2⟩ := ih (fun x hx => h x (by simp [hx]))
    have ha := h a (by simp)
    rw [List.cons_append, List.takeWhile_cons, List.dropWhile_cons, ha]
    simp [h1, h2]
/-- a printed field is read again -/
theorem read_printF (rows : List (List F)) (row : List F) (f : F) (c : UInt8) (l : F) (hc : c = 44 ∨ c = 13) :
    ∃ st, (st = 0 ∨ st = 1 ∨ st = 3) ∧ read ⟨0, rows, row, []⟩ (printF f ++ c :: l) = read ⟨st, rows, row, f⟩ (c :: l) := by
  unfold printF
  cases hs : f.any special with
  | true =>
    refine ⟨3, by simp, ?_⟩
    have e : (if true = true then 34 :: esc f ++ [34] else f) ++ c :: l = 34 :: (esc f ++ 34 :: c :: l) := by simp
    rw [e, read]
    have e1 : step ⟨0, rows, row, []⟩ 34 = .inl ⟨2, rows, row, []⟩ := rfl
    rw [e1]
    dsimp only
    rw [read_esc, read]
    have e2 : step ⟨2, rows, row, [] ++ f⟩ 34 = .inl ⟨3, rows, row, f⟩ := rfl
    rw [e2]
  | false =>
    have hsp : special c = true := by rcases hc with rfl | rfl <;> rfl
    have hf : ∀ x ∈ f, (!special x) = true := fun x hx => by
      have := List.any_eq_false.1 hs x hx
      simpa using this
    obtain ⟨h1, h2⟩ := takeWhile_all (p := (!special ·)) (l := c :: l) hf (.inr ⟨c, l, rfl, by simp [hsp]⟩)
    obtain ⟨st', h3, _, h5⟩ := read_plain (f ++ c :: l) ⟨0, rows, row, []⟩ (.inl rfl)
    refine ⟨st', by rcases h3 with h | h <;> simp [h], ?_⟩
    rw [h1, h2] at h5
    simpa using h5
theorem read_fields (r : List F) : ∀ (rows : List (List F)) (row : List F) (k : Nat) (l : F), 0 < k → (∃ p f, row = p ++ [f]) →
    ∀ p f, row = p ++ [f] → ∀ st, (st = 0 ∨ st = 1 ∨ st = 3) → read ⟨st, rows, p, f⟩ (fieldsK k r ++ [13, 10] ++ l) = read ⟨0, rows ++ [row ++ r], [], []⟩ l := by
  induction r with
  | nil =>
    intro rows row k l hk _ p f hp st hst
    have e : fieldsK k [] ++ [13, 10] ++ l = 13 :: 10 :: l := rfl
    rw [e, read_behind rows p f st hst _ (.inr ⟨13, 10 :: l, rfl, by simp⟩)]
    simp [hp]
  | cons g r ih =>
    intro rows row k l hk _ p f hp st hst
    have e : fieldsK k (g :: r) ++ [13, 10] ++ l = 44 :: (printF g ++ (fieldsK (k + 1) r ++ [13, 10] ++ l)) := by simp [fieldsK, hk]
    rw [e, read_behind rows p f st hst _ (.inr ⟨44, _, rfl, by simp⟩)]
    dsimp only
    rw [if_pos rfl, ← hp]
    have hfc : ∃ c l', fieldsK (k + 1) r ++ [13, 10] ++ l = c :: l' ∧ (c = 44 ∨ c = 13) := by
      cases r with
      | nil => exact ⟨13, _, rfl, by simp⟩
      | cons a r => exact ⟨44, _, by simp [fieldsK]; rfl, by simp⟩
    obtain ⟨c, l', hc, hcc⟩ := hfc
    rw [hc]
    obtain ⟨st', h1, h2⟩ := read_printF rows row g c l' hcc
    rw [h2, ← hc, ih rows (row ++ [g]) (k + 1) l (by omega) ⟨row, g, rfl⟩ row g rfl st' h1]
    simp
theorem read_printRow (rows : List (List F)) (r : List F) (l : F) (hr : r ≠ []) : read ⟨0, rows, [], []⟩ (printRow r ++ l) = read ⟨0, rows ++ [r], [], []⟩ l := by
  cases r with
  | nil => exact absurd rfl hr
  | cons f r =>
    have e : printRow (f :: r) ++ l = printF f ++ (fieldsK 1 r ++ [13, 10] ++ l) := by simp [printRow, fieldsK]
    rw [e]
    have hfc : ∃ c l', fieldsK 1 r ++ [13, 10] ++ l = c :: l' ∧ (c = 44 ∨ c = 13) := by
      cases r with
      | nil => exact ⟨13, _, rfl, by simp⟩
      | cons a r => exact ⟨44, _, by simp [fieldsK]; rfl, by simp⟩
    obtain ⟨c, l', hc, hcc⟩ := hfc
    rw [hc]
    obtain ⟨st', h1, h2⟩ := read_printF rows [] f c l' hcc
    rw [h2, ← hc, read_fields r rows [f] 1 l (by omega) ⟨[], f, rfl⟩ [] f rfl st' h1]
    simp
theorem read_print (rs : List (List F)) : ∀ (rows : List (List F)) (l : F), [] ∉ rs → read ⟨0, rows, [], []⟩ (rs.flatMap printRow ++ l) = read ⟨0, rows ++ rs, [], []⟩ l := by
  induction rs with
  | nil => intro rows l _; simp
  | cons r rs ih =>
    intro rows l h
    have e : (r :: rs).flatMap printRow ++ l = printRow r ++ (rs.flatMap printRow ++ l) := by simp
    rw [e, read_printRow rows r _ (fun e => h (by simp [e])), ih _ _ (fun e => h (by simp [e]))]
    simp
/-- rows that are printed are read again -/
theorem rows_print (rs : List (List F)) (h : [] ∉ rs) : rowsOf (rs.flatMap printRow) = (rs, 0) := by
  rw [rowsOf_read]
  have := read_print rs [] [] h
  simp only [List.append_nil, List.nil_append] at this
  rw [this]
  simp [read, fin]

/-! ### Back: what is read has rows of at least one field -/
theorem read_full (l : F) : ∀ s : St, [] ∉ s.rows → (s.st = 4 → s.row ≠ []) → [] ∉ (read s l).1 := by
  induction l with
  | nil =>
    intro s h _
    unfold read fin
    split
    · exact h
    · split
      · exact h
      · split
        · simp [h]
        · exact h
  | cons c l ih =>
    intro s h h4
    unfold read
    have key : ∀ s', step s c = .inl s' → [] ∉ s'.rows ∧ (s'.st = 4 → s'.row ≠ []) := by
      intro s' hs
      unfold step at hs
      split at hs
      · rename_i h44
        split at hs
        · cases hs
          refine ⟨?_, by simp⟩
          simp only [List.mem_append, List.mem_singleton, not_or]
          exact ⟨h, fun e => h4 h44 e.symm⟩
        · cases hs
      · split at hs
        · split at hs <;> cases hs <;> exact ⟨h, by simp⟩
        · split at hs
          · split at hs
            · cases hs
            · cases hs; exact ⟨h, by simp⟩
          · split at hs
            · cases hs; exact ⟨h, by simp⟩
            · split at hs
              · cases hs
              · split at hs
                · cases hs
                · cases hs; exact ⟨h, by simp⟩
    cases hs : step s c with
    | inl s' => exact ih s' (key s' hs).1 (key s' hs).2
    | inr e => exact h
theorem rowsOf_full (l : F) : [] ∉ (rowsOf l).1 := by
  rw [rowsOf_read]
  exact read_full l _ (by simp) (by simp)
/-- no rows: no text -/
theorem read_rows (l : F) : ∀ s : St, (read s l).2 = 0 → s.rows.length ≤ (read s l).1.length ∧ (s.st ≠ 0 ∨ s.row ≠ [] ∨ l ≠ [] → s.rows.length < (read s l).1.length) := by
  induction l with
  | nil =>
    intro s h
    unfold read fin at h ⊢
    split
    · rename_i h2; simp [h2] at h
    · split
      · rename_i h2 h4; simp [h4] at h
      · split
        · exact ⟨by simp, fun _ => by simp⟩
        · rename_i h5
          simp only [not_or, Nat.not_lt, Nat.le_zero_eq, ne_eq, Decidable.not_not] at h5
          refine ⟨Nat.le_refl _, fun h => ?_⟩
          rcases h with h | h | h
          · exact absurd h5.2.2 h
          · exact absurd (List.eq_nil_of_length_eq_zero h5.1) h
          · exact absurd rfl h
  | cons c l ih =>
    intro s h
    unfold read at h ⊢
    cases hs : step s c with
    | inr e =>
      rw [hs] at h
      unfold step at hs
      dsimp only at h
      split at hs
      · split at hs <;> cases hs; cases h
      · split at hs
        · split at hs <;> cases hs
        · split at hs
          · split at hs <;> cases hs; cases h
          · split at hs
            · cases hs
            · split at hs
              · cases hs; cases h
              · split at hs <;> cases hs; cases h
    | inl s' =>
      rw [hs] at h
      dsimp only at h ⊢
      obtain ⟨h1, h2⟩ := ih s' h
      have key : s.rows.length < s'.rows.length ∨ (s.rows.length ≤ s'.rows.length ∧ (s'.st ≠ 0 ∨ s'.row ≠ [])) := by
        unfold step at hs
        split at hs
        · split at hs <;> cases hs
          exact .inl (by simp)
        · split at hs
          · split at hs <;> cases hs <;> exact .inr ⟨Nat.le_refl _, .inl (by simp)⟩
          · split at hs
            · split at hs
              · cases hs
              · cases hs; exact .inr ⟨Nat.le_refl _, .inl (by simp)⟩
            · split at hs
              · cases hs; exact .inr ⟨Nat.le_refl _, .inr (by simp)⟩
              · split at hs
                · cases hs
                · split at hs
                  · cases hs
                  · cases hs; exact .inr ⟨Nat.le_refl _, .inl (by simp)⟩
      rcases key with k | ⟨k1, k2⟩
      · exact ⟨by omega, fun _ => by omega⟩
      · have : s'.rows.length < (read s' l).1.length := h2 (by rcases k2 with k | k <;> simp [k])
        exact ⟨by omega, fun _ => by omega⟩
theorem rowsOf_nil (l : F) (h : (rowsOf l).2 = 0) : (rowsOf l).1 = [] ↔ l = [] := by
  rw [rowsOf_read] at h ⊢
  constructor
  · intro e
    rcases Classical.em (l = []) with hl | hl
    · exact hl
    · have := (read_rows l ⟨0, [], [], []⟩ h).2 (.inr (.inr hl))
      rw [e] at this
      simp at this
  · rintro rfl
    rfl

/-! ### Joins -/
/-- the state behind a text, or the rows and the number of its error -/
def after : St → F → St ⊕ (List (List F) × Nat)
  | s, [] => .inl s
  | s, c :: l =>
    match step s c with
    | .inl s' => after s' l
    | .inr e => .inr (s.rows, e)
theorem read_after (l : F) : ∀ (s : St) (b : F), read s (l ++ b) = match after s l with | .inl s' => read s' b | .inr x => x := by
  induction l with
  | nil => intro s b; rfl
  | cons c l ih =>
    intro s b
    rw [List.cons_append, read, after]
    cases step s c with
    | inl s' => exact ih s' b
    | inr e => rfl
theorem after_snoc (l : F) : ∀ (s : St) (c : UInt8), after s (l ++ [c]) = match after s l with | .inl s' => (match step s' c with | .inl x => .inl x | .inr e => .inr (s'.rows, e)) | .inr x => .inr x := by
  induction l with
  | nil => intro s c; simp only [List.nil_append, after]
  | cons d l ih =>
    intro s c
    rw [List.cons_append, after, after]
    cases step s d with
    | inl s' => exact ih s' c
    | inr e => rfl
/-- a whole text with a line's end, and another one behind it -/
theorem rowsOf_join (a b : F) (ha : (rowsOf (a ++ [10])).2 = 0) : rowsOf (a ++ [10] ++ b) = ((rowsOf (a ++ [10])).1 ++ (rowsOf b).1, (rowsOf b).2) := by
  have shift : ∀ (l : F) (s : St) (rows : List (List F)), read { s with rows := rows ++ s.rows } l = (rows ++ (read s l).1, (read s l).2) := by
    intro l
    induction l with
    | nil =>
      intro s rows
      unfold read fin
      dsimp only
      split
      · rfl
      · split
        · rfl
        · split <;> simp
    | cons c l ih =>
      intro s rows
      unfold read
      have e : step { s with rows := rows ++ s.rows } c = match step s c with | .inl s' => .inl { s' with rows := rows ++ s'.rows } | .inr e => .inr e := by
        unfold step
        dsimp only
        split
        · split <;> simp
        · split
          · split <;> rfl
          · split
            · split <;> rfl
            · split
              · rfl
              · split
                · rfl
                · split <;> rfl
      rw [e]
      cases step s c with
      | inl s' => exact ih s' rows
      | inr e => rfl
  rw [rowsOf_read] at ha ⊢
  rw [rowsOf_read, rowsOf_read, read_after (a ++ [10]) _ b]
  have h0 := read_after (a ++ [10]) ⟨0, [], [], []⟩ []
  rw [List.append_nil] at h0
  rw [after_snoc] at h0 ⊢
  cases hs : after ⟨0, [], [], []⟩ a with
  | inr x =>
    rw [hs] at h0
    dsimp only at h0
    rw [h0] at ha
    have bad : ∀ (l : F) (s : St) x, after s l = .inr x → x.2 ≠ 0 := by
      intro l
      induction l with
      | nil => intro s x h; cases h
      | cons c l ih =>
        intro s x h
        unfold after at h
        cases hst : step s c with
        | inl s' => rw [hst] at h; exact ih s' x h
        | inr e =>
          rw [hst] at h
          cases h
          unfold step at hst
          dsimp only
          split at hst
          · split at hst <;> cases hst; simp
          · split at hst
            · split at hst <;> cases hst
            · split at hst
              · split at hst <;> cases hst; simp
              · split at hst
                · cases hst
                · split at hst
                  · cases hst; simp
                  · split at hst <;> cases hst; simp
    exact absurd ha (bad a _ x hs)
  | inl s =>
    rw [hs] at h0
    dsimp only at h0 ⊢
    by_cases h4 : s.st = 4
    · have e : step s 10 = .inl ⟨0, s.rows ++ [s.row], [], []⟩ := by simp [step, h4]
      rw [e] at h0 ⊢
      dsimp only at h0 ⊢
      have h1 : read ⟨0, s.rows ++ [s.row], [], []⟩ [] = (s.rows ++ [s.row], 0) := by simp [read, fin]
      rw [h0, h1]
      have := shift b ⟨0, [], [], []⟩ (s.rows ++ [s.row])
      simpa using this
    · exfalso
      by_cases h2 : s.st = 2
      · have e : step s 10 = .inl ⟨2, s.rows, s.row, s.field ++ [10]⟩ := by simp [step, h2]
        rw [e] at h0
        dsimp only at h0
        rw [h0] at ha
        simp [read, fin] at ha
      · have e : step s 10 = .inr 211 := by simp [step, h2, h4]
        rw [e] at h0
        dsimp only at h0
        rw [h0] at ha
        simp at ha

/-! what is read is no longer than the text allows -/
def rw_ (r : List F) : Nat := (r.map fun f => 2 * f.length + 3).sum
theorem wRows_app (a b : List (List F)) : wRows (a ++ b) = wRows a + wRows b := by simp [wRows]
theorem rw_app (a b : List F) : rw_ (a ++ b) = rw_ a + rw_ b := by simp [rw_]
theorem wRow_rw (r : List F) : wRow r = rw_ r + 2 := rfl
theorem wRows_one (r : List F) : wRows [r] = rw_ r + 2 := by simp [wRows, wRow_rw]
def wSt (s : St) : Nat := wRows s.rows + rw_ s.row + 2 * s.field.length
theorem step_w {s s' : St} {c : UInt8} (h : step s c = .inl s') : wSt s' ≤ wSt s + 3 := by
  unfold step at h
  split at h
  · split at h
    · cases h; simp only [wSt, wRows_app, wRows_one]; simp [rw_]; omega
    · cases h
  split at h
  · split at h
    · cases h; simp only [wSt]; omega
    · cases h; simp only [wSt]; simp; omega
  split at h
  · split at h
    · cases h
    · cases h; simp only [wSt]; split <;> simp <;> omega
  split at h
  · cases h; simp only [wSt, rw_app]; simp [rw_]; omega
  split at h
  · cases h
  split at h
  · cases h
  · cases h; simp only [wSt]; simp; omega
theorem read_w (l : F) : ∀ s : St, wRows (read s l).1 ≤ wSt s + 3 * l.length + 5 := by
  induction l with
  | nil =>
    intro s
    unfold read fin
    split
    · simp only [wSt]; omega
    split
    · simp only [wSt]; omega
    split
    · simp only [wSt, wRows_app, wRows_one, rw_app]; simp [rw_]; omega
    · simp only [wSt]; omega
  | cons c l ih =>
    intro s
    unfold read
    cases h : step s c with
    | inl s' => have h1 := ih s'; have h2 := step_w h; simp only [List.length_cons]; omega
    | inr e => simp only [wSt, List.length_cons]; omega
theorem rowsOf_w (l : F) : wRows (rowsOf l).1 ≤ 3 * l.length + 5 := by
  rw [rowsOf_read]
  have := read_w l ⟨0, [], [], []⟩
  simpa [wSt, wRows, rw_] using this
end Go.Proofs.YtjkbaihcdjbjiaaDoor.Csv
