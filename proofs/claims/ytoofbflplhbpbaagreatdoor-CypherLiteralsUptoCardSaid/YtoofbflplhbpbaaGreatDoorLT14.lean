/- Contracts and plain laws, part 14. -/
import Derived.Test.YtoofbflplhbpbaaGreatDoorLT13
namespace Go.Proofs.YtoofbflplhbpbaaGreatDoor.Cy
open Go
structure TokOk (t : Lex.Tok) : Prop where
 num : Cel.In64 t.num
 len : t.text.length ≤ 16777216
 kind : t.kind ≤ 5
 word : t.kind = 1 → t.text ≠ []
theorem parseInt_in (l : L) : Cel.In64 (Num.parseInt l).1 := by
 by_cases h : Num.isInt l = true
 ·obtain ⟨neg, r, rfl, hg⟩ := (Num.isInt_good l).1 h
  rw [Num.parseInt_form hg]
  split
  ·exact ⟨by simp, by simp⟩
  ·rename_i ho
   unfold Num.over at ho
   unfold Num.sgnd
   cases neg
   ·simp at ho ⊢
    constructor <;> omega
   ·simp at ho ⊢
    constructor <;> omega
 ·have h' : Num.isInt l = false := by cases e : Num.isInt l with
   | false => rfl
   | true => exact absurd e h
  rw [Num.parseInt_bad h']
  exact ⟨by simp, by simp⟩
theorem textR_ok : ∀ (k : Nat) (r : L) (o : Nat) (b : L) {kd : Nat} {tx : L} {nm : Int} {n : Nat}, Lex.textR k r o b = .tok kd tx nm n → kd = 4 ∧ nm = 0 ∧ tx.length ≤ b.length + r.length
 | 0, r, o, b, _, _, _, _, h => by simp [Lex.textR] at h
 | k + 1, [], o, b, _, _, _, _, h => by simp [Lex.textR] at h
 | k + 1, c :: r, o, b, kd, tx, nm, n, h => by
  simp only [Lex.textR] at h
  split at h
  ·cases h
   exact ⟨rfl, rfl, by omega⟩
  ·split at h
   ·cases h
   ·split at h
    ·split at h
     ·cases h
     ·have ih := textR_ok k _ _ _ h
      simp only [List.length_append, List.length_cons, List.length_nil, List.length_drop] at ih ⊢
      exact ⟨ih.1, ih.2.1, by omega⟩
    ·have ih := textR_ok k _ _ _ h
     simp only [List.length_append, List.length_cons, List.length_nil] at ih ⊢
     exact ⟨ih.1, ih.2.1, by omega⟩
theorem zero_in : Cel.In64 0 := ⟨by decide, by decide⟩
theorem tok1_ok {l : L} {kd : Nat} {tx : L} {nm : Int} {n : Nat} (h : Lex.tok1 l = .tok kd tx nm n) : Cel.In64 nm ∧ tx.length ≤ l.length ∧ kd ≤ 5 ∧ (kd = 1 → tx ≠ []) := by
 cases l with
 | nil => simp [Lex.tok1] at h
 | cons c r =>
  simp only [Lex.tok1] at h
  split at h
  ·obtain ⟨rfl, rfl, h3⟩ := textR_ok _ _ _ _ h
   exact ⟨zero_in, by simp only [List.length_nil, List.length_cons] at h3 ⊢; omega, by omega, by omega⟩
  ·split at h
   ·rename_i hc
    cases h
    refine ⟨zero_in, by rw [List.length_take]; omega, by omega, fun _ => ?_⟩
    have hf := let_fin ⟨c.toNat, UInt8.toNat_lt c⟩
    simp only [UInt8.ofNat_toNat] at hf
    rw [Lex.run_cons_pos r (hf hc).2.2.2, Nat.add_comm, List.take_succ_cons]
    simp
   ·split at h
    ·unfold Lex.numTok at h
     split at h
     ·split at h
      ·cases h
       rename_i hp
       exact ⟨Cel.s64_in (Num.fmt_parse hp).2.1, by simp, by omega, by omega⟩
      ·cases h
     ·split at h
      ·cases h
       exact ⟨parseInt_in _, by simp, by omega, by omega⟩
      ·cases h
    ·split at h
     ·cases h
      rename_i hc
      exact ⟨zero_in, by cases r with
       | nil => simp at hc
       | cons => simp, by omega, by omega⟩
     ·split at h
      ·cases h
       exact ⟨zero_in, by simp, by omega, by omega⟩
      ·cases h
theorem scan_ok : ∀ (k : Nat) (l : L) (i : Nat), l.length ≤ 16777216 → ∀ t ∈ (Lex.scan k l i).1, TokOk t
 | 0, l, i, _, t, h => by simp [Lex.scan] at h
 | k + 1, [], i, _, t, h => by simp [Lex.scan] at h
 | k + 1, c :: r, i, hl, t, h => by
  cases ht : Lex.tok1 (c :: r) with
  | err o e => rw [Lex.scan_err (by simp) ht] at h; cases h
  | tok kd tx nm n =>
   rw [Lex.scan_tok ht rfl] at h
   rcases List.mem_cons.1 h with rfl | h
   ·have := tok1_ok ht
    exact ⟨this.1, by show tx.length ≤ _; omega, this.2.2.1, this.2.2.2⟩
   ·exact scan_ok k _ _ (by rw [List.length_drop]; omega) t h
theorem read_ok (s : L) : ∀ t ∈ (Lex.read s).1, TokOk t := by
 unfold Lex.read
 split
 ·intro t h; cases h
 ·unfold Lex.body
  exact scan_ok _ _ _ (by rw [List.length_drop]; omega)
theorem scan_count : ∀ (k : Nat) (l : L) (i : Nat), (Lex.scan k l i).1.length ≤ l.length
 | 0, l, i => by simp [Lex.scan]
 | k + 1, [], i => by simp [Lex.scan]
 | k + 1, c :: r, i => by
  cases ht : Lex.tok1 (c :: r) with
  | err o e => rw [Lex.scan_err (by simp) ht]; simp
  | tok kd tx nm n =>
   obtain ⟨t1, t2⟩ := Lex.tok1_len ht
   have ih := scan_count k ((c :: r).drop (n + Lex.gap false ((c :: r).drop n))) (i + n + Lex.gap false ((c :: r).drop n))
   rw [Lex.scan_tok ht rfl, List.length_cons]
   rw [List.length_drop] at ih
   omega
theorem toks_len (s : L) : (Lex.read s).1.length ≤ 16777216 := by
 unfold Lex.read
 split
 ·simp
 ·have := scan_count (s.length + 1) (s.drop (Lex.gap false s)) (0 + Lex.gap false s)
  unfold Lex.body
  rw [List.length_drop] at this
  omega
theorem scan_err_ne : ∀ (k : Nat) (l : L) (i : Nat) {p e : Nat}, (Lex.scan k l i).2 = some (p, e) → e ≠ 0
 | 0, l, i, p, e, h => by simp [Lex.scan] at h
 | k + 1, [], i, p, e, h => by simp [Lex.scan] at h
 | k + 1, c :: r, i, p, e, h => by
  cases ht : Lex.tok1 (c :: r) with
  | err o e' =>
   rw [Lex.scan_err (by simp) ht] at h
   have := (Lex.tok1_err (by simp) ht).1
   cases h
   exact this
  | tok kd tx nm n =>
   rw [Lex.scan_tok ht rfl] at h
   exact scan_err_ne k _ _ h
theorem Lex_err {s : L} {p e : Nat} (h : (Lex.read s).2 = some (p, e)) : e ≠ 0 := by
 unfold Lex.read at h
 split at h
 ·cases h; decide
 ·exact scan_err_ne _ _ _ h
def Tail (r l : T) : Prop := ∃ p, l = p ++ r
theorem Tail.refl (l : T) : Tail l l := ⟨[], rfl⟩
theorem Tail.trans {a b c : T} (h : Tail a b) (k : Tail b c) : Tail a c := by
 obtain ⟨p, rfl⟩ := h
 obtain ⟨q, rfl⟩ := k
 exact ⟨q ++ p, by rw [List.append_assoc]⟩
theorem Tail.ok {r l : T} (h : Tail r l) (ok : ∀ t ∈ l, TokOk t) : ∀ t ∈ r, TokOk t := by
 obtain ⟨p, rfl⟩ := h
 exact fun t ht => ok t (List.mem_append_right _ ht)
theorem Tail.len {r l : T} (h : Tail r l) : r.length ≤ l.length := by
 obtain ⟨p, rfl⟩ := h
 rw [List.length_append]; omega
theorem Tail.drop {r l : T} (h : Tail r l) : r = l.drop (l.length - r.length) := by
 obtain ⟨p, rfl⟩ := h
 rw [List.length_append, Nat.add_sub_cancel, List.drop_left]
theorem mark_tail {m : L} {l r : T} (h : mark m l = some r) : Tail r l ∧ r.length + 1 = l.length := by
 cases l with
 | nil => simp [mark] at h
 | cons t r' =>
  rw [mark] at h
  split at h
  ·cases h
   exact ⟨⟨[t], rfl⟩, rfl⟩
  ·cases h
theorem word_tail {w : L} {l r : T} (h : wordP l = some (w, r)) (ok : ∀ t ∈ l, TokOk t) : Tail r l ∧ w.length ≤ 16777216 ∧ r.length + 1 = l.length ∧ w ≠ [] := by
 cases l with
 | nil => simp [wordP] at h
 | cons t r' =>
  rw [wordP] at h
  split at h
  ·rename_i hk
   cases h
   exact ⟨⟨[t], rfl⟩, (ok t (by simp)).len, rfl, (ok t (by simp)).word hk⟩
  ·cases h
theorem scalar_tail {k n : Int} {t : L} {l r : T} (h : scalarP l = some ((k, n, t), r)) (ok : ∀ t ∈ l, TokOk t) : Tail r l ∧ 1 ≤ k ∧ k ≤ 4 ∧ Cel.In64 n ∧ t.length ≤ 16777216 ∧ r.length + 1 = l.length := by
 cases l with
 | nil => simp [scalarP] at h
 | cons u r' =>
  have hu := ok u (by simp)
  rw [scalarP] at h
  have hi0 : Cel.In64 0 := zero_in
  have hi1 : Cel.In64 1 := ⟨by decide, by decide⟩
  repeat' split at h
  all_goals first
   | (cases h; done)
   | (cases h; exact ⟨⟨[u], rfl⟩, by omega, by omega, by first | assumption | exact hu.num, by first | exact hu.len | simp, rfl⟩)
structure VSz (v : Cel.V) : Prop where
 kin : 1 ≤ v.kind ∧ v.kind ≤ 8
 num : Cel.In64 v.num
 nums : ∀ n ∈ v.nums, Cel.In64 n
 tl : v.text.length ≤ 16777216
 nl : v.nums.length ≤ 16777216
 sl : v.texts.length ≤ 16777216
 sz : ∀ t ∈ v.texts, t.length ≤ 16777216
theorem elems_tail {k : Int} : ∀ (f : Nat) (l : T) (ns : List Int) (ts : List L) {x : List Int × List L} {r : T}, elems k f l ns ts = some (x, r) → (∀ t ∈ l, TokOk t) → (∀ n ∈ ns, Cel.In64 n) → (∀ t ∈ ts, t.length ≤ 16777216) →
  Tail r l ∧ (∀ n ∈ x.1, Cel.In64 n) ∧ (∀ t ∈ x.2, t.length ≤ 16777216) ∧ x.1.length + r.length ≤ ns.length + l.length ∧ x.2.length + r.length ≤ ts.length + l.length
 | 0, l, ns, ts, x, r, h, _, _, _ => by simp [elems] at h
 | f + 1, l, ns, ts, x, r, h, ok, hn, ht => by
  rw [elems] at h
  split at h
  ·cases h
  ·rename_i j n t r1 hs
   obtain ⟨t1, -, -, q3, q4, e1⟩ := scalar_tail hs ok
   have hn' : ∀ m ∈ (if k = 4 then ns else ns ++ [n]), Cel.In64 m := fun m hm => by
    split at hm
    ·exact hn m hm
    ·rcases List.mem_append.1 hm with hm | hm
     ·exact hn m hm
     ·rw [List.mem_singleton.1 hm]; exact q3
   have ht' : ∀ m ∈ (if k = 4 then ts ++ [t] else ts), m.length ≤ 16777216 := fun m hm => by
    split at hm
    ·rcases List.mem_append.1 hm with hm | hm
     ·exact ht m hm
     ·rw [List.mem_singleton.1 hm]; exact q4
    ·exact ht m hm
   have hnl : (if k = 4 then ns else ns ++ [n]).length ≤ ns.length + 1 := by split <;> simp
   have htl : (if k = 4 then ts ++ [t] else ts).length ≤ ts.length + 1 := by split <;> simp
   split at h
   ·cases h
   ·split at h
    ·rename_i r' hm
     obtain ⟨t2, e2⟩ := mark_tail hm
     cases h
     exact ⟨t2.trans t1, hn', ht', by show (if k = 4 then ns else ns ++ [n]).length + _ ≤ _; omega, by show (if k = 4 then ts ++ [t] else ts).length + _ ≤ _; omega⟩
    ·split at h
     ·cases h
     ·rename_i r' hm
      obtain ⟨t2, e2⟩ := mark_tail hm
      obtain ⟨t3, q5, q6, q7, q8⟩ := elems_tail f _ _ _ h ((t2.trans t1).ok ok) hn' ht'
      exact ⟨t3.trans (t2.trans t1), q5, q6, by omega, by omega⟩
theorem kindOf_range {w : L} (h : kindOf w ≠ 0) : 1 ≤ kindOf w ∧ kindOf w ≤ 4 := by
 unfold kindOf at h ⊢
 repeat' split
 all_goals first | omega | (exfalso; apply h; simp_all)
theorem lit_tail {v : Cel.V} {l r : T} (h : litP l = some (v, r)) (ok : ∀ t ∈ l, TokOk t) (hl : l.length ≤ 16777216) : Tail r l ∧ VSz v ∧ r.length < l.length := by
 unfold litP at h
 split at h
 ·cases hs : scalarP l with
  | none => rw [hs] at h; cases h
  | some x =>
   obtain ⟨⟨k, n, t⟩, r1⟩ := x
   rw [hs] at h
   cases h
   obtain ⟨t1, k1, k2, q3, q4, e1⟩ := scalar_tail hs ok
   refine ⟨t1, ⟨⟨k1, by show k ≤ 8; omega⟩, q3, by simp, q4, by simp, by simp, by simp⟩, ?_⟩
   show r1.length < _
   omega
 ·rename_i r1 h1
  obtain ⟨t1, e1⟩ := mark_tail h1
  split at h
  ·cases h
  ·rename_i r2 h2
   obtain ⟨t2, e2⟩ := mark_tail h2
   split at h
   ·cases h
   ·rename_i w r3 h3
    obtain ⟨t3, -, e3, -⟩ := word_tail h3 ((t2.trans t1).ok ok)
    have t123 := t3.trans (t2.trans t1)
    split at h
    ·cases h
    ·rename_i hk
     have hkr := kindOf_range hk
     split at h
     ·rename_i r4 h4
      obtain ⟨t4, e4⟩ := mark_tail h4
      cases h
      exact ⟨t4.trans t123, ⟨⟨by show 1 ≤ kindOf w + 4; omega, by show kindOf w + 4 ≤ 8; omega⟩, zero_in, by simp, by simp, by simp, by simp, by simp⟩, by omega⟩
     ·cases hs : elems (kindOf w) (r3.length + 1) r3 [] [] with
      | none => rw [hs] at h; cases h
      | some x =>
       obtain ⟨⟨a, b⟩, r5⟩ := x
       rw [hs] at h
       cases h
       obtain ⟨t5, q1, q2, q3, q4⟩ := elems_tail _ _ _ _ hs (t123.ok ok) (by simp) (by simp)
       simp only [List.length_nil] at q3 q4
       refine ⟨t5.trans t123, ⟨⟨by show 1 ≤ kindOf w + 4; omega, by show kindOf w + 4 ≤ 8; omega⟩, zero_in, q1, by simp, ?_, ?_, q2⟩, ?_⟩
       ·show a.length ≤ _; omega
       ·show b.length ≤ _; omega
       ·have := t5.len
        show r5.length < _
        omega
structure PSz (p : Gr.P) : Prop where
 key : p.key.length ≤ 16777216
 val : VSz p.val
theorem propsGo_tail : ∀ (f : Nat) (l : T) (acc : List Gr.P) {ps : List Gr.P} {r : T}, propsGo f l acc = some (ps, r) → (∀ t ∈ l, TokOk t) → l.length ≤ 16777216 → (∀ p ∈ acc, PSz p) →
  Tail r l ∧ (∀ p ∈ ps, PSz p) ∧ ps.length + r.length ≤ acc.length + l.length
 | 0, l, acc, ps, r, h, _, _, _ => by simp [propsGo] at h
 | f + 1, l, acc, ps, r, h, ok, hl, hp => by
  rw [propsGo] at h
  split at h
  ·cases h
  ·rename_i k r1 h1
   obtain ⟨t1, w1, e1, -⟩ := word_tail h1 ok
   split at h
   ·cases h
   ·rename_i r2 h2
    obtain ⟨t2, e2⟩ := mark_tail h2
    have t12 := t2.trans t1
    split at h
    ·cases h
    ·rename_i v r3 h3
     obtain ⟨t3, v3, e3⟩ := lit_tail h3 (t12.ok ok) (by omega)
     have t123 := t3.trans t12
     have hp' : ∀ p ∈ acc ++ [⟨k, v⟩], PSz p := fun p hm => by
      rcases List.mem_append.1 hm with hm | hm
      ·exact hp p hm
      ·rw [List.mem_singleton.1 hm]; exact ⟨w1, v3⟩
     split at h
     ·rename_i r4 h4
      obtain ⟨t4, e4⟩ := mark_tail h4
      cases h
      exact ⟨t4.trans t123, hp', by rw [List.length_append, List.length_singleton]; omega⟩
     ·split at h
      ·cases h
      ·rename_i r4 h4
       obtain ⟨t4, e4⟩ := mark_tail h4
       obtain ⟨t5, q1, q2⟩ := propsGo_tail f _ _ h ((t4.trans t123).ok ok) (by omega) hp'
       rw [List.length_append, List.length_singleton] at q2
       exact ⟨t5.trans (t4.trans t123), q1, by omega⟩
theorem props_tail {ps : List Gr.P} {l r : T} (h : propsP l = some (ps, r)) (ok : ∀ t ∈ l, TokOk t) (hl : l.length ≤ 16777216) : Tail r l ∧ (∀ p ∈ ps, PSz p) ∧ ps.length ≤ 16777216 := by
 unfold propsP at h
 split at h
 ·cases h
  exact ⟨Tail.refl _, by simp, by simp⟩
 ·rename_i r1 h1
  obtain ⟨t1, e1⟩ := mark_tail h1
  split at h
  ·rename_i r2 h2
   obtain ⟨t2, e2⟩ := mark_tail h2
   cases h
   exact ⟨t2.trans t1, by simp, by simp⟩
  ·obtain ⟨t2, q1, q2⟩ := propsGo_tail _ _ _ h (t1.ok ok) (by omega) (by simp)
   simp only [List.length_nil] at q2
   exact ⟨t2.trans t1, q1, by omega⟩
theorem labels_tail : ∀ (f : Nat) (l : T) (acc : List L) {ls : List L} {r : T}, labelsP f l acc = some (ls, r) → (∀ t ∈ l, TokOk t) → (∀ x ∈ acc, x.length ≤ 16777216) →
  Tail r l ∧ (∀ x ∈ ls, x.length ≤ 16777216) ∧ ls.length + r.length ≤ acc.length + l.length
 | 0, l, acc, ls, r, h, _, _ => by simp [labelsP] at h
 | f + 1, l, acc, ls, r, h, ok, hp => by
  rw [labelsP] at h
  split at h
  ·cases h
   exact ⟨Tail.refl _, hp, by omega⟩
  ·rename_i r1 h1
   obtain ⟨t1, e1⟩ := mark_tail h1
   split at h
   ·cases h
   ·rename_i w r2 h2
    obtain ⟨t2, w2, e2, n2⟩ := word_tail h2 (t1.ok ok)
    obtain ⟨t3, q1, q2⟩ := labels_tail f _ _ h ((t2.trans t1).ok ok) (fun x hm => by
     rcases List.mem_append.1 hm with hm | hm
     ·exact hp x hm
     ·rw [List.mem_singleton.1 hm]; exact w2)
    rw [List.length_append, List.length_singleton] at q2
    exact ⟨t3.trans (t2.trans t1), q1, by omega⟩
structure PatSz (p : Pat) : Prop where
 first : p.first.length ≤ 16777216
 word : p.word.length ≤ 16777216
 other : p.other.length ≤ 16777216
 nl : p.names.length ≤ 16777216
 ns : ∀ x ∈ p.names, x.length ≤ 16777216
 pl : p.props.length ≤ 16777216
 ps : ∀ x ∈ p.props, PSz x
 one : p.rel = true → ∃ x, p.names = [x]
 rw_ : p.rel = true ↔ p.word ≠ []
theorem rel_tail {p : Pat} {fw : L} {l r : T} (h : relP fw l = some (p, r)) (hf : fw.length ≤ 16777216) (ok : ∀ t ∈ l, TokOk t) (hl : l.length ≤ 16777216) : Tail r l ∧ PatSz p ∧ p.rel = true ∧ p.first = fw := by
 unfold relP at h
 split at h
 ·cases h
 ·rename_i l1 h1
  obtain ⟨t1, e1⟩ := mark_tail h1
  split at h
  ·cases h
  ·rename_i w l2 h2
   obtain ⟨t2, w2, e2, n2⟩ := word_tail h2 (t1.ok ok)
   have t2 := t2.trans t1
   split at h
   ·cases h
   ·rename_i l3 h3
    obtain ⟨t3, e3⟩ := mark_tail h3
    have t3 := t3.trans t2
    split at h
    ·cases h
    ·rename_i ty l4 h4
     obtain ⟨t4, w4, e4, -⟩ := word_tail h4 (t3.ok ok)
     have t4 := t4.trans t3
     split at h
     ·cases h
     ·rename_i ps l5 h5
      obtain ⟨t5, q1, q2⟩ := props_tail h5 (t4.ok ok) (by omega)
      have t5 := t5.trans t4
      split at h
      ·cases h
      ·rename_i l6 h6
       obtain ⟨t6, e6⟩ := mark_tail h6
       have t6 := t6.trans t5
       split at h
       ·cases h
       ·rename_i l7 h7
        obtain ⟨t7, e7⟩ := mark_tail h7
        have t7 := t7.trans t6
        split at h
        ·cases h
        ·rename_i l8 h8
         obtain ⟨t8, e8⟩ := mark_tail h8
         have t8 := t8.trans t7
         split at h
         ·cases h
         ·rename_i o l9 h9
          obtain ⟨t9, w9, e9, -⟩ := word_tail h9 (t8.ok ok)
          have t9 := t9.trans t8
          cases hm : mark [41] l9 with
          | none => rw [hm] at h; cases h
          | some l10 =>
           rw [hm] at h
           cases h
           obtain ⟨t10, e10⟩ := mark_tail hm
           exact ⟨t10.trans t9, ⟨hf, w2, w9, by simp, fun x hx => by rw [List.mem_singleton.1 hx]; exact w4, q2, q1, fun _ => ⟨ty, rfl⟩, by simp [n2]⟩, rfl, rfl⟩
theorem pat_tail {p : Pat} {l r : T} (h : patP l = some (p, r)) (ok : ∀ t ∈ l, TokOk t) (hl : l.length ≤ 16777216) : Tail r l ∧ PatSz p ∧ r.length < l.length := by
 unfold patP at h
 split at h
 ·cases h
 ·rename_i l1 h1
  obtain ⟨t1, e1⟩ := mark_tail h1
  split at h
  ·cases h
  ·rename_i w l2 h2
   obtain ⟨t2, w2, e2, n2⟩ := word_tail h2 (t1.ok ok)
   have t2 := t2.trans t1
   split at h
   ·cases h
   ·rename_i ls l3 h3
    obtain ⟨t3, q1, q2⟩ := labels_tail _ _ _ h3 (t2.ok ok) (by simp)
    have t3' := t3.trans t2
    have := t3.len
    simp only [List.length_nil] at q2
    split at h
    ·cases h
    ·rename_i ps l4 h4
     obtain ⟨t4, q3, q4⟩ := props_tail h4 (t3'.ok ok) (by omega)
     have := t4.len
     have t4 := t4.trans t3'
     split at h
     ·cases h
     ·rename_i l5 h5
      obtain ⟨t5, e5⟩ := mark_tail h5
      have t5 := t5.trans t4
      have hsz : PatSz ⟨false, w, [], [], ls, ps⟩ := ⟨w2, by simp, by simp, by show ls.length ≤ _; omega, q1, q4, q3, fun e => absurd e (by simp), by simp⟩
      split at h
      ·cases h
       exact ⟨t5, hsz, by omega⟩
      ·split at h
       ·cases h
        exact ⟨t5, hsz, by omega⟩
       ·rename_i l6 h6
        obtain ⟨t6, e6⟩ := mark_tail h6
        obtain ⟨t7, q5, -⟩ := rel_tail h w2 ((t6.trans t5).ok ok) (by omega)
        have := t7.len
        exact ⟨t7.trans (t6.trans t5), q5, by omega⟩
theorem pats_tail : ∀ (f : Nat) (l : T) (acc : List Pat) {ps : List Pat} {r : T}, pats f l acc = some (ps, r) → (∀ t ∈ l, TokOk t) → l.length ≤ 16777216 → (∀ p ∈ acc, PatSz p) →
  Tail r l ∧ (∀ p ∈ ps, PatSz p) ∧ ps.length + r.length ≤ acc.length + l.length ∧ r.length < l.length
 | 0, l, acc, ps, r, h, _, _, _ => by simp [pats] at h
 | f + 1, l, acc, ps, r, h, ok, hl, hp => by
  rw [pats] at h
  split at h
  ·cases h
  ·rename_i p r1 h1
   obtain ⟨t1, p1, e1⟩ := pat_tail h1 ok hl
   have hp' : ∀ x ∈ acc ++ [p], PatSz x := fun x hm => by
    rcases List.mem_append.1 hm with hm | hm
    ·exact hp x hm
    ·rw [List.mem_singleton.1 hm]; exact p1
   split at h
   ·rename_i r2 h2
    obtain ⟨t2, e2⟩ := mark_tail h2
    cases h
    exact ⟨t2.trans t1, hp', by rw [List.length_append, List.length_singleton]; omega, by omega⟩
   ·split at h
    ·cases h
    ·rename_i r2 h2
     obtain ⟨t2, e2⟩ := mark_tail h2
     obtain ⟨t3, q1, q2, q3⟩ := pats_tail f _ _ h ((t2.trans t1).ok ok) (by omega) hp'
     rw [List.length_append, List.length_singleton] at q2
     exact ⟨t3.trans (t2.trans t1), q1, by omega, by omega⟩
theorem script_tail : ∀ (f : Nat) (l : T) (acc : List Pat) {ps : List Pat}, script f l acc = some ps → (∀ t ∈ l, TokOk t) → l.length ≤ 16777216 → (∀ p ∈ acc, PatSz p) →
  (∀ p ∈ ps, PatSz p) ∧ ps.length ≤ acc.length + l.length
 | 0, l, acc, ps, h, _, _, _ => by simp [script] at h
 | f + 1, [], acc, ps, h, _, _, hp => by
  simp only [script, Option.some.injEq] at h
  subst h
  exact ⟨hp, by omega⟩
 | f + 1, t :: l, acc, ps, h, ok, hl, hp => by
  rw [script] at h
  split at h
  ·split at h
   ·cases h
   ·rename_i acc' r h1
    have ok' : ∀ t ∈ l, TokOk t := fun x hx => ok x (List.mem_cons_of_mem _ hx)
    rw [List.length_cons] at hl
    obtain ⟨t1, q1, q2, q3⟩ := pats_tail _ _ _ h1 ok' (by omega) hp
    obtain ⟨q4, q5⟩ := script_tail f _ _ h (t1.ok ok') (by omega) q1
    exact ⟨q4, by rw [List.length_cons]; omega⟩
  ·cases h
theorem patterns_sz {l : T} {ps : List Pat} (h : patterns l = some ps) (ok : ∀ t ∈ l, TokOk t) (hl : l.length ≤ 16777216) : (∀ p ∈ ps, PatSz p) ∧ ps.length ≤ l.length := by
 have := script_tail _ _ _ h ok hl (by simp)
 simpa using this
structure NSz (n : Gr.N) : Prop where
 lo : 0 ≤ n.id
 hi : n.id < 1024
 ll : n.labels.length ≤ 16777216
 ls : ∀ l ∈ n.labels, l.length ≤ 16777216
 pl : n.props.length ≤ 16777216
 ps : ∀ p ∈ n.props, PSz p
structure RSz (n : Gr.R) : Prop where
 lo : 0 ≤ n.id
 hi : n.id < 2048
 tl : n.type.length ≤ 16777216
 src : 0 ≤ n.src ∧ n.src < 1024
 dst : 0 ≤ n.dst ∧ n.dst < 1024
 pl : n.props.length ≤ 16777216
 ps : ∀ p ∈ n.props, PSz p
structure GSz (g : Gr.G) : Prop where
 ns : ∀ n ∈ g.nodes, NSz n
 rs : ∀ n ∈ g.rels, RSz n
 nd : (g.nodes.map Gr.N.id).Nodup
 rd : (g.rels.map Gr.R.id).Nodup
theorem idP_range {c : UInt8} {m n : Int} {w : L} (h : idP c m w = some n) : 0 ≤ n ∧ n < m := by
 cases w with
 | nil => simp [idP] at h
 | cons d r =>
  simp only [idP] at h
  split at h
  ·rename_i hc
   cases h
   exact hc.2.2
  ·cases h
theorem end_range {g : Gr.G} {w : L} : 0 ≤ (endP g w).1 ∧ (endP g w).1 < 1024 := by
 unfold endP
 split
 ·exact ⟨by simp, by simp⟩
 ·rename_i n h
  have := idP_range h
  split
  ·exact this
  ·exact ⟨by simp, by simp⟩
theorem nodup_snoc {α : Type} {l : List α} {a : α} (h : l.Nodup) (ha : a ∉ l) : (l ++ [a]).Nodup := by
 rw [List.nodup_append]
 exact ⟨h, by simp, fun x hx y hy e => ha (by rw [List.mem_singleton.1 hy] at e; rw [← e]; exact hx)⟩
theorem add_sz {g : Gr.G} {p : Pat} (hg : GSz g) (hp : PatSz p) : GSz (add g p).1 := by
 unfold add
 split
 ·rename_i hr
  unfold addRel
  split
  ·exact hg
  ·split
   ·exact hg
   ·rename_i n hn
    split
    ·exact hg
    ·rename_i hid
     split
     ·exact hg
     ·split
      ·exact hg
      ·have hi := idP_range hn
       refine ⟨hg.ns, fun x hx => ?_, hg.nd, ?_⟩
       ·rcases List.mem_append.1 hx with hx | hx
        ·exact hg.rs x hx
        ·rw [List.mem_singleton.1 hx]
         obtain ⟨y, hy⟩ := hp.one hr
         refine ⟨hi.1, hi.2, ?_, end_range, end_range, hp.pl, hp.ps⟩
         show (p.names.headD []).length ≤ _
         have := hp.ns y (by rw [hy]; simp)
         rw [hy]
         exact this
       ·show ((g.rels ++ [_]).map Gr.R.id).Nodup
        rw [List.map_append]
        exact nodup_snoc hg.rd hid
 ·unfold addNode
  split
  ·exact hg
  ·rename_i n hn
   split
   ·exact hg
   ·rename_i hid
    split
    ·exact hg
    ·have hi := idP_range hn
     refine ⟨fun x hx => ?_, hg.rs, ?_, hg.rd⟩
     ·rcases List.mem_append.1 hx with hx | hx
      ·exact hg.ns x hx
      ·rw [List.mem_singleton.1 hx]
       exact ⟨hi.1, hi.2, hp.nl, hp.ns, hp.pl, hp.ps⟩
     ·show ((g.nodes ++ [_]).map Gr.N.id).Nodup
      rw [List.map_append]
      exact nodup_snoc hg.nd hid
theorem G0_sz : GSz Gr.G0 := ⟨by simp [Gr.G0], by simp [Gr.G0], by simp [Gr.G0], by simp [Gr.G0]⟩
theorem make_sz : ∀ (ps : List Pat) (g : Gr.G), GSz g → (∀ p ∈ ps, PatSz p) → GSz (make g ps).1
 | [], g, hg, _ => hg
 | p :: ps, g, hg, hp => by
  rw [make]
  split
  ·exact G0_sz
  ·exact make_sz ps _ (add_sz hg (hp p (by simp))) (fun x hx => hp x (List.mem_cons_of_mem _ hx))
theorem few {l : List Int} {m : Nat} (h : ∀ x ∈ l, 0 ≤ x ∧ x < m) (hd : l.Nodup) : l.length ≤ m := by
 have h2 : (l.map Int.toNat).Nodup := by
  unfold List.Nodup
  rw [List.pairwise_map]
  refine List.Pairwise.imp_of_mem (fun {a b} ha hb hab e => hab ?_) hd
  have := h a ha
  have := h b hb
  omega
 have hs := h2.length_le_of_subset (l₂ := List.range m) fun x hx => by
  obtain ⟨y, hy, rfl⟩ := List.mem_map.1 hx
  have := h y hy
  exact List.mem_range.2 (by omega)
 rwa [List.length_map, List.length_range] at hs
theorem GSz.lens {g : Gr.G} (h : GSz g) : g.nodes.length ≤ 1024 ∧ g.rels.length ≤ 2048 := by
 constructor
 ·have := few (m := 1024) (fun x hx => by obtain ⟨n, hn, rfl⟩ := List.mem_map.1 hx; exact ⟨(h.ns n hn).lo, (h.ns n hn).hi⟩) h.nd
  rwa [List.length_map] at this
 ·have := few (m := 2048) (fun x hx => by obtain ⟨n, hn, rfl⟩ := List.mem_map.1 hx; exact ⟨(h.rs n hn).lo, (h.rs n hn).hi⟩) h.rd
  rwa [List.length_map] at this
theorem sortBy_perm {α κ : Type} (le : κ → κ → Bool) (key : α → κ) (l : List α) : (Gr.sortBy le key l).Perm l := List.mergeSort_perm _ _
theorem canon_sz {g : Gr.G} (h : GSz g) : GSz (Gr.canon g) := by
 have pn := sortBy_perm (fun a b : Int => decide (a ≤ b)) Gr.N.id (g.nodes.map Gr.canonNode)
 have pr := sortBy_perm (fun a b : Int => decide (a ≤ b)) Gr.R.id (g.rels.map Gr.canonRel)
 have pp := fun ps : List Gr.P => sortBy_perm (fun a b : L => decide (a ≤ b)) Gr.P.key ps
 refine ⟨fun n hn => ?_, fun n hn => ?_, ?_, ?_⟩
 ·obtain ⟨m, hm, rfl⟩ := List.mem_map.1 (pn.mem_iff.1 hn)
  have hz := h.ns m hm
  have pl := sortBy_perm (fun a b : L => decide (a ≤ b)) id m.labels
  exact ⟨hz.lo, hz.hi, Nat.le_trans (Nat.le_of_eq pl.length_eq) hz.ll, fun l hl => hz.ls l (pl.mem_iff.1 hl),
   Nat.le_trans (Nat.le_of_eq (pp m.props).length_eq) hz.pl, fun p hp => hz.ps p ((pp m.props).mem_iff.1 hp)⟩
 ·obtain ⟨m, hm, rfl⟩ := List.mem_map.1 (pr.mem_iff.1 hn)
  have hz := h.rs m hm
  exact ⟨hz.lo, hz.hi, hz.tl, hz.src, hz.dst, Nat.le_trans (Nat.le_of_eq (pp m.props).length_eq) hz.pl, fun p hp => hz.ps p ((pp m.props).mem_iff.1 hp)⟩
 ·refine (pn.map Gr.N.id).nodup_iff.2 ?_
  rw [List.map_map]
  exact h.nd
 ·refine (pr.map Gr.R.id).nodup_iff.2 ?_
  rw [List.map_map]
  exact h.rd
theorem parse_sz {s : L} {g : Gr.G} {e : Nat} (h : parse s = (g, e)) : GSz g ∧ (e = 0 → Fine g) ∧ (e ≠ 0 → g = Gr.G0) := by
 have hg0 : GSz Gr.G0 := G0_sz
 unfold parse at h
 split at h
 ·rename_i p e' he
  cases h
  exact ⟨hg0, fun e0 => absurd e0 (Lex_err he), fun _ => rfl⟩
 ·split at h
  ·cases h
   exact ⟨hg0, fun e0 => absurd e0 (by decide), fun _ => rfl⟩
  ·rename_i ps hps
   split at h
   ·rename_i hm
    cases h
    exact ⟨hg0, fun e => absurd e hm, fun _ => rfl⟩
   ·split at h
    ·rename_i hc
     cases h
     exact ⟨hg0, fun e => absurd e hc, fun _ => rfl⟩
    ·rename_i hc
     cases h
     have hsz := canon_sz (make_sz ps Gr.G0 hg0 (patterns_sz hps (read_ok s) (toks_len s)).1)
     refine ⟨hsz, fun _ => ⟨Gr.check_good.1 (Decidable.not_not.1 hc), fun p hp => ?_⟩, fun e => absurd rfl e⟩
     unfold Gr.allProps at hp
     have hv : VSz p.val := by
      rcases List.mem_append.1 hp with hp | hp
      ·obtain ⟨n, hn, hq⟩ := List.mem_flatMap.1 hp
       exact ((hsz.ns n hn).ps p hq).val
      ·obtain ⟨n, hn, hq⟩ := List.mem_flatMap.1 hp
       exact ((hsz.rs n hn).ps p hq).val
     exact ⟨hv.num, hv.nums⟩
end Go.Proofs.YtoofbflplhbpbaaGreatDoor.Cy
namespace Go.Proofs.YtoofbflplhbpbaaGreatDoor
open Go.RowKit
def Lst {α : Type} (W : World) (B size : Nat) (R : α → List Value → Prop) (A : Option Addr) (l : List α) : Prop :=
 ∀ (i : Nat) (a : α), l[i]? = some a → ∃ b off cs, A = some ⟨b, off, none⟩ ∧ b < B ∧ R a cs ∧ cs.length = size ∧ ∀ (j : Nat) u, cs[j]? = some u → W.cell? ⟨b, off + i * size + j, none⟩ = some u
theorem Lst.below {α : Type} {W W' : World} {B size : Nat} {R R' : α → List Value → Prop} {A : Option Addr} {l : List α} (h : Lst W B size R A l) (hb : Below B W W') (hR : ∀ a cs, R a cs → R' a cs) : Lst W' B size R' A l := fun i a ha => by
 obtain ⟨b, off, cs, e, hlt, hr, hl, hc⟩ := h i a ha
 exact ⟨b, off, cs, e, hlt, hR _ _ hr, hl, fun j u hu => (hb.cell (by exact hlt)).trans (hc j u hu)⟩
theorem Lst.more {α : Type} {W : World} {B B' size : Nat} {R R' : α → List Value → Prop} {A : Option Addr} {l : List α} (h : Lst W B size R A l) (hb : B ≤ B') (hR : ∀ a cs, R a cs → R' a cs) : Lst W B' size R' A l := fun i a ha => by
 obtain ⟨b, off, cs, e, hlt, hr, hl, hc⟩ := h i a ha
 exact ⟨b, off, cs, e, by omega, hR _ _ hr, hl, hc⟩
theorem Lst.nil {α : Type} {W : World} {B size : Nat} {R : α → List Value → Prop} {A : Option Addr} : Lst W B size R A [] := fun i a ha => by simp at ha
theorem Lst.of_own {α : Type} {W : World} {base e size c : Nat} {R : α → List Value → Prop} {A : Option Addr} {l : List α} {f : α → List Value} (h : W.ownsRow base e size (.slice A l.length c) l.length (l.flatMap f)) (hf : ∀ a ∈ l, (f a).length = size) (hR : ∀ a ∈ l, R a (f a)) : Lst W W.heap.size size R A l := fun i a ha => by
 obtain ⟨hi, hia⟩ := List.getElem?_eq_some_iff.1 ha
 obtain ⟨b, off, e, hb, hc⟩ := (Reads.of_own h).2 (by omega)
 have hm : a ∈ l := List.mem_of_getElem? ha
 refine ⟨b, off, f a, e, hb, hR a hm, hf a hm, fun j u hu => ?_⟩
 have hj : j < size := by have := (List.getElem?_eq_some_iff.1 hu).1; rw [hf a hm] at this; exact this
 have key : ∀ (l : List α) (i : Nat) (a : α), (∀ a ∈ l, (f a).length = size) → l[i]? = some a → (f a)[j]? = some u → (l.flatMap f)[i * size + j]? = some u := by
  intro l
  induction l with
  | nil => intro i a _ h; simp at h
  | cons x r ih =>
   intro i a hf h hu
   rw [List.flatMap_cons]
   have hx : (f x).length = size := hf x (by simp)
   cases i with
   | zero =>
    simp only [List.getElem?_cons_zero, Option.some.injEq] at h
    subst h
    rw [Nat.zero_mul, Nat.zero_add, List.getElem?_append_left (by omega)]
    exact hu
   | succ i =>
    rw [List.getElem?_append_right (by rw [hx, Nat.succ_mul]; omega)]
    have := ih i a (fun a ha => hf a (by simp [ha])) (by simpa using h) hu
    rw [hx, show (i + 1) * size + j - size = i * size + j by rw [Nat.succ_mul]; omega]
    exact this
 have := hc _ u (key l i a hf ha hu)
 rwa [← Nat.add_assoc] at this
def PropC (W : World) (B : Nat) (p : Gr.P) (cs : List Value) : Prop :=
 ∃ An cn At ct, cs = [ST p.key, .int .i64 p.val.kind, .int .i64 p.val.num, ST p.val.text, .slice An p.val.nums.length cn, .slice At p.val.texts.length ct] ∧ Reads W B 1 An p.val.nums.length (p.val.nums.map I64) ∧ Reads W B 1 At p.val.texts.length (p.val.texts.map ST)
def NodeC (W : World) (B : Nat) (n : Gr.N) (cs : List Value) : Prop :=
 ∃ Al cl Ap cp, cs = [.int .i64 n.id, .slice Al n.labels.length cl, .slice Ap n.props.length cp] ∧ Reads W B 1 Al n.labels.length (n.labels.map ST) ∧ Lst W B 6 (PropC W B) Ap n.props
def RelC (W : World) (B : Nat) (r : Gr.R) (cs : List Value) : Prop :=
 ∃ Ap cp, cs = [.int .i64 r.id, ST r.type, .int .i64 r.src, .int .i64 r.dst, .slice Ap r.props.length cp] ∧ Lst W B 6 (PropC W B) Ap r.props
theorem PropC.below {W W' : World} {B : Nat} (hb : Below B W W') (p : Gr.P) (cs : List Value) (h : PropC W B p cs) : PropC W' B p cs := by
 obtain ⟨An, cn, At, ct, e, h1, h2⟩ := h
 exact ⟨An, cn, At, ct, e, h1.below hb, h2.below hb⟩
theorem NodeC.below {W W' : World} {B : Nat} (hb : Below B W W') (n : Gr.N) (cs : List Value) (h : NodeC W B n cs) : NodeC W' B n cs := by
 obtain ⟨Al, cl, Ap, cp, e, h1, h2⟩ := h
 exact ⟨Al, cl, Ap, cp, e, h1.below hb, h2.below hb (PropC.below hb)⟩
theorem RelC.below {W W' : World} {B : Nat} (hb : Below B W W') (r : Gr.R) (cs : List Value) (h : RelC W B r cs) : RelC W' B r cs := by
 obtain ⟨Ap, cp, e, h2⟩ := h
 exact ⟨Ap, cp, e, h2.below hb (PropC.below hb)⟩
theorem PropC.more {W : World} {B B' : Nat} (hb : B ≤ B') (p : Gr.P) (cs : List Value) (h : PropC W B p cs) : PropC W B' p cs := by
 obtain ⟨An, cn, At, ct, e, h1, h2⟩ := h
 exact ⟨An, cn, At, ct, e, h1.more hb, h2.more hb⟩
theorem NodeC.more {W : World} {B B' : Nat} (hb : B ≤ B') (n : Gr.N) (cs : List Value) (h : NodeC W B n cs) : NodeC W B' n cs := by
 obtain ⟨Al, cl, Ap, cp, e, h1, h2⟩ := h
 exact ⟨Al, cl, Ap, cp, e, h1.more hb, h2.more hb (PropC.more hb)⟩
theorem RelC.more {W : World} {B B' : Nat} (hb : B ≤ B') (r : Gr.R) (cs : List Value) (h : RelC W B r cs) : RelC W B' r cs := by
 obtain ⟨Ap, cp, e, h2⟩ := h
 exact ⟨Ap, cp, e, h2.more hb (PropC.more hb)⟩
structure POk (p : Gr.P) : Prop where
 key : p.key.length ≤ 1073741824
 val : VOk p.val
structure NOk (n : Gr.N) : Prop where
 id : Cel.In64 n.id
 ll : n.labels.length ≤ 1073741824
 ls : ∀ l ∈ n.labels, l.length ≤ 1073741824
 pl : n.props.length ≤ 1073741824
 ps : ∀ p ∈ n.props, POk p
structure ROk (r : Gr.R) : Prop where
 id : Cel.In64 r.id
 tl : r.type.length ≤ 1073741824
 src : Cel.In64 r.src
 dst : Cel.In64 r.dst
 pl : r.props.length ≤ 1073741824
 ps : ∀ p ∈ r.props, POk p
structure GOk (g : Gr.G) : Prop where
 nl : g.nodes.length ≤ 1073741824
 ns : ∀ n ∈ g.nodes, NOk n
 rl : g.rels.length ≤ 1073741824
 rs : ∀ r ∈ g.rels, ROk r
structure GIn (W : World) (B : Nat) (u : Value) (g : Gr.G) : Prop where
 ex : ∃ An cn Ar cr, u = .agg #[.slice An g.nodes.length cn, .slice Ar g.rels.length cr] ∧ Lst W B 3 (NodeC W B) An g.nodes ∧ Lst W B 5 (RelC W B) Ar g.rels
 ok : GOk g
theorem GIn.below {W W' : World} {B : Nat} {u : Value} {g : Gr.G} (h : GIn W B u g) (hb : Below B W W') : GIn W' B u g := by
 obtain ⟨An, cn, Ar, cr, e, h1, h2⟩ := h.ex
 exact ⟨⟨An, cn, Ar, cr, e, h1.below hb (NodeC.below hb), h2.below hb (RelC.below hb)⟩, h.ok⟩
theorem GIn.more {W : World} {B B' : Nat} {u : Value} {g : Gr.G} (h : GIn W B u g) (hb : B ≤ B') : GIn W B' u g := by
 obtain ⟨An, cn, Ar, cr, e, h1, h2⟩ := h.ex
 exact ⟨⟨An, cn, Ar, cr, e, h1.more hb (NodeC.more hb), h2.more hb (RelC.more hb)⟩, h.ok⟩
end Go.Proofs.YtoofbflplhbpbaaGreatDoor
