/- Contracts and plain laws, part 13. -/
import Derived.Test.YtoofbflplhbpbaaGreatDoorLT12
import Derived.SliceStrings
import Derived.ChangeSlices
namespace Go.Proofs.YtoofbflplhbpbaaGreatDoor
open Go.Joins Go.ChangeShapes Go.WideShapes Go.ChangeAt Go.RowKit Go.Deep
section
variable {H : Type} {enc : TypeId × Value → H} {P : Program} {w : World} {base : Nat} {spare : Nat → Bool} {held : Bool}
theorem open_agg5 {r : Reach} {b0 : Nat} {t : TypeId} {f0 f1 f2 f3 f4 : Field} {v : Value} {d : DataW H} {p : List MemPlace} (hs : P.underlying t = some (.struct #[f0, f1, f2, f3, f4])) (hone : oneCellFields P #[f0, f1, f2, f3, f4] = true) (hC : P.cellsOf t = 5)
  (hv : Value.okWide P w r b0 t v) (h : DataW.Trod enc P w base spare held t v d p) :
  ∃ (v0 v1 v2 v3 v4 : Value) (y0 y1 y2 y3 y4 : DataW H × List MemPlace) (n : Nat), v = .agg #[v0, v1, v2, v3, v4] ∧ d = .agg [y0.1, y1.1, y2.1, y3.1, y4.1] ∧ p = y0.2 ++ (y1.2 ++ (y2.2 ++ (y3.2 ++ y4.2))) ∧
   DataW.trod enc P w base spare held n f0.type [v0] = some y0 ∧ DataW.trod enc P w base spare held n f1.type [v1] = some y1 ∧ DataW.trod enc P w base spare held n f2.type [v2] = some y2 ∧ DataW.trod enc P w base spare held n f3.type [v3] = some y3 ∧ DataW.trod enc P w base spare held n f4.type [v4] = some y4 := by
 obtain ⟨cs, rfl, hsz⟩ := okWide_struct hs hv
 obtain ⟨l⟩ := cs
 match l, hsz.trans hC with
 | [c0, c1, c2, c3, c4], _ =>
  obtain ⟨fuel, hf⟩ := h
  obtain ⟨xs, n, _, hx, _, hlen, hg⟩ := DataW.trod_struct hs hf
  obtain ⟨o0, k0⟩ := hone_of hone 0 f0 rfl
  obtain ⟨o1, k1⟩ := hone_of hone 1 f1 rfl
  obtain ⟨o2, k2⟩ := hone_of hone 2 f2 rfl
  obtain ⟨o3, k3⟩ := hone_of hone 3 f3 rfl
  obtain ⟨o4, k4⟩ := hone_of hone 4 f4 rfl
  match xs, hlen with
  | [y0, y1, y2, y3, y4], _ =>
   simp only [Prod.mk.injEq] at hx
   exact ⟨c0, c1, c2, c3, c4, y0, y1, y2, y3, y4, n, rfl, by simpa using hx.1, by simpa using hx.2, by simpa [Value.cells, o0, k0] using hg 0 f0 rfl, by simpa [Value.cells, o1, k1] using hg 1 f1 rfl, by simpa [Value.cells, o2, k2] using hg 2 f2 rfl, by simpa [Value.cells, o3, k3] using hg 3 f3 rfl, by simpa [Value.cells, o4, k4] using hg 4 f4 rfl⟩
end
theorem cell_lt {w : World} {a : Addr} {v : Value} (h : w.cell? a = some v) : a.block < w.heap.size := by
 rcases Nat.lt_or_ge a.block w.heap.size with h0 | h0
 ·exact h0
 ·unfold World.cell? at h
  simp [Array.getElem?_eq_none h0] at h
theorem reads_of {W : World} {a : Addr} {len : Nat} {xs : List Value} (hl : xs.length = len) (h : ∀ (i : Nat) u, xs[i]? = some u → W.cell? (a.add i) = some u) : Reads W W.heap.size 1 (some a) len xs := by
 refine ⟨by simpa using hl, fun h0 => ?_⟩
 have c0 := h 0 (xs[0]'(by omega)) (List.getElem?_eq_getElem _)
 have hsp : a.spot = none := by simpa [Addr.add] using World.cell?_spot c0
 obtain ⟨b, o, sp⟩ := a
 simp only at hsp
 subst hsp
 refine ⟨b, o, rfl, by have := cell_lt c0; simpa [block_of_add] using this, fun j u hj => ?_⟩
 have := h j u hj
 rwa [add_at] at this
theorem bulk_lits {H : Type} {k : IntKind} : ∀ l : List Int, Rows.uptoBulkAll (H := H) (lits k l) = l.length
 | [] => rfl
 | _ :: r => by
  have := bulk_lits (H := H) (k := k) r
  simp only [lits, List.map_cons, Rows.uptoBulkAll, Rows.uptoBulk, List.length_cons] at this ⊢
  omega
theorem bulk_strs {H : Type} : ∀ l : List ByteArray, Rows.uptoBulkAll (H := H) (strs l) = (l.map fun s => s.size + 1).sum
 | [] => rfl
 | s :: r => by
  have := bulk_strs (H := H) r
  have hs := Lib.size_eq s
  simp only [strs, List.map_cons, Rows.uptoBulkAll, Rows.uptoBulk, List.sum_cons] at this ⊢
  omega
theorem sum_mem {l : List ByteArray} {s : ByteArray} (h : s ∈ l) : s.size + 1 ≤ (l.map fun s => s.size + 1).sum ∧ l.length ≤ (l.map fun s => s.size + 1).sum := by
 induction l with
 | nil => cases h
 | cons a l ih =>
  simp only [List.map_cons, List.sum_cons, List.length_cons]
  have hl : ∀ l : List ByteArray, l.length ≤ (l.map fun s => s.size + 1).sum := by
   intro l
   induction l with
   | nil => simp
   | cons a l ih => simp only [List.map_cons, List.sum_cons, List.length_cons]; omega
  have := hl l
  rcases List.mem_cons.1 h with rfl | h
  ·omega
  ·have := ih h; omega
section
variable {H : Type} {enc : TypeId × Value → H} {W : World}
set_option maxRecDepth 100000 in
theorem open_nums {n : Nat} {v : Value} {y : DataW H × List MemPlace} (h : DataW.trod enc Tryz.prog W 0 (fun _ => true) true n 22 [v] = some y) :
  ∃ A c ns, v = .slice A (List.length ns) c ∧ Reads W W.heap.size 1 A ns.length (ns.map I64) ∧ (∀ m ∈ ns, Cel.In64 m) ∧ ns.length ≤ Rows.uptoBulk y.1 := by
 rcases open_ints Tryz.underlying22 Tryz.underlying2 (by kernel_rfl) h with ⟨hc, hx⟩ | ⟨a, len, cap, zs, hc, _, hl, _, hz, hx, hcell, hwf⟩
 ·simp only [List.cons.injEq, and_true] at hc
  exact ⟨none, 0, [], hc, Reads.none_, by simp, by simp⟩
 ·simp only [List.cons.injEq, and_true] at hc
  simp only [if_true] at hz
  have ht : (zs.take len).length = len := by rw [List.length_take]; omega
  refine ⟨some a, cap, zs.take len, by rw [ht]; exact hc, ?_, fun m hm => ?_, ?_⟩
  ·rw [ht]
   refine reads_of (by simp; omega) fun i u hi => ?_
   rw [List.getElem?_map] at hi
   obtain ⟨z, hz', rfl⟩ := Option.map_eq_some_iff.1 hi
   obtain ⟨hlt, he⟩ := List.getElem?_eq_some_iff.1 hz'
   have hlt' : i < zs.length := by rw [ht] at hlt; omega
   rw [hcell i hlt', List.getD_eq_getElem?_getD, List.getElem?_eq_getElem hlt']
   rw [List.getElem_take] at he
   simp [I64, he]
  ·have := hwf m (List.mem_of_mem_take hm)
   simp only [Lit.wf, Bool.and_eq_true, decide_eq_true_eq] at this
   exact this
  ·rw [hx]
   simp only [Rows.uptoBulk, bulk_lits]
   omega
set_option maxRecDepth 100000 in
theorem open_texts {n : Nat} {v : Value} {y : DataW H × List MemPlace} (h : DataW.trod enc Tryz.prog W 0 (fun _ => true) true n 23 [v] = some y) :
  ∃ A c ts, v = .slice A (List.length ts) c ∧ Reads W W.heap.size 1 A ts.length (ts.map ST) ∧ (∀ t ∈ ts, t.length ≤ Rows.uptoBulk y.1) ∧ ts.length ≤ Rows.uptoBulk y.1 := by
 rcases open_strings Tryz.underlying23 Tryz.underlying9 (by kernel_rfl) h with ⟨hc, hx⟩ | ⟨a, len, cap, ss, hc, _, hl, _, hz, hx, hcell, _⟩
 ·simp only [List.cons.injEq, and_true] at hc
  exact ⟨none, 0, [], hc, Reads.none_, by simp, by simp⟩
 ·simp only [List.cons.injEq, and_true] at hc
  simp only [if_true] at hz
  have ht : (ss.take len).length = len := by rw [List.length_take]; omega
  have hb : (ss.take len).length ≤ Rows.uptoBulk y.1 ∧ ∀ s ∈ ss.take len, s.size ≤ Rows.uptoBulk y.1 := by
   rw [hx]
   simp only [Rows.uptoBulk, bulk_strs]
   constructor
   ·by_cases h0 : 0 < (ss.take len).length
    ·have := (sum_mem (List.getElem_mem h0)).2
     omega
    ·omega
   ·intro s hs
    have := (sum_mem hs).1
    omega
  refine ⟨some a, cap, (ss.take len).map fun s => s.data.toList, by rw [List.length_map, ht]; exact hc, ?_, fun t hm => ?_, by rw [List.length_map]; exact hb.1⟩
  ·rw [List.length_map, ht]
   refine reads_of (by simp; omega) fun i u hi => ?_
   rw [List.map_map, List.getElem?_map] at hi
   obtain ⟨z, hz', rfl⟩ := Option.map_eq_some_iff.1 hi
   obtain ⟨hlt, he⟩ := List.getElem?_eq_some_iff.1 hz'
   have hlt' : i < ss.length := by rw [ht] at hlt; omega
   rw [hcell i hlt', List.getD_eq_getElem?_getD, List.getElem?_eq_getElem hlt']
   rw [List.getElem_take] at he
   simp [ST, he]
  ·obtain ⟨s, hs, rfl⟩ := List.mem_map.1 hm
   have := hb.2 s hs
   rwa [Lib.size_eq] at this
set_option maxRecDepth 100000 in
theorem open_val {r : Reach} {b0 : Nat} {v : Value} {d : DataW H} {p : List MemPlace} (hv : Value.okWide Tryz.prog W r b0 25 v) (h : DataW.Trod enc Tryz.prog W 0 (fun _ => true) true 25 v d p) (hk : Rows.uptoBulk d ≤ 1048576) :
  ∃ cv, VIn W W.heap.size v cv := by
 obtain ⟨v0, v1, v2, v3, v4, y0, y1, y2, y3, y4, n, rfl, rfl, rfl, h0, h1, h2, h3, h4⟩ := open_agg5 Tryz.underlying25 (by kernel_rfl) (by kernel_rfl) hv h
 obtain ⟨k, e0, z0, w0⟩ := DataW.trod_int Tryz.underlying3 h0
 obtain ⟨m, e1, z1, w1⟩ := DataW.trod_int Tryz.underlying2 h1
 obtain ⟨s, e2, z2, w2⟩ := DataW.trod_string Tryz.underlying9 h2
 obtain ⟨A3, c3, ns, e3, r3, i3, b3⟩ := open_nums h3
 obtain ⟨A4, c4, ts, e4, r4, i4, b4⟩ := open_texts h4
 simp only [List.cons.injEq, and_true] at e0 e1 e2
 subst e0 e1 e2 e3 e4
 simp only [Rows.uptoBulk, Rows.uptoBulkAll, z2] at hk
 simp only [Lit.wf, Bool.and_eq_true, decide_eq_true_eq] at w0 w1
 exact ⟨⟨k, m, s.data.toList, ns, ts⟩, ⟨A3, c3, A4, c4, by simp, r3, r4⟩, w0, w1, i3, by show s.data.toList.length ≤ _; omega, by show ns.length ≤ _; omega, by show ts.length ≤ _; omega, fun t ht => by have := i4 t ht; omega⟩
end
end Go.Proofs.YtoofbflplhbpbaaGreatDoor
namespace Go.Proofs.YtoofbflplhbpbaaGreatDoor.Gr
open Go
abbrev L := List UInt8
structure P where
 key : L
 val : Cel.V
structure N where
 id : Int
 labels : List L
 props : List P
structure R where
 id : Int
 type : L
 src : Int
 dst : Int
 props : List P
structure G where
 nodes : List N
 rels : List R
def G0 : G := ⟨[], []⟩
def goodName (s : L) : Bool := decide (s ≠ []) && decide (s.length ≤ 40) && !(s.head?.any Num.isDig) && s.all Lex.inWord
section
variable {κ α : Type} (f : Option κ → α → Nat) (key : α → κ)
def first : Option κ → List α → Nat → Nat × Nat
 | _, [], _ => (0, 0)
 | p, a :: r, i => if f p a ≠ 0 then (f p a, i) else first (some (key a)) r (i + 1)
def prevAt (l : List α) : Nat → Option κ
 | 0 => none
 | k + 1 => l[k]?.map key
theorem first_at : ∀ (l : List α) (p : Option κ) (i k : Nat), k ≤ l.length → (∀ j a, j < k → l[j]? = some a → f (if j = 0 then p else prevAt key l j) a = 0) →
  first f key p l i = first f key (if k = 0 then p else prevAt key l k) (l.drop k) (i + k)
 | l, p, i, 0, _, _ => by simp
 | [], p, i, k + 1, h, _ => by simp at h
 | a :: r, p, i, k + 1, h, h0 => by
  have ha : f p a = 0 := h0 0 a (by omega) rfl
  have := first_at r (some (key a)) (i + 1) k (by simpa using h) (fun j b hj hb => by
   have := h0 (j + 1) b (by omega) (by simpa using hb)
   rw [if_neg (by omega)] at this
   cases j with
   | zero => simpa [prevAt] using this
   | succ j => rw [if_neg (by omega)]; simpa [prevAt] using this)
  rw [first, if_neg (by rw [ha]; decide), this, if_neg (show ¬ k + 1 = 0 by omega), List.drop_succ_cons]
  congr 1
  ·cases k with
   | zero => simp [prevAt]
   | succ k => rw [if_neg (by omega)]; simp [prevAt]
  ·omega
theorem first_zero {l : List α} {i : Nat} (h0 : ∀ j a, l[j]? = some a → f (prevAt key l j) a = 0) : first f key none l i = (0, 0) := by
 have := first_at f key l none i l.length (Nat.le_refl _) (fun j a _ ha => by
  have := h0 j a ha
  cases j with
  | zero => simpa [prevAt] using this
  | succ j => rw [if_neg (by omega)]; exact this)
 rw [this, List.drop_length, first]
theorem first_bad {l : List α} {i k : Nat} {a : α} {e : Nat} (ha : l[k]? = some a) (he : f (prevAt key l k) a = e) (hne : e ≠ 0) (h0 : ∀ j a, j < k → l[j]? = some a → f (prevAt key l j) a = 0) : first f key none l i = (e, i + k) := by
 obtain ⟨hk, hka⟩ := List.getElem?_eq_some_iff.1 ha
 have := first_at f key l none i k (by omega) (fun j a hj ha => by
  have := h0 j a hj ha
  cases j with
  | zero => simpa [prevAt] using this
  | succ j => rw [if_neg (by omega)]; exact this)
 rw [this, List.drop_eq_getElem_cons hk, hka, first]
 have hp : (if k = 0 then none else prevAt key l k) = prevAt key l k := by
  cases k with
  | zero => rfl
  | succ k => rw [if_neg (by omega)]
 rw [hp, he, if_pos hne]
theorem first_inv : ∀ (l : List α) (p : Option κ) (i : Nat), (first f key p l i).1 = 0 → ∀ j a, l[j]? = some a → f (if j = 0 then p else prevAt key l j) a = 0
 | [], _, _, _, j, a, h => by simp at h
 | b :: r, p, i, h, j, a, hj => by
  rw [first] at h
  split at h
  ·rename_i hne
   exact absurd h hne
  ·rename_i hne
   have hb : f p b = 0 := Decidable.not_not.1 hne
   cases j with
   | zero => simp only [List.getElem?_cons_zero, Option.some.injEq] at hj; subst hj; simpa using hb
   | succ j =>
    have := first_inv r (some (key b)) (i + 1) h j a (by simpa using hj)
    rw [if_neg (by omega)]
    cases j with
    | zero => simpa [prevAt] using this
    | succ j => rw [if_neg (by omega)] at this; simpa [prevAt] using this
theorem first_all {l : List α} {i : Nat} (h : (first f key none l i).1 = 0) : ∀ j a, l[j]? = some a → f (prevAt key l j) a = 0 := fun j a ha => by
 have := first_inv f key l none i h j a ha
 cases j with
 | zero => simpa [prevAt] using this
 | succ j => rw [if_neg (by omega)] at this; exact this
end
def propWrong (prev : Option L) (p : P) : Nat := if goodName p.key = false then 60 else if prev.any (fun q => decide (p.key ≤ q)) = true then 6 else Cel.check p.val
def propsWrong (ps : List P) : Nat := if 16 < ps.length then 64 else (first propWrong P.key none ps 0).1
def labelWrong (prev : Option L) (l : L) : Nat := if goodName l = false then 60 else if prev.any (fun q => decide (l ≤ q)) = true then 6 else 0
def labelsWrong (ls : List L) : Nat := if 8 < ls.length then 63 else (first labelWrong id none ls 0).1
def nodeWrong (prev : Option Int) (n : N) : Nat :=
 if n.id < 0 ∨ 1024 ≤ n.id then 61 else if prev.any (fun q => decide (n.id ≤ q)) = true then 6 else if labelsWrong n.labels ≠ 0 then labelsWrong n.labels else propsWrong n.props
def relWrong (ids : List Int) (prev : Option Int) (r : R) : Nat :=
 if r.id < 0 ∨ 2048 ≤ r.id then 62 else if prev.any (fun q => decide (r.id ≤ q)) = true then 6 else if goodName r.type = false then 60 else
 if r.src ∉ ids ∨ r.dst ∉ ids then 65 else propsWrong r.props
def dedup : List L → List L
 | [] => []
 | a :: r => if a ∈ r then dedup r else a :: dedup r
def names1 (g : G) : List L := g.nodes.flatMap N.labels
def names2 (g : G) : List L := g.rels.map R.type
def allProps (g : G) : List P := g.nodes.flatMap N.props ++ g.rels.flatMap R.props
def names3 (g : G) : List L := (allProps g).map P.key
def encLen (v : Cel.V) : Nat :=
 if v.kind < 4 then (if v.kind = 1 then 2 else 9) else if v.kind = 4 then 3 + v.text.length else
 2 + v.nums.length * (if v.kind = 5 then 1 else 8) + (v.texts.map fun t => 2 + t.length).sum
def weightOf (ps : List P) : Nat := (ps.map fun p => encLen p.val).sum
def weight (g : G) : Nat := weightOf (allProps g)
def check (g : G) : Nat × Nat :=
 if (first nodeWrong N.id none g.nodes 0).1 ≠ 0 then first nodeWrong N.id none g.nodes 0 else
 if (first (relWrong (g.nodes.map N.id)) R.id none g.rels g.nodes.length).1 ≠ 0 then first (relWrong (g.nodes.map N.id)) R.id none g.rels g.nodes.length else
 if 200 < (dedup (names1 g)).length ∨ 200 < (dedup (names2 g)).length ∨ 200 < (dedup (names3 g)).length then (66, 0) else
 if 262144 < weight g then (67, 0) else (0, 0)
theorem mem_dedup {x : L} : ∀ {l : List L}, x ∈ dedup l ↔ x ∈ l
 | [] => by simp [dedup]
 | a :: r => by
  rw [dedup]
  split
  ·rename_i h
   rw [mem_dedup, List.mem_cons]
   exact ⟨.inr, fun h' => h'.elim (fun e => e ▸ h) id⟩
  ·rw [List.mem_cons, List.mem_cons, mem_dedup]
theorem nodup_dedup : ∀ l : List L, (dedup l).Nodup
 | [] => by simp [dedup]
 | a :: r => by
  rw [dedup]
  split
  ·exact nodup_dedup r
  ·rename_i h
   exact List.nodup_cons.2 ⟨fun h' => h (mem_dedup.1 h'), nodup_dedup r⟩
def sortBy {α κ : Type} (le : κ → κ → Bool) (key : α → κ) (l : List α) : List α := l.mergeSort fun a b => le (key a) (key b)
def canonProps (ps : List P) : List P := sortBy (fun a b : L => decide (a ≤ b)) P.key ps
def canonLabels (ls : List L) : List L := sortBy (fun a b : L => decide (a ≤ b)) id ls
def canonNode (n : N) : N := ⟨n.id, canonLabels n.labels, canonProps n.props⟩
def canonRel (r : R) : R := ⟨r.id, r.type, r.src, r.dst, canonProps r.props⟩
def canon (g : G) : G := ⟨sortBy (fun a b : Int => decide (a ≤ b)) N.id (g.nodes.map canonNode), sortBy (fun a b : Int => decide (a ≤ b)) R.id (g.rels.map canonRel)⟩
end Go.Proofs.YtoofbflplhbpbaaGreatDoor.Gr
namespace Go.Proofs.YtoofbflplhbpbaaGreatDoor.Cy
open Go
abbrev L := List UInt8
def word (k : Int) : L := if k = 1 then [98, 111, 111, 108] else if k = 2 then [105, 110, 116] else if k = 3 then [102, 108, 111, 97, 116] else [116, 101, 120, 116]
def scalar (k n : Int) (t : L) : L := if k = 1 then (if n = 1 then Cel.TRUE else Cel.FALSE) else if k = 2 then Lib.itoa n else if k = 3 then Num.fmt (Cel.u64 n) else Lex.quote t
def join (sep : L) : List L → L
 | [] => []
 | [a] => a
 | a :: b :: r => a ++ sep ++ join sep (b :: r)
def parts (v : Cel.V) : List L := v.nums.map (fun n => scalar (v.kind - 4) n []) ++ v.texts.map (fun t => scalar (v.kind - 4) 0 t)
def lit (v : Cel.V) : L := if v.kind ≤ 4 then scalar v.kind v.num v.text else [91, 58] ++ word (v.kind - 4) ++ (if parts v = [] then [] else 32 :: join [44, 32] (parts v)) ++ [93]
def litR (v : Cel.V) : L × Nat := if Cel.check v = 0 then (lit v, 0) else ([], Cel.check v)
def propS (p : Gr.P) : L := p.key ++ [58, 32] ++ lit p.val
def mapS (ps : List Gr.P) : L := if ps = [] then [] else [32, 123] ++ join [44, 32] (ps.map propS) ++ [125]
def CREATE : L := [67, 82, 69, 65, 84, 69]
def nodeS (n : Gr.N) : L := CREATE ++ [32, 40, 110] ++ Lib.itoa n.id ++ n.labels.flatMap (fun l => 58 :: l) ++ mapS n.props ++ [41, 59, 10]
def relS (r : Gr.R) : L := CREATE ++ [32, 40, 110] ++ Lib.itoa r.src ++ [41, 45, 91, 114] ++ Lib.itoa r.id ++ [58] ++ r.type ++ mapS r.props ++ [93, 45, 62, 40, 110] ++ Lib.itoa r.dst ++ [41, 59, 10]
def lines (g : Gr.G) : List L := g.nodes.map nodeS ++ g.rels.map relS
def print (g : Gr.G) : L := (lines g).flatten
def printR (g : Gr.G) : L × Nat := if (Gr.check g).1 = 0 then (print g, 0) else ([], (Gr.check g).1)
abbrev T := List Lex.Tok
structure Pat where
 rel : Bool
 first : L
 word : L
 other : L
 names : List L
 props : List Gr.P
def mark (m : L) : T → Option T
 | [] => none
 | t :: r => if t.kind = 5 ∧ t.text = m then some r else none
def wordP : T → Option (L × T)
 | [] => none
 | t :: r => if t.kind = 1 then some (t.text, r) else none
def scalarP : T → Option ((Int × Int × L) × T)
 | [] => none
 | t :: r =>
  if t.kind = 1 then (if t.text = Cel.TRUE then some ((1, 1, []), r) else if t.text = Cel.FALSE then some ((1, 0, []), r) else none) else
  if t.kind = 2 then some ((2, t.num, []), r) else
  if t.kind = 3 then some ((3, t.num, []), r) else
  if t.kind = 4 then some ((4, 0, t.text), r) else none
def kindOf (w : L) : Int := if w = word 1 then 1 else if w = word 2 then 2 else if w = word 3 then 3 else if w = word 4 then 4 else 0
def elems (k : Int) : Nat → T → List Int → List L → Option ((List Int × List L) × T)
 | 0, _, _, _ => none
 | f + 1, l, ns, ts =>
  match scalarP l with
  | none => none
  | some ((j, n, t), r) =>
   if j ≠ k then none else
   match mark [93] r with
   | some r' => some ((if k = 4 then ns else ns ++ [n], if k = 4 then ts ++ [t] else ts), r')
   | none =>
    match mark [44] r with
    | none => none
    | some r' => elems k f r' (if k = 4 then ns else ns ++ [n]) (if k = 4 then ts ++ [t] else ts)
def litP (l : T) : Option (Cel.V × T) :=
 match mark [91] l with
 | none => (scalarP l).map fun x => (⟨x.1.1, x.1.2.1, x.1.2.2, [], []⟩, x.2)
 | some r =>
  match mark [58] r with
  | none => none
  | some r =>
   match wordP r with
   | none => none
   | some (w, r) =>
    if kindOf w = 0 then none else
    match mark [93] r with
    | some r => some (⟨kindOf w + 4, 0, [], [], []⟩, r)
    | none => (elems (kindOf w) (r.length + 1) r [] []).map fun x => (⟨kindOf w + 4, 0, [], x.1.1, x.1.2⟩, x.2)
def propsGo : Nat → T → List Gr.P → Option (List Gr.P × T)
 | 0, _, _ => none
 | f + 1, l, acc =>
  match wordP l with
  | none => none
  | some (k, r) =>
   match mark [58] r with
   | none => none
   | some r =>
    match litP r with
    | none => none
    | some (v, r) =>
     match mark [125] r with
     | some r => some (acc ++ [⟨k, v⟩], r)
     | none =>
      match mark [44] r with
      | none => none
      | some r => propsGo f r (acc ++ [⟨k, v⟩])
def propsP (l : T) : Option (List Gr.P × T) :=
 match mark [123] l with
 | none => some ([], l)
 | some r =>
  match mark [125] r with
  | some r => some ([], r)
  | none => propsGo (r.length + 1) r []
def labelsP : Nat → T → List L → Option (List L × T)
 | 0, _, _ => none
 | f + 1, l, acc =>
  match mark [58] l with
  | none => some (acc, l)
  | some r =>
   match wordP r with
   | none => none
   | some (w, r) => labelsP f r (acc ++ [w])
def relP (first : L) (l : T) : Option (Pat × T) :=
 match mark [91] l with
 | none => none
 | some l =>
  match wordP l with
  | none => none
  | some (w, l) =>
   match mark [58] l with
   | none => none
   | some l =>
    match wordP l with
    | none => none
    | some (ty, l) =>
     match propsP l with
     | none => none
     | some (ps, l) =>
      match mark [93] l with
      | none => none
      | some l =>
       match mark [45, 62] l with
       | none => none
       | some l =>
        match mark [40] l with
        | none => none
        | some l =>
         match wordP l with
         | none => none
         | some (o, l) => (mark [41] l).map fun l => (⟨true, first, w, o, [ty], ps⟩, l)
def patP (l : T) : Option (Pat × T) :=
 match mark [40] l with
 | none => none
 | some l =>
  match wordP l with
  | none => none
  | some (w, l) =>
   match labelsP (l.length + 1) l [] with
   | none => none
   | some (ls, r) =>
    match propsP r with
    | none => none
    | some (ps, r') =>
     match mark [41] r' with
     | none => none
     | some r'' =>
      if ls ≠ [] ∨ (mark [123] r).isSome = true then some (⟨false, w, [], [], ls, ps⟩, r'') else
      match mark [45] r'' with
      | none => some (⟨false, w, [], [], ls, ps⟩, r'')
      | some r => relP w r
def pats : Nat → T → List Pat → Option (List Pat × T)
 | 0, _, _ => none
 | f + 1, l, acc =>
  match patP l with
  | none => none
  | some (p, r) =>
   match mark [59] r with
   | some r => some (acc ++ [p], r)
   | none =>
    match mark [44] r with
    | none => none
    | some r => pats f r (acc ++ [p])
def script : Nat → T → List Pat → Option (List Pat)
 | 0, _, _ => none
 | _ + 1, [], acc => some acc
 | f + 1, t :: r, acc =>
  if t.kind = 1 ∧ t.text = CREATE then
   match pats (r.length + 1) r acc with
   | none => none
   | some (acc, r) => script f r acc
  else none
def patterns (l : T) : Option (List Pat) := script (l.length + 1) l []
def idP (c : UInt8) (most : Int) : L → Option Int
 | [] => none
 | d :: r => if d = c ∧ (Num.parseInt r).2 = 0 ∧ 0 ≤ (Num.parseInt r).1 ∧ (Num.parseInt r).1 < most then some (Num.parseInt r).1 else none
def dupWrong : List L → List L → Nat
 | _, [] => 0
 | seen, l :: r => if Gr.goodName l = false then 60 else if l ∈ seen then 7 else dupWrong (seen ++ [l]) r
def propsWrong : List L → List Gr.P → Nat
 | _, [] => 0
 | seen, p :: r => if Gr.goodName p.key = false then 60 else if p.key ∈ seen then 7 else if Cel.check p.val ≠ 0 then Cel.check p.val else propsWrong (seen ++ [p.key]) r
def endP (g : Gr.G) (w : L) : Int × Nat :=
 match idP 110 1024 w with
 | none => (0, 61)
 | some n => if n ∈ g.nodes.map Gr.N.id then (n, 0) else (0, 65)
def addNode (g : Gr.G) (p : Pat) : Gr.G × Nat :=
 match idP 110 1024 p.first with
 | none => (g, 61)
 | some n =>
  if n ∈ g.nodes.map Gr.N.id then (g, 7) else
  if dupWrong [] p.names ≠ 0 then (g, dupWrong [] p.names) else
  (⟨g.nodes ++ [⟨n, p.names, p.props⟩], g.rels⟩, propsWrong [] p.props)
def addRel (g : Gr.G) (p : Pat) : Gr.G × Nat :=
 if (endP g p.first).2 ≠ 0 then (g, (endP g p.first).2) else
 match idP 114 2048 p.word with
 | none => (g, 62)
 | some n =>
  if n ∈ g.rels.map Gr.R.id then (g, 7) else
  if Gr.goodName (p.names.headD []) = false then (g, 60) else
  if propsWrong [] p.props ≠ 0 then (g, propsWrong [] p.props) else
  (⟨g.nodes, g.rels ++ [⟨n, p.names.headD [], (endP g p.first).1, (endP g p.other).1, p.props⟩]⟩, (endP g p.other).2)
def add (g : Gr.G) (p : Pat) : Gr.G × Nat := if p.rel then addRel g p else addNode g p
def make : Gr.G → List Pat → Gr.G × Nat
 | g, [] => (g, 0)
 | g, p :: r => if (add g p).2 ≠ 0 then (Gr.G0, (add g p).2) else make (add g p).1 r
def parse (s : L) : Gr.G × Nat :=
 match (Lex.read s).2 with
 | some (_, e) => (Gr.G0, e)
 | none =>
  match patterns (Lex.read s).1 with
  | none => (Gr.G0, 250)
  | some ps =>
   if (make Gr.G0 ps).2 ≠ 0 then (Gr.G0, (make Gr.G0 ps).2) else
   if (Gr.check (Gr.canon (make Gr.G0 ps).1)).1 ≠ 0 then (Gr.G0, (Gr.check (Gr.canon (make Gr.G0 ps).1)).1) else (Gr.canon (make Gr.G0 ps).1, 0)
end Go.Proofs.YtoofbflplhbpbaaGreatDoor.Cy
namespace Go.Proofs.YtoofbflplhbpbaaGreatDoor.Gr
open Go
theorem prevAt_succ {κ α : Type} (key : α → κ) (l : List α) (k : Nat) : prevAt key l (k + 1) = l[k]?.map key := rfl
theorem prevAt_some {κ α : Type} {key : α → κ} {l : List α} {k : Nat} {a : α} (h : l[k]? = some a) : prevAt key l (k + 1) = some (key a) := by rw [prevAt_succ, h]; rfl
structure PropGood (prev : Option L) (p : P) : Prop where
 name : goodName p.key = true
 lt : ∀ q, prev = some q → ¬ p.key ≤ q
 val : Cel.check p.val = 0
theorem propWrong_zero {prev : Option L} {p : P} : propWrong prev p = 0 ↔ PropGood prev p := by
 unfold propWrong
 constructor
 ·intro h
  split at h
  ·omega
  ·rename_i h1
   split at h
   ·omega
   ·rename_i h2
    refine ⟨by simpa using h1, fun q hq => ?_, h⟩
    subst hq
    simpa using h2
 ·intro h
  rw [if_neg (by rw [h.name]; decide), if_neg, h.val]
  cases prev with
  | none => simp
  | some q => simpa using h.lt q rfl
structure PropsGood (ps : List P) : Prop where
 len : ps.length ≤ 16
 all : ∀ (j : Nat) p, ps[j]? = some p → PropGood (prevAt P.key ps j) p
theorem propsWrong_zero {ps : List P} : propsWrong ps = 0 ↔ PropsGood ps := by
 unfold propsWrong
 constructor
 ·intro h
  split at h
  ·omega
  ·exact ⟨by omega, fun j p hp => propWrong_zero.1 (first_all propWrong P.key h j p hp)⟩
 ·intro h
  rw [if_neg (by have := h.len; omega), first_zero propWrong P.key fun j p hp => propWrong_zero.2 (h.all j p hp)]
theorem PropsGood.val {ps : List P} (h : PropsGood ps) : ∀ p ∈ ps, Cel.check p.val = 0 := fun p hp => by
 obtain ⟨j, hj, e⟩ := List.getElem_of_mem hp
 exact (h.all j p (by rw [List.getElem?_eq_getElem hj, e])).val
theorem PropsGood.name {ps : List P} (h : PropsGood ps) : ∀ p ∈ ps, goodName p.key = true := fun p hp => by
 obtain ⟨j, hj, e⟩ := List.getElem_of_mem hp
 exact (h.all j p (by rw [List.getElem?_eq_getElem hj, e])).name
structure LabelGood (prev : Option L) (l : L) : Prop where
 name : goodName l = true
 lt : ∀ q, prev = some q → ¬ l ≤ q
theorem labelWrong_zero {prev : Option L} {l : L} : labelWrong prev l = 0 ↔ LabelGood prev l := by
 unfold labelWrong
 constructor
 ·intro h
  split at h
  ·omega
  ·rename_i h1
   split at h
   ·omega
   ·rename_i h2
    refine ⟨by simpa using h1, fun q hq => ?_⟩
    subst hq
    simpa using h2
 ·intro h
  rw [if_neg (by rw [h.name]; decide), if_neg]
  cases prev with
  | none => simp
  | some q => simpa using h.lt q rfl
structure LabelsGood (ls : List L) : Prop where
 len : ls.length ≤ 8
 all : ∀ (j : Nat) l, ls[j]? = some l → LabelGood (prevAt id ls j) l
theorem labelsWrong_zero {ls : List L} : labelsWrong ls = 0 ↔ LabelsGood ls := by
 unfold labelsWrong
 constructor
 ·intro h
  split at h
  ·omega
  ·exact ⟨by omega, fun j p hp => labelWrong_zero.1 (first_all labelWrong id h j p hp)⟩
 ·intro h
  rw [if_neg (by have := h.len; omega), first_zero labelWrong id fun j p hp => labelWrong_zero.2 (h.all j p hp)]
structure NodeGood (prev : Option Int) (n : N) : Prop where
 lo : 0 ≤ n.id
 hi : n.id < 1024
 lt : ∀ q, prev = some q → q < n.id
 labels : LabelsGood n.labels
 props : PropsGood n.props
theorem nodeWrong_zero {prev : Option Int} {n : N} : nodeWrong prev n = 0 ↔ NodeGood prev n := by
 unfold nodeWrong
 constructor
 ·intro h
  split at h
  ·omega
  ·rename_i h1
   split at h
   ·omega
   ·rename_i h2
    split at h
    ·rename_i h3; exact absurd h h3
    ·rename_i h3
     refine ⟨by omega, by omega, fun q hq => ?_, labelsWrong_zero.1 (Decidable.not_not.1 h3), propsWrong_zero.1 h⟩
     subst hq
     simp at h2
     omega
 ·intro h
  rw [if_neg (by have := h.lo; have := h.hi; omega), if_neg, if_neg (by rw [labelsWrong_zero.2 h.labels]; decide), propsWrong_zero.2 h.props]
  cases prev with
  | none => simp
  | some q => have := h.lt q rfl; simp; omega
structure RelGood (ids : List Int) (prev : Option Int) (r : R) : Prop where
 lo : 0 ≤ r.id
 hi : r.id < 2048
 lt : ∀ q, prev = some q → q < r.id
 name : goodName r.type = true
 src : r.src ∈ ids
 dst : r.dst ∈ ids
 props : PropsGood r.props
theorem relWrong_zero {ids : List Int} {prev : Option Int} {r : R} : relWrong ids prev r = 0 ↔ RelGood ids prev r := by
 unfold relWrong
 constructor
 ·intro h
  split at h
  ·omega
  ·rename_i h1
   split at h
   ·omega
   ·rename_i h2
    split at h
    ·omega
    ·rename_i h3
     split at h
     ·omega
     ·rename_i h4
      simp only [not_or, Decidable.not_not] at h4
      refine ⟨by omega, by omega, fun q hq => ?_, by simpa using h3, h4.1, h4.2, propsWrong_zero.1 h⟩
      subst hq
      simp at h2
      omega
 ·intro h
  rw [if_neg (by have := h.lo; have := h.hi; omega), if_neg, if_neg (by rw [h.name]; decide), if_neg (by simp [h.src, h.dst]), propsWrong_zero.2 h.props]
  cases prev with
  | none => simp
  | some q => have := h.lt q rfl; simp; omega
theorem up_ge {α : Type} {key : α → Int} {l : List α} (h : ∀ (j : Nat) a, l[j]? = some a → 0 ≤ key a ∧ ∀ q, prevAt key l j = some q → q < key a) : ∀ (j : Nat) a, l[j]? = some a → (j : Int) ≤ key a
 | 0, a, ha => (h 0 a ha).1
 | j + 1, a, ha => by
  have hj : j < l.length := by have := (List.getElem?_eq_some_iff.1 ha).1; omega
  have hb := List.getElem?_eq_getElem hj
  have := up_ge h j _ hb
  have := (h (j + 1) a ha).2 _ (prevAt_some hb)
  omega
theorem up_len {α : Type} {key : α → Int} {l : List α} {m : Nat} (h : ∀ (j : Nat) a, l[j]? = some a → 0 ≤ key a ∧ ∀ q, prevAt key l j = some q → q < key a) (hm : ∀ a ∈ l, key a < m) : l.length ≤ m := by
 rcases Nat.lt_or_ge m l.length with hlt | hge
 ·have hb := List.getElem?_eq_getElem hlt
  have := up_ge h m _ hb
  have := hm _ (List.mem_of_getElem? hb)
  omega
 ·exact hge
theorem sum_flat {α β : Type} {f : α → List β} {c : Nat} : ∀ {l : List α}, (∀ a ∈ l, (f a).length ≤ c) → (l.flatMap f).length ≤ c * l.length
 | [], _ => by simp
 | a :: l, h => by
  have := sum_flat fun b hb => h b (List.mem_cons.2 (.inr hb))
  have := h a (List.mem_cons.2 (.inl rfl))
  simp only [List.flatMap_cons, List.length_append, List.length_cons]
  rw [Nat.mul_succ]
  omega
structure NodesGood (ns : List N) : Prop where
 all : ∀ (j : Nat) n, ns[j]? = some n → NodeGood (prevAt N.id ns j) n
structure RelsGood (ids : List Int) (rs : List R) : Prop where
 all : ∀ (j : Nat) r, rs[j]? = some r → RelGood ids (prevAt R.id rs j) r
theorem NodesGood.mem {ns : List N} (h : NodesGood ns) {n : N} (hn : n ∈ ns) : ∃ prev, NodeGood prev n := by
 obtain ⟨j, hj, e⟩ := List.getElem_of_mem hn
 exact ⟨_, h.all j n (by rw [List.getElem?_eq_getElem hj, e])⟩
theorem RelsGood.mem {ids : List Int} {rs : List R} (h : RelsGood ids rs) {r : R} (hn : r ∈ rs) : ∃ prev, RelGood ids prev r := by
 obtain ⟨j, hj, e⟩ := List.getElem_of_mem hn
 exact ⟨_, h.all j r (by rw [List.getElem?_eq_getElem hj, e])⟩
theorem NodesGood.len {ns : List N} (h : NodesGood ns) : ns.length ≤ 1024 :=
 up_len (key := N.id) (fun j a ha => ⟨(h.all j a ha).lo, (h.all j a ha).lt⟩) (fun a ha => by obtain ⟨_, hg⟩ := h.mem ha; exact hg.hi)
theorem RelsGood.len {ids : List Int} {rs : List R} (h : RelsGood ids rs) : rs.length ≤ 2048 :=
 up_len (key := R.id) (fun j a ha => ⟨(h.all j a ha).lo, (h.all j a ha).lt⟩) (fun a ha => by obtain ⟨_, hg⟩ := h.mem ha; exact hg.hi)
theorem NodesGood.labels_len {ns : List N} (h : NodesGood ns) : (ns.flatMap N.labels).length ≤ 8192 := by
 have := sum_flat (f := N.labels) (l := ns) (c := 8) fun n hn => by obtain ⟨_, hg⟩ := h.mem hn; exact hg.labels.len
 have := h.len
 omega
theorem props_len {g : G} (h : NodesGood g.nodes) {ids : List Int} (k : RelsGood ids g.rels) : (allProps g).length ≤ 49152 := by
 have h1 := sum_flat (f := N.props) (l := g.nodes) (c := 16) fun n hn => by obtain ⟨_, hg⟩ := h.mem hn; exact hg.props.len
 have h2 := sum_flat (f := R.props) (l := g.rels) (c := 16) fun n hn => by obtain ⟨_, hg⟩ := k.mem hn; exact hg.props.len
 have := h.len
 have := k.len
 unfold allProps
 rw [List.length_append]
 omega
theorem props_val {g : G} (h : NodesGood g.nodes) {ids : List Int} (k : RelsGood ids g.rels) : ∀ p ∈ allProps g, Cel.check p.val = 0 := fun p hp => by
 unfold allProps at hp
 rcases List.mem_append.1 hp with hp | hp
 ·obtain ⟨n, hn, hq⟩ := List.mem_flatMap.1 hp
  obtain ⟨_, hg⟩ := h.mem hn
  exact hg.props.val p hq
 ·obtain ⟨n, hn, hq⟩ := List.mem_flatMap.1 hp
  obtain ⟨_, hg⟩ := k.mem hn
  exact hg.props.val p hq
structure Good (g : G) : Prop where
 nodes : NodesGood g.nodes
 rels : RelsGood (g.nodes.map N.id) g.rels
 names : (dedup (names1 g)).length ≤ 200 ∧ (dedup (names2 g)).length ≤ 200 ∧ (dedup (names3 g)).length ≤ 200
 weight : weight g ≤ 262144
theorem check_good {g : G} : (check g).1 = 0 ↔ Good g := by
 unfold check
 constructor
 ·intro h
  split at h
  ·rename_i h1; exact absurd h h1
  ·rename_i h1
   split at h
   ·rename_i h2; exact absurd h h2
   ·rename_i h2
    split at h
    ·cases h
    ·rename_i h3
     split at h
     ·cases h
     ·rename_i h4
      refine ⟨⟨fun j n hn => nodeWrong_zero.1 (first_all nodeWrong N.id (Decidable.not_not.1 h1) j n hn)⟩, ⟨fun j r hr => relWrong_zero.1 (first_all _ R.id (Decidable.not_not.1 h2) j r hr)⟩, by omega, by omega⟩
 ·intro h
  rw [if_neg (by rw [first_zero nodeWrong N.id fun j n hn => nodeWrong_zero.2 (h.nodes.all j n hn)]; decide),
   if_neg (by rw [first_zero _ R.id fun j r hr => relWrong_zero.2 (h.rels.all j r hr)]; decide), if_neg (by have := h.names; omega), if_neg (by have := h.weight; omega)]
end Go.Proofs.YtoofbflplhbpbaaGreatDoor.Gr
namespace Go.Proofs.YtoofbflplhbpbaaGreatDoor.Cy
open Go
abbrev C := Nat × L × Int
def mk (c : UInt8) : C := (5, [c], 0)
theorem let_fin : ∀ c : Fin 256, Lex.isLet (UInt8.ofNat c.val) = true → UInt8.ofNat c.val ≠ 39 ∧ Lex.blank (UInt8.ofNat c.val) = false ∧ UInt8.ofNat c.val ≠ 47 ∧ Lex.inWord (UInt8.ofNat c.val) = true := by decide +kernel
theorem word_num {c : UInt8} (h : Lex.inWord c = true) : Lex.inNum c = true := by unfold Lex.inNum; rw [h]; rfl
def Stop (r : L) : Prop := r.head?.any Lex.inNum = false
theorem Stop.word {r : L} (h : Stop r) : r.head?.any Lex.inWord = false := by
 unfold Stop at h
 cases r with
 | nil => rfl
 | cons c r =>
  simp only [List.head?_cons, Option.any_some] at h ⊢
  cases hw : Lex.inWord c with
  | false => rfl
  | true => rw [word_num hw] at h; cases h
structure VGood (v : Cel.V) : Prop where
 ck : Cel.check v = 0
 num : Cel.In64 v.num
 nums : ∀ n ∈ v.nums, Cel.In64 n
structure PGood (p : Gr.P) : Prop where
 name : Gr.goodName p.key = true
 val : VGood p.val
structure NGood (n : Gr.N) : Prop where
 lo : 0 ≤ n.id
 hi : n.id < 1024
 labels : ∀ l ∈ n.labels, Gr.goodName l = true
 props : ∀ p ∈ n.props, PGood p
structure RGood (r : Gr.R) : Prop where
 lo : 0 ≤ r.id
 hi : r.id < 2048
 slo : 0 ≤ r.src
 shi : r.src < 1024
 dlo : 0 ≤ r.dst
 dhi : r.dst < 1024
 name : Gr.goodName r.type = true
 props : ∀ p ∈ r.props, PGood p
end Go.Proofs.YtoofbflplhbpbaaGreatDoor.Cy
namespace Go.Proofs.YtoofbflplhbpbaaGreatDoor.Cy
open Go
theorem kindOf_word {k : Int} (h1 : 1 ≤ k) (h4 : k ≤ 4) : kindOf (word k) = k := by
 have : k = 1 ∨ k = 2 ∨ k = 3 ∨ k = 4 := by omega
 rcases this with rfl | rfl | rfl | rfl <;> decide
end Go.Proofs.YtoofbflplhbpbaaGreatDoor.Cy
namespace Go.Proofs.YtoofbflplhbpbaaGreatDoor.Cy
open Go
theorem adj_pairwise {α κ : Type} {key : α → κ} {R : κ → κ → Prop} (tr : ∀ {a b c}, R a b → R b c → R a c) {l : List α} (h : ∀ (j : Nat) a, l[j]? = some a → ∀ q, Gr.prevAt key l j = some q → R q (key a)) : l.Pairwise (fun a b => R (key a) (key b)) := by
 have hs : ∀ (d i : Nat) (hi : i < l.length) (hj : i + d + 1 < l.length), R (key l[i]) (key l[i + d + 1]) := by
  intro d
  induction d with
  | zero => intro i hi hj; exact h (i + 1) _ (List.getElem?_eq_getElem hj) _ (Gr.prevAt_some (List.getElem?_eq_getElem hi))
  | succ d ih =>
   intro i hi hj
   exact tr (ih i hi (by omega)) (h (i + (d + 1) + 1) _ (List.getElem?_eq_getElem hj) _ (Gr.prevAt_some (List.getElem?_eq_getElem (by omega))))
 rw [List.pairwise_iff_getElem]
 intro i j hi hj hij
 have := hs (j - i - 1) i hi (by omega)
 have e : i + (j - i - 1) + 1 = j := by omega
 simp only [e] at this
 exact this
theorem sortBy_of {α κ : Type} {key : α → κ} {lt : κ → κ → Prop} {le : κ → κ → Bool} {l l' : List α} (hp : l'.Perm l) (h : l.Pairwise (fun a b => lt (key a) (key b))) (h1 : ∀ a b, lt a b → le a b = true) (tr : ∀ a b c, le a b = true → le b c = true → le a c = true) (tot : ∀ a b, (le a b || le b a) = true)
  (no : ∀ a b, lt a b → le b a = false) : Gr.sortBy le key l' = l := by
 unfold Gr.sortBy
 refine List.Perm.eq_of_pairwise (le := fun a b => le (key a) (key b) = true) ?_ (List.pairwise_mergeSort (le := fun a b => le (key a) (key b)) (fun a b c => tr (key a) (key b) (key c)) (fun a b => tot (key a) (key b)) _) (h.imp (fun hx => h1 _ _ hx)) ((List.mergeSort_perm _ _).trans hp)
 intro a b ha hb hab hba
 have ha := hp.mem_iff.1 ((List.mergeSort_perm _ _).mem_iff.1 ha)
 obtain ⟨i, hi, rfl⟩ := List.getElem_of_mem ha
 obtain ⟨j, hj, rfl⟩ := List.getElem_of_mem hb
 rw [List.pairwise_iff_getElem] at h
 rcases Nat.lt_trichotomy i j with hlt | rfl | hgt
 ·rw [no _ _ (h i j hi hj hlt)] at hba; cases hba
 ·rfl
 ·rw [no _ _ (h j i hj hi hgt)] at hab; cases hab
theorem sort_str {α : Type} {key : α → L} {l l' : List α} (hp : l'.Perm l) (h : l.Pairwise (fun a b => key a < key b)) : Gr.sortBy (fun a b : L => decide (a ≤ b)) key l' = l :=
 sortBy_of (lt := fun a b => a < b) hp h (fun a b h => decide_eq_true (List.le_of_lt h)) (fun a b c h k => decide_eq_true (List.le_trans (of_decide_eq_true h) (of_decide_eq_true k)))
  (fun a b => by simp only [Bool.or_eq_true, decide_eq_true_eq]; exact List.le_total a b) (fun a b h => decide_eq_false (List.not_le.2 h))
theorem lt_nodup {α κ : Type} {key : α → κ} {lt : κ → κ → Prop} (ir : ∀ a, ¬ lt a a) {l : List α} (h : l.Pairwise (fun a b => lt (key a) (key b))) : (l.map key).Nodup := by
 unfold List.Nodup
 rw [List.pairwise_map]
 exact h.imp fun {a b} hx (e : key a = key b) => ir (key b) (by rw [e] at hx; exact hx)
theorem keys_up {ps : List Gr.P} (h : Gr.PropsGood ps) : ps.Pairwise (fun a b => a.key < b.key) := adj_pairwise (key := Gr.P.key) (R := fun a b => a < b) List.lt_trans fun j a ha q hq => List.not_le.1 ((h.all j a ha).lt q hq)
theorem labels_up {ls : List L} (h : Gr.LabelsGood ls) : ls.Pairwise (fun a b => a < b) := adj_pairwise (key := id) (R := fun a b => a < b) List.lt_trans fun j a ha q hq => List.not_le.1 ((h.all j a ha).lt q hq)
theorem props_nodup {ps : List Gr.P} (h : Gr.PropsGood ps) : (ps.map Gr.P.key).Nodup := lt_nodup (lt := fun a b => a < b) (fun a => List.lt_irrefl a) (keys_up h)
theorem labels_nodup {ls : List L} (h : Gr.LabelsGood ls) : ls.Nodup := by have := lt_nodup (key := id) (lt := fun a b => a < b) (fun a => List.lt_irrefl a) (labels_up h); rwa [List.map_id] at this
structure Fine (g : Gr.G) : Prop where
 good : Gr.Good g
 nums : ∀ p ∈ Gr.allProps g, Cel.In64 p.val.num ∧ ∀ n ∈ p.val.nums, Cel.In64 n
theorem labelsGood_names {ls : List L} (h : Gr.LabelsGood ls) : ∀ l ∈ ls, Gr.goodName l = true := fun l hl => by
 obtain ⟨j, hj, e⟩ := List.getElem_of_mem hl
 exact (h.all j l (by rw [List.getElem?_eq_getElem hj, e])).name
theorem props_fine {g : Gr.G} (h : Fine g) {ps : List Gr.P} (hg : Gr.PropsGood ps) (hs : ∀ p ∈ ps, p ∈ Gr.allProps g) : ∀ p ∈ ps, PGood p := fun p hp =>
 ⟨hg.name p hp, hg.val p hp, (h.nums p (hs p hp)).1, (h.nums p (hs p hp)).2⟩
structure NFine (n : Gr.N) : Prop where
 good : NGood n
 labels : n.labels.Nodup
 keys : (n.props.map Gr.P.key).Nodup
 canon : Gr.canonNode n = n
structure RFine (n : Gr.R) : Prop where
 good : RGood n
 keys : (n.props.map Gr.P.key).Nodup
 canon : Gr.canonRel n = n
theorem canonProps_good {ps : List Gr.P} (h : Gr.PropsGood ps) : Gr.canonProps ps = ps := sort_str (List.Perm.refl _) (keys_up h)
theorem Fine.node {g : Gr.G} (h : Fine g) {n : Gr.N} (hn : n ∈ g.nodes) : NFine n := by
 obtain ⟨_, hg⟩ := h.good.nodes.mem hn
 refine ⟨⟨hg.lo, hg.hi, labelsGood_names hg.labels, props_fine h hg.props fun p hp => List.mem_append_left _ (List.mem_flatMap.2 ⟨n, hn, hp⟩)⟩, labels_nodup hg.labels, props_nodup hg.props, ?_⟩
 unfold Gr.canonNode Gr.canonLabels
 rw [canonProps_good hg.props, sort_str (key := id) (List.Perm.refl _) (labels_up hg.labels)]
theorem id_range {g : Gr.G} (h : Fine g) {x : Int} (hx : x ∈ g.nodes.map Gr.N.id) : 0 ≤ x ∧ x < 1024 := by
 obtain ⟨n, hn, rfl⟩ := List.mem_map.1 hx
 exact ⟨(h.node hn).good.lo, (h.node hn).good.hi⟩
theorem Fine.rel {g : Gr.G} (h : Fine g) {n : Gr.R} (hn : n ∈ g.rels) : RFine n := by
 obtain ⟨_, hg⟩ := h.good.rels.mem hn
 have hs := id_range h hg.src
 have hd := id_range h hg.dst
 refine ⟨⟨hg.lo, hg.hi, hs.1, hs.2, hd.1, hd.2, hg.name, props_fine h hg.props fun p hp => List.mem_append_right _ (List.mem_flatMap.2 ⟨n, hn, hp⟩)⟩, props_nodup hg.props, ?_⟩
 unfold Gr.canonRel
 rw [canonProps_good hg.props]
end Go.Proofs.YtoofbflplhbpbaaGreatDoor.Cy
