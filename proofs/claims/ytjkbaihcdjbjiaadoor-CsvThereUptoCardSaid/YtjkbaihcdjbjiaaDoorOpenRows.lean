/- An argument of type [][]string, opened: the rows of texts that the walks ask for, and what their printing takes. -/
import Derived.Test.YtjkbaihcdjbjiaaDoorClose
import Derived.Test.YtjkbaihcdjbjiaaDoorCsvRead
import Derived.Deep.Slices
namespace Go.Proofs.YtjkbaihcdjbjiaaDoor
open Go.ChangeShapes Go.WideShapes Go.ChangeAt Go.RowKit Go.Deep

theorem cell_lt {w : World} {a : Addr} {v : Value} (h : w.cell? a = some v) : a.block < w.heap.size := by
  rcases Nat.lt_or_ge a.block w.heap.size with h0 | h0
  · exact h0
  · unfold World.cell? at h
    simp [Array.getElem?_eq_none h0] at h
theorem cells_string : Tryd.prog.cellsOf 9 = 1 := by kernel_rfl
theorem cells_strings : Tryd.prog.cellsOf 40 = 1 := by kernel_rfl

theorem bulk_all_app {H : Type} (l r : List (DataW H)) : Rows.uptoBulkAll (l ++ r) = Rows.uptoBulkAll l + Rows.uptoBulkAll r := by
  induction l with
  | nil => simp [Rows.uptoBulkAll]
  | cons x l ih => simp only [List.cons_append, Rows.uptoBulkAll, ih]; omega

section
variable {H : Type} {enc : TypeId × Value → H} {W : World}

theorem open_row1 {n : Nat} {rv : Value} {d : DataW H} {p : List MemPlace} (h : DataW.trod enc Tryd.prog W 0 (fun _ => true) true n 40 [rv] = some (d, p)) :
    ∃ ss, Row1 W W.heap.size rv ss ∧ Csv.wRow ss + 1 ≤ 3 * Rows.uptoBulk d := by
  rcases open_slice Tryd.underlying40 h with ⟨hc, hx⟩ | ⟨a, len, cap, mm, m, D, Pl, hc, _, hl, hm, hmm, hx, hall⟩
  · simp only [List.cons.injEq, and_true] at hc
    simp only [Prod.mk.injEq] at hx
    obtain ⟨rfl, rfl⟩ := hx
    subst hc
    exact ⟨[], ⟨none, 0, rfl, by simp, by unfold maxLen; omega, Reads.none_⟩, by simp [Csv.wRow, Rows.uptoBulk]⟩
  · simp only [List.cons.injEq, and_true] at hc
    simp only [if_true] at hmm
    subst hmm
    simp only [Prod.mk.injEq] at hx
    obtain ⟨rfl, rfl⟩ := hx
    subst hc
    rw [cells_string] at hall
    have hone : ∀ i, i < mm → ∃ s : ByteArray, W.cell? (a.add i) = some (.string s) ∧ D i = .lit (.string s.data.toList) := fun i hi => by
      obtain ⟨cs', h1, h2⟩ := hall i hi
      obtain ⟨_, hlen, hcell⟩ := World.cells?_some h1
      match cs', hlen with
      | [c], _ =>
        obtain ⟨s, hc0, hd, _⟩ := DataW.trod_string Tryd.underlying9 h2
        simp only [List.cons.injEq, and_true] at hc0
        subst hc0
        have := hcell 0 (by omega)
        exact ⟨s, by simpa [Addr.add] using this, (Prod.mk.inj hd).1⟩
    let F : Nat → Csv.F := fun i => if hi : i < mm then (hone i hi).choose.data.toList else []
    have hF : ∀ i, i < mm → W.cell? (a.add i) = some (S (F i)) ∧ D i = .lit (.string (F i)) := fun i hi => by
      have e := (hone i hi).choose_spec
      simp only [F, dif_pos hi]
      exact ⟨e.1, e.2⟩
    refine ⟨(List.range len).map F, ⟨some a, mm, by simp, by simpa using hl, hm, by simp, fun h0 => ?_⟩, ?_⟩
    · have hlen0 : 0 < len := by simpa using h0
      have c0 := (hF 0 (by omega)).1
      have hsp : a.spot = none := by simpa [Addr.add] using World.cell?_spot c0
      obtain ⟨b, o, sp⟩ := a
      simp only at hsp
      subst hsp
      refine ⟨b, o, rfl, by have := cell_lt c0; simpa [block_of_add] using this, fun j u hj => ?_⟩
      rw [List.map_map, List.getElem?_map] at hj
      obtain ⟨i, hi, rfl⟩ := Option.map_eq_some_iff.1 hj
      obtain ⟨hlt, he⟩ := List.getElem?_eq_some_iff.1 hi
      have hji : j < len := by simpa using hlt
      have : j = i := by simpa using he
      subst this
      have := (hF j (by omega)).1
      rwa [add_at] at this
    · have key : ∀ k, k ≤ len → ((List.range k).map fun i => 2 * (F i).length + 3).sum ≤ 3 * Rows.uptoBulkAll ((List.range k).map D) := by
        intro k
        induction k with
        | zero => intro _; simp
        | succ k ih =>
          intro hk
          have := ih (by omega)
          rw [List.range_succ, List.map_append, List.map_append, List.sum_append, bulk_all_app, List.map_cons, List.map_cons, List.map_nil, List.map_nil, (hF k (by omega)).2]
          simp only [Rows.uptoBulkAll, Rows.uptoBulk, List.sum_cons, List.sum_nil]
          omega
      have hk := key len (Nat.le_refl _)
      simp only [Csv.wRow, Rows.uptoBulk, List.map_map]
      have e : ((List.range len).map ((fun f : Csv.F => 2 * f.length + 3) ∘ F)) = ((List.range len).map fun i => 2 * (F i).length + 3) := rfl
      rw [e]
      omega

theorem open_rows2 {n : Nat} {rv : Value} {d : DataW H} {p : List MemPlace} (h : DataW.trod enc Tryd.prog W 0 (fun _ => true) true n 22 [rv] = some (d, p)) :
    ∃ rows, Rows2 W W.heap.size rv rows ∧ Csv.wRows rows ≤ 3 * Rows.uptoBulk d := by
  rcases open_slice Tryd.underlying22 h with ⟨hc, hx⟩ | ⟨a, len, cap, mm, m, D, Pl, hc, _, hl, hm, hmm, hx, hall⟩
  · simp only [List.cons.injEq, and_true] at hc
    simp only [Prod.mk.injEq] at hx
    obtain ⟨rfl, rfl⟩ := hx
    subst hc
    exact ⟨[], ⟨none, 0, [], rfl, by simp, by unfold maxLen; omega, rfl, Reads.none_, fun k u r hu => by simp at hu⟩, by simp [Csv.wRows]⟩
  · simp only [List.cons.injEq, and_true] at hc
    simp only [if_true] at hmm
    subst hmm
    simp only [Prod.mk.injEq] at hx
    obtain ⟨rfl, rfl⟩ := hx
    subst hc
    rw [cells_strings] at hall
    have hone : ∀ i, i < mm → ∃ q : Value × List Csv.F, W.cell? (a.add i) = some q.1 ∧ Row1 W W.heap.size q.1 q.2 ∧ Csv.wRow q.2 + 1 ≤ 3 * Rows.uptoBulk (D i) := fun i hi => by
      obtain ⟨cs', h1, h2⟩ := hall i hi
      obtain ⟨_, hlen, hcell⟩ := World.cells?_some h1
      match cs', hlen with
      | [c], _ =>
        obtain ⟨ss, h3, h4⟩ := open_row1 h2
        have := hcell 0 (by omega)
        exact ⟨(c, ss), by simpa [Addr.add] using this, h3, h4⟩
    let Q : Nat → Value × List Csv.F := fun i => if hi : i < mm then (hone i hi).choose else (undef, [])
    have hQ : ∀ i, i < mm → W.cell? (a.add i) = some (Q i).1 ∧ Row1 W W.heap.size (Q i).1 (Q i).2 ∧ Csv.wRow (Q i).2 + 1 ≤ 3 * Rows.uptoBulk (D i) := fun i hi => by
      simp only [Q, dif_pos hi]
      exact (hone i hi).choose_spec
    have hix : ∀ {α : Type} (G : Nat → α) (k : Nat) (u : α), ((List.range len).map G)[k]? = some u → k < len ∧ u = G k := fun G k u hk => by
      rw [List.getElem?_map] at hk
      obtain ⟨i, hi, rfl⟩ := Option.map_eq_some_iff.1 hk
      obtain ⟨hlt, he⟩ := List.getElem?_eq_some_iff.1 hi
      have : k = i := by simpa using he
      subst this
      exact ⟨by simpa using hlt, rfl⟩
    refine ⟨(List.range len).map fun i => (Q i).2, ⟨some a, mm, (List.range len).map fun i => (Q i).1, by simp, by simpa using hl, hm, by simp, ⟨by simp, fun h0 => ?_⟩, fun k u r hu hr => ?_⟩, ?_⟩
    · have hlen0 : 0 < len := by simpa using h0
      have c0 := (hQ 0 (by omega)).1
      have hsp : a.spot = none := by simpa [Addr.add] using World.cell?_spot c0
      obtain ⟨b, o, sp⟩ := a
      simp only at hsp
      subst hsp
      refine ⟨b, o, rfl, by have := cell_lt c0; simpa [block_of_add] using this, fun j u hj => ?_⟩
      obtain ⟨hjl, rfl⟩ := hix _ _ _ hj
      have := (hQ j (by omega)).1
      rwa [add_at] at this
    · obtain ⟨hk, rfl⟩ := hix _ _ _ hu
      obtain ⟨_, rfl⟩ := hix _ _ _ hr
      exact (hQ k (by omega)).2.1
    · have key : ∀ k, k ≤ len → Csv.wRows ((List.range k).map fun i => (Q i).2) ≤ 3 * Rows.uptoBulkAll ((List.range k).map D) := by
        intro k
        induction k with
        | zero => intro _; simp [Csv.wRows]
        | succ k ih =>
          intro hk
          have := ih (by omega)
          have h2 := (hQ k (by omega)).2.2
          rw [List.range_succ, List.map_append, List.map_append, Csv.wRows_app, bulk_all_app, List.map_cons, List.map_cons, List.map_nil, List.map_nil]
          simp only [Rows.uptoBulkAll]
          have e : Csv.wRows [(Q k).2] = Csv.wRow (Q k).2 := by simp [Csv.wRows]
          omega
      have hk := key len (Nat.le_refl _)
      simp only [Rows.uptoBulk]
      omega
end
end Go.Proofs.YtjkbaihcdjbjiaaDoor
