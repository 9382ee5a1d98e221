/- An argument of the type Value, opened: the value that the walks ask for. -/
import Derived.Test.YtoofbflplhbpbaaGreatDoorCelClose
import Derived.Test.YtoofbflplhbpbaaGreatDoorCelVal
import Derived.SliceStrings
import Derived.ChangeSlices
import Derived.Lib.SmallJoins
namespace Go.Proofs.YtoofbflplhbpbaaGreatDoor
open Go.Joins Go.ChangeShapes Go.WideShapes Go.ChangeAt Go.RowKit Go.Deep

section
variable {H : Type} {enc : TypeId × Value → H} {P : Program} {w : World} {base : Nat} {spare : Nat → Bool} {held : Bool}
theorem open_agg5 {r : Reach} {b0 : Nat} {t : TypeId} {f0 f1 f2 f3 f4 : Field} {v : Value} {d : DataW H} {p : List MemPlace} (hs : P.underlying t = some (.struct #[f0, f1, f2, f3, f4])) (hone : oneCellFields P #[f0, f1, f2, f3, f4] = true) (hC : P.cellsOf t = 5)
    (hv : Value.okWide P w r b0 t v) (h : DataW.Trod enc P w base spare held t v d p) :
    ∃ (v0 v1 v2 v3 v4 : Value) (y0 y1 y2 y3 y4 : DataW H × List MemPlace) (n : Nat), v = .agg #[v0, v1, v2, v3, v4] ∧ d = .agg [y0.1, y1.1, y2.1, y3.1, y4.1] ∧ p = y0.2 ++ (y1.2 ++ (y2.2 ++ (y3.2 ++ y4.2))) ∧
      DataW.trod enc P w base spare held n f0.type [v0] = some y0 ∧ DataW.trod enc P w base spare held n f1.type [v1] = some y1 ∧ DataW.trod enc P w base spare held n f2.type [v2] = some y2 ∧ DataW.trod enc P w base spare held n f3.type [v3] = some y3 ∧ DataW.trod enc P w base spare held n f4.type [v4] = some y4 := by
  obtain ⟨cs, rfl, hsz⟩ := okWide_struct hs hv
  obtain ⟨l⟩ := cs
  match l, hsz.trans hC with
  | [c0, c1, c2, c3, c4], _ =>
    obtain ⟨fuel, hf⟩ := h
    obtain ⟨xs, n, _, hx, _, hlen, hg⟩ := DataW.trod_struct hs hf
    obtain ⟨o0, k0⟩ := hone_of hone 0 f0 rfl
    obtain ⟨o1, k1⟩ := hone_of hone 1 f1 rfl
    obtain ⟨o2, k2⟩ := hone_of hone 2 f2 rfl
    obtain ⟨o3, k3⟩ := hone_of hone 3 f3 rfl
    obtain ⟨o4, k4⟩ := hone_of hone 4 f4 rfl
    match xs, hlen with
    | [y0, y1, y2, y3, y4], _ =>
      simp only [Prod.mk.injEq] at hx
      exact ⟨c0, c1, c2, c3, c4, y0, y1, y2, y3, y4, n, rfl, by simpa using hx.1, by simpa using hx.2, by simpa [Value.cells, o0, k0] using hg 0 f0 rfl, by simpa [Value.cells, o1, k1] using hg 1 f1 rfl, by simpa [Value.cells, o2, k2] using hg 2 f2 rfl, by simpa [Value.cells, o3, k3] using hg 3 f3 rfl, by simpa [Value.cells, o4, k4] using hg 4 f4 rfl⟩
end

theorem cell_lt {w : World} {a : Addr} {v : Value} (h : w.cell? a = some v) : a.block < w.heap.size := by
  rcases Nat.lt_or_ge a.block w.heap.size with h0 | h0
  · exact h0
  · unfold World.cell? at h
    simp [Array.getElem?_eq_none h0] at h
theorem reads_of {W : World} {a : Addr} {len : Nat} {xs : List Value} (hl : xs.length = len) (h : ∀ (i : Nat) u, xs[i]? = some u → W.cell? (a.add i) = some u) : Reads W W.heap.size 1 (some a) len xs := by
  refine ⟨by simpa using hl, fun h0 => ?_⟩
  have c0 := h 0 (xs[0]'(by omega)) (List.getElem?_eq_getElem _)
  have hsp : a.spot = none := by simpa [Addr.add] using World.cell?_spot c0
  obtain ⟨b, o, sp⟩ := a
  simp only at hsp
  subst hsp
  refine ⟨b, o, rfl, by have := cell_lt c0; simpa [block_of_add] using this, fun j u hj => ?_⟩
  have := h j u hj
  rwa [add_at] at this
theorem bulk_lits {H : Type} {k : IntKind} : ∀ l : List Int, Rows.uptoBulkAll (H := H) (lits k l) = l.length
  | [] => rfl
  | _ :: r => by
    have := bulk_lits (H := H) (k := k) r
    simp only [lits, List.map_cons, Rows.uptoBulkAll, Rows.uptoBulk, List.length_cons] at this ⊢
    omega
theorem bulk_strs {H : Type} : ∀ l : List ByteArray, Rows.uptoBulkAll (H := H) (strs l) = (l.map fun s => s.size + 1).sum
  | [] => rfl
  | s :: r => by
    have := bulk_strs (H := H) r
    have hs := Lib.size_eq s
    simp only [strs, List.map_cons, Rows.uptoBulkAll, Rows.uptoBulk, List.sum_cons] at this ⊢
    omega
theorem sum_mem {l : List ByteArray} {s : ByteArray} (h : s ∈ l) : s.size + 1 ≤ (l.map fun s => s.size + 1).sum ∧ l.length ≤ (l.map fun s => s.size + 1).sum := by
  induction l with
  | nil => cases h
  | cons a l ih =>
    simp only [List.map_cons, List.sum_cons, List.length_cons]
    have hl : ∀ l : List ByteArray, l.length ≤ (l.map fun s => s.size + 1).sum := by
      intro l
      induction l with
      | nil => simp
      | cons a l ih => simp only [List.map_cons, List.sum_cons, List.length_cons]; omega
    have := hl l
    rcases List.mem_cons.1 h with rfl | h
    · omega
    · have := ih h; omega

section
variable {H : Type} {enc : TypeId × Value → H} {W : World}
set_option maxRecDepth 100000 in
theorem open_nums {n : Nat} {v : Value} {y : DataW H × List MemPlace} (h : DataW.trod enc Tryz.prog W 0 (fun _ => true) true n 22 [v] = some y) :
    ∃ A c ns, v = .slice A (List.length ns) c ∧ Reads W W.heap.size 1 A ns.length (ns.map I64) ∧ (∀ m ∈ ns, Cel.In64 m) ∧ ns.length ≤ Rows.uptoBulk y.1 := by
  rcases open_ints Tryz.underlying22 Tryz.underlying2 (by kernel_rfl) h with ⟨hc, hx⟩ | ⟨a, len, cap, zs, hc, _, hl, _, hz, hx, hcell, hwf⟩
  · simp only [List.cons.injEq, and_true] at hc
    exact ⟨none, 0, [], hc, Reads.none_, by simp, by simp⟩
  · simp only [List.cons.injEq, and_true] at hc
    simp only [if_true] at hz
    have ht : (zs.take len).length = len := by rw [List.length_take]; omega
    refine ⟨some a, cap, zs.take len, by rw [ht]; exact hc, ?_, fun m hm => ?_, ?_⟩
    · rw [ht]
      refine reads_of (by simp; omega) fun i u hi => ?_
      rw [List.getElem?_map] at hi
      obtain ⟨z, hz', rfl⟩ := Option.map_eq_some_iff.1 hi
      obtain ⟨hlt, he⟩ := List.getElem?_eq_some_iff.1 hz'
      have hlt' : i < zs.length := by rw [ht] at hlt; omega
      rw [hcell i hlt', List.getD_eq_getElem?_getD, List.getElem?_eq_getElem hlt']
      rw [List.getElem_take] at he
      simp [I64, he]
    · have := hwf m (List.mem_of_mem_take hm)
      simp only [Lit.wf, Bool.and_eq_true, decide_eq_true_eq] at this
      exact this
    · rw [hx]
      simp only [Rows.uptoBulk, bulk_lits]
      omega
set_option maxRecDepth 100000 in
theorem open_texts {n : Nat} {v : Value} {y : DataW H × List MemPlace} (h : DataW.trod enc Tryz.prog W 0 (fun _ => true) true n 23 [v] = some y) :
    ∃ A c ts, v = .slice A (List.length ts) c ∧ Reads W W.heap.size 1 A ts.length (ts.map ST) ∧ (∀ t ∈ ts, t.length ≤ Rows.uptoBulk y.1) ∧ ts.length ≤ Rows.uptoBulk y.1 := by
  rcases open_strings Tryz.underlying23 Tryz.underlying9 (by kernel_rfl) h with ⟨hc, hx⟩ | ⟨a, len, cap, ss, hc, _, hl, _, hz, hx, hcell, _⟩
  · simp only [List.cons.injEq, and_true] at hc
    exact ⟨none, 0, [], hc, Reads.none_, by simp, by simp⟩
  · simp only [List.cons.injEq, and_true] at hc
    simp only [if_true] at hz
    have ht : (ss.take len).length = len := by rw [List.length_take]; omega
    have hb : (ss.take len).length ≤ Rows.uptoBulk y.1 ∧ ∀ s ∈ ss.take len, s.size ≤ Rows.uptoBulk y.1 := by
      rw [hx]
      simp only [Rows.uptoBulk, bulk_strs]
      constructor
      · by_cases h0 : 0 < (ss.take len).length
        · have := (sum_mem (List.getElem_mem h0)).2
          omega
        · omega
      · intro s hs
        have := (sum_mem hs).1
        omega
    refine ⟨some a, cap, (ss.take len).map fun s => s.data.toList, by rw [List.length_map, ht]; exact hc, ?_, fun t hm => ?_, by rw [List.length_map]; exact hb.1⟩
    · rw [List.length_map, ht]
      refine reads_of (by simp; omega) fun i u hi => ?_
      rw [List.map_map, List.getElem?_map] at hi
      obtain ⟨z, hz', rfl⟩ := Option.map_eq_some_iff.1 hi
      obtain ⟨hlt, he⟩ := List.getElem?_eq_some_iff.1 hz'
      have hlt' : i < ss.length := by rw [ht] at hlt; omega
      rw [hcell i hlt', List.getD_eq_getElem?_getD, List.getElem?_eq_getElem hlt']
      rw [List.getElem_take] at he
      simp [ST, he]
    · obtain ⟨s, hs, rfl⟩ := List.mem_map.1 hm
      have := hb.2 s hs
      rwa [Lib.size_eq] at this
set_option maxRecDepth 100000 in
theorem open_val {r : Reach} {b0 : Nat} {v : Value} {d : DataW H} {p : List MemPlace} (hv : Value.okWide Tryz.prog W r b0 25 v) (h : DataW.Trod enc Tryz.prog W 0 (fun _ => true) true 25 v d p) (hk : Rows.uptoBulk d ≤ 1048576) :
    ∃ cv, VIn W W.heap.size v cv := by
  obtain ⟨v0, v1, v2, v3, v4, y0, y1, y2, y3, y4, n, rfl, rfl, rfl, h0, h1, h2, h3, h4⟩ := open_agg5 Tryz.underlying25 (by kernel_rfl) (by kernel_rfl) hv h
  obtain ⟨k, e0, z0, w0⟩ := DataW.trod_int Tryz.underlying3 h0
  obtain ⟨m, e1, z1, w1⟩ := DataW.trod_int Tryz.underlying2 h1
  obtain ⟨s, e2, z2, w2⟩ := DataW.trod_string Tryz.underlying9 h2
  obtain ⟨A3, c3, ns, e3, r3, i3, b3⟩ := open_nums h3
  obtain ⟨A4, c4, ts, e4, r4, i4, b4⟩ := open_texts h4
  simp only [List.cons.injEq, and_true] at e0 e1 e2
  subst e0 e1 e2 e3 e4
  simp only [Rows.uptoBulk, Rows.uptoBulkAll, z2] at hk
  simp only [Lit.wf, Bool.and_eq_true, decide_eq_true_eq] at w0 w1
  exact ⟨⟨k, m, s.data.toList, ns, ts⟩, ⟨A3, c3, A4, c4, by simp, r3, r4⟩, w0, w1, i3, by show s.data.toList.length ≤ _; omega, by show ns.length ≤ _; omega, by show ts.length ≤ _; omega, fun t ht => by have := i4 t ht; omega⟩
end
end Go.Proofs.YtoofbflplhbpbaaGreatDoor
