/- A row of bytes of the call's own that may have come of a text ('[]byte(s)': a mark behind its last cell): appends onto it, and the text that it is. -/
import Derived.Test.YthnaiiejjdmnaaaGreatDoorBytes
import Derived.Lib.FrozenHead2
import Derived.Lib.ConvBytes
namespace Go.Proofs.YthnaiiejjdmnaaaGreatDoor
open Go.RowKit

def OwnG (B : Nat) (v : Value) (l : List UInt8) (w : World) : Prop :=
  ∃ g cap cur fz, v = .slice (some ⟨g, 0, none⟩) l.length cap ∧ B ≤ g ∧ w.heap[g]? = some (.cells cur 5 fz) ∧ (fz.2 ≤ l.length ∨ cap ≤ fz.1) ∧ l.length ≤ cap ∧ cap ≤ maxLen ∧ cur.size = cap ∧ cur.toList.take l.length = Lib.byteCells l
theorem OwnG.form {B : Nat} {v : Value} {l : List UInt8} {w : World} (h : OwnG B v l w) : ∃ A c, v = .slice A l.length c := by
  obtain ⟨g, cap, _, _, e, _⟩ := h
  exact ⟨_, _, e⟩
theorem OwnG.lt {B : Nat} {v : Value} {l : List UInt8} {w : World} (h : OwnG B v l w) : ∀ k, v.ownBlock = some k → B ≤ k ∧ k < w.heap.size := by
  obtain ⟨g, cap, cur, fz, rfl, hb, hg, _⟩ := h
  intro k hk
  simp only [Value.ownBlock, Option.some.injEq] at hk
  subst hk
  exact ⟨hb, (Array.getElem?_eq_some_iff.1 hg).1⟩
theorem OwnG.below {B : Nat} {v : Value} {l : List UInt8} {w w' : World} (h : OwnG B v l w) (hb : Below w.heap.size w w') : OwnG B v l w' := by
  obtain ⟨g, cap, cur, fz, rfl, hB, hg, rest⟩ := h
  exact ⟨g, cap, cur, fz, rfl, hB, (hb.block g (Array.getElem?_eq_some_iff.1 hg).1).trans hg, rest⟩
theorem OwnG.conv {B : Nat} {v : Value} {l : List UInt8} {w : World} (h : OwnG B v l w) : (convert 59 9 v).run Tryz.prog w = .ok (.string ⟨l.toArray⟩) w := by
  obtain ⟨g, cap, cur, fz, rfl, hb, hg, _, h1, h2, h3, h4⟩ := h
  refine run_convert_bytes_back (P := Tryz.prog) w 59 9 5 ⟨g, 0, none⟩ cap l Tryz.underlying59 Tryz.underlying5 Tryz.underlying9 (fun j hj => ?_)
  rw [add_at]
  have e : (Lib.byteCells l)[j]? = some (.int .u8 (l[j].toNat : Int)) := by simp [Lib.byteCells, List.getElem?_eq_getElem hj]
  rw [← h4, List.getElem?_take, if_pos hj] at e
  simp only [World.cell?, hg, Nat.zero_add]
  simpa using e
theorem OwnG.cell {B : Nat} {v : Value} {l : List UInt8} {w : World} (h : OwnG B v l w) {g : Nat} (hg : v.ownBlock = some g) : ∀ j u, (Lib.byteCells l)[j]? = some u → w.cell? ((⟨g, 0, none⟩ : Addr).add j) = some u := by
  obtain ⟨g', cap, cur, fz, rfl, hb, hg', _, h1, h2, h3, h4⟩ := h
  simp only [Value.ownBlock, Option.some.injEq] at hg
  subst hg
  intro j u hu
  rw [add_at]
  have hj : j < l.length := by
    have := (List.getElem?_eq_some_iff.1 hu).1
    simpa [Lib.byteCells] using this
  rw [← h4, List.getElem?_take, if_pos hj] at hu
  simp only [World.cell?, hg', Nat.zero_add]
  simpa using hu
/-- the row of a text's conversion -/
theorem OwnG.made (w : World) (B : Nat) (s : ByteArray) (hB : B ≤ w.heap.size) (hl : s.size ≤ maxLen) : OwnG B (.slice (some ⟨w.heap.size, 0, none⟩) s.size (grownCap w s.size 0 5)) s.data.toList (Lib.bytesWorld w 5 s) := by
  have hge := grownCap_ge w s.size 0 5
  have hcm := grownCap_le_maxLen w s.size 0 5 hl
  have hsz : (Lib.bytesCells w 5 s).size = grownCap w s.size 0 5 := by
    have e : s.data.size = s.size := rfl
    simp only [Lib.bytesCells, Array.size_append, Array.size_map, Array.size_replicate, e]
    omega
  refine ⟨w.heap.size, _, _, _, by rw [Lib.size_eq], hB, Lib.bytesWorld_at_new w _ s, .inr (by rw [hsz]; exact Nat.le_refl _), by rw [← Lib.size_eq]; exact hge, hcm, hsz, ?_⟩
  have e : (Lib.bytesCells w 5 s).toList = Lib.byteCells s.data.toList ++ List.replicate (grownCap w s.size 0 5 - s.size) (.int .u8 0) := by
    simp [Lib.bytesCells, Lib.byteCells]
  rw [e]
  have hl2 : s.data.toList.length = (Lib.byteCells s.data.toList).length := by simp [Lib.byteCells]
  rw [hl2]
  exact List.take_left
theorem bytesWorld_below (w : World) (s : ByteArray) : Below w.heap.size w (Lib.bytesWorld w 5 s) :=
  ⟨rfl, rfl, rfl, by rw [Lib.bytesWorld_size]; omega, fun i hi => Lib.bytesWorld_at_old w _ s i hi⟩

theorem run_storeCells_free (P : Program) (g o : Nat) (t : TypeId) (fz : Nat × Nat) : ∀ (vs : List Value) (i : Nat) (cur : Array Value) (w : World), w.heap[g]? = some (.cells cur t fz) → (fz.2 ≤ o + i ∨ o + i + vs.length ≤ fz.1) → o + i + vs.length ≤ cur.size → (∀ v ∈ vs, v.oneCell' = true) →
    (storeCells ⟨g, o, none⟩ vs i).run P w = .ok () (w.setRow g (cur.toList.take (o + i) ++ vs ++ cur.toList.drop (o + i + vs.length)).toArray)
  | [], i, cur, w, hg, _, _, _ => by
    simp only [storeCells, List.append_nil, List.length_nil, Nat.add_zero, List.take_append_drop, Array.toArray_toList]
    rw [setRow_self w g cur t fz hg]
    rfl
  | v :: rest, i, cur, w, hg, hfz, hl, h1 => by
    have hi : o + i < cur.size := by simp at hl; omega
    have hadd : (⟨g, o, none⟩ : Addr).add i = ⟨g, o + i, none⟩ := by unfold Addr.add; split <;> simp_all
    have hcell : w.cell? ⟨g, o + i, none⟩ = some cur[o + i] := by simp [World.cell?, hg, hi]
    have hfro : w.frozen? ⟨g, o + i, none⟩ = false := by
      obtain ⟨lo, hi'⟩ := fz
      simp only [World.frozen?, hg, Bool.and_eq_false_iff, decide_eq_false_iff_not]
      simp only [List.length_cons] at hfz
      rcases hfz with hfz | hfz
      · right
        omega
      · left
        omega
    have hst : (store ((⟨g, o, none⟩ : Addr).add i) v).run P w = .ok () (w.setRow g (cur.setIfInBounds (o + i) v)) := by
      rw [hadd, run_store P w _ v _ (h1 v (by simp)), hcell]
      simp [hfro, setCell_eq_setRow w g (o + i) cur t fz v hg]
    have ih := run_storeCells_free P g o t fz rest (i + 1) (cur.setIfInBounds (o + i) v) (w.setRow g (cur.setIfInBounds (o + i) v)) (setRow_heap w g cur _ t _ hg) (by simp only [List.length_cons] at hfz; omega) (by simp at hl ⊢; omega) (fun x hx => h1 x (by simp [hx]))
    simp only [storeCells, Sem.run_bind, hst, Result.andThen_ok, ih, setRow_setRow]
    congr 3
    have e := list_seg_step cur.toList (o + i) v rest (by simp at hl ⊢; omega)
    simpa [Array.toList_setIfInBounds, Nat.add_assoc] using e

theorem byteCells_len (l : List UInt8) : (Lib.byteCells l).length = l.length := by simp [Lib.byteCells]
theorem byteCells_oneCell (l : List UInt8) : ∀ v ∈ Lib.byteCells l, v.oneCell' = true := by
  intro v hv
  obtain ⟨b, _, rfl⟩ := List.mem_map.1 hv
  rfl
theorem strCells_eq (s : ByteArray) : Lib.strCells s = Lib.byteCells s.data.toList := by simp [Lib.strCells, Lib.byteCells]
/-- what an append leaves, with room and without -/
theorem OwnG.room {B : Nat} {l bs : List UInt8} {w : World} {g cap : Nat} {cur : Array Value} {fz : Nat × Nat} (hbg : B ≤ g) (hg : w.heap[g]? = some (.cells cur 5 fz)) (hfz : fz.2 ≤ l.length ∨ cap ≤ fz.1) (hcm : cap ≤ maxLen) (hcs : cur.size = cap)
    (htake : cur.toList.take l.length = Lib.byteCells l) (hroom : l.length + bs.length ≤ cap) :
    OwnG B (.slice (some ⟨g, 0, none⟩) (l.length + bs.length) cap) (l ++ bs) (w.setRow g (cur.toList.take l.length ++ Lib.byteCells bs ++ cur.toList.drop (l.length + bs.length)).toArray) ∧
    w.grownBy (w.setRow g (cur.toList.take l.length ++ Lib.byteCells bs ++ cur.toList.drop (l.length + bs.length)).toArray) (some g) := by
  refine ⟨⟨g, cap, _, fz, by rw [List.length_append], hbg, setRow_heap w g cur _ _ _ hg, ?_, by rw [List.length_append]; exact hroom, hcm, ?_, ?_⟩, ⟨rfl, rfl, rfl, by simp, fun k _ hk => setRow_other w g k _ (fun e => hk (by simp [e]))⟩⟩
  · rw [List.length_append]
    omega
  · simp only [List.size_toArray, List.length_append, List.length_take, List.length_drop, Array.length_toList, byteCells_len]
    omega
  · rw [htake, List.append_assoc, byteCells_app, ← List.append_assoc]
    have e : (l ++ bs).length = (Lib.byteCells l ++ Lib.byteCells bs).length := by simp [byteCells_len]
    rw [e]
    exact List.take_left
theorem OwnG.fresh {B : Nat} {l : List UInt8} {w : World} {cap : Nat} {cs : Array Value} (hB : B ≤ w.heap.size) (hge : l.length ≤ cap) (hcm : cap ≤ maxLen) (hcs : cs.size = cap) (ht : cs.toList.take l.length = Lib.byteCells l) :
    OwnG B (.slice (some ⟨w.heap.size, 0, none⟩) l.length cap) l (w.drew.alloc (.cells cs 5)) ∧ ∀ row, w.grownBy (w.drew.alloc (.cells cs 5)) row :=
  ⟨⟨w.heap.size, cap, cs, (0, 0), rfl, hB, heap_alloc_new w.drew _, .inl (Nat.zero_le _), hge, hcm, hcs, ht⟩, fun row => ⟨rfl, rfl, rfl, by simp, fun k hk _ => Go.heap_alloc_old w.drew _ hk⟩⟩

theorem run_append_strG {B : Nat} {v : Value} {l : List UInt8} {w : World} (h : OwnG B v l w) (z : ByteArray) (ty : TypeId) (hl : l.length + z.size < 1073741824) (hB : B ≤ w.heap.size) :
    ∃ v' w', (Builtin.append_ #[59, 9] ty #[v, .string z]).run Tryz.prog w = .ok v' w' ∧ OwnG B v' (l ++ z.data.toList) w' ∧ w.grownBy w' v.ownBlock := by
  obtain ⟨i0, hi, hz0, hz1, hz2⟩ := info_parts info_byte
  have hfull := h
  obtain ⟨g, cap, cur, fz, rfl, hbg, hg, hfz, hnc, hcm, hcs, htake⟩ := h
  have hzl := Lib.size_eq z
  by_cases hroom : l.length + z.size ≤ cap
  · have hf := Lib.run_firstCells_string (P := Tryz.prog) w 1 z
    have hst := run_storeCells_free Tryz.prog g l.length 5 fz (Lib.strCells z) 0 cur w hg (by rw [Lib.strCells_length]; omega) (by rw [Lib.strCells_length]; omega) (Lib.strCells_oneCell z)
    simp only [Nat.add_zero, Lib.strCells_length] at hst
    have ho := OwnG.room (B := B) (l := l) (bs := z.data.toList) hbg hg hfz hcm hcs htake (by rw [← hzl]; exact hroom)
    rw [← hzl, ← strCells_eq] at ho
    refine ⟨_, _, ?_, ho.1, ho.2⟩
    simp [Builtin.append_, run_underlying Tryz.underlying59, run_underlying Tryz.underlying9, sizeOf, typeInfo, hi, hz1, Builtin.lenOf, hroom, hf, Addr.add_lit, hst]
  · have hr := Lib.run_append_grow_string (P := Tryz.prog) w 59 9 ty 5 i0 (.int .u8 0) Tryz.underlying59 Tryz.underlying9 hi hz0 ⟨g, 0, none⟩ l.length cap (Lib.byteCells l) (by rw [hz1, byteCells_len]; omega) (hfull.cell rfl) z (by omega) (by simp only [maxLen] at hcm; omega) (by rw [hz2]; exact growslice_fits (by omega) (by omega))
    have hge := grownCap_ge w (l.length + z.size) cap 5
    have hcm2 := grownCap_le_maxLen w (l.length + z.size) cap 5 (by unfold maxLen; omega)
    have hz1' : (Value.int IntKind.u8 0).cells.size = 1 := rfl
    have ho := OwnG.fresh (B := B) (l := l ++ z.data.toList) (w := w) (cap := grownCap w (l.length + z.size) cap 5) (cs := (Lib.byteCells l).toArray ++ (Lib.strCells z).toArray ++ Builtin.zeroCells (Value.int .u8 0).cells (grownCap w (l.length + z.size) cap 5 - (l.length + z.size))) hB (by rw [List.length_append, ← hzl]; exact hge) hcm2 (by
      simp only [Array.size_append, List.size_toArray, size_zeroCells, hz1', byteCells_len, Lib.strCells_length]
      omega) (by
      simp only [Array.toList_append, List.append_assoc]
      rw [strCells_eq, ← List.append_assoc, ← byteCells_app]
      have e : (l ++ z.data.toList).length = (Lib.byteCells (l ++ z.data.toList)).length := (byteCells_len _).symm
      rw [e]
      exact List.take_left)
    refine ⟨_, _, hr, ?_, ho.2 _⟩
    have e : (l ++ z.data.toList).length = l.length + z.size := by rw [List.length_append, ← hzl]
    rw [e] at ho
    exact ho.1
theorem run_append_cellsG {B : Nat} {v : Value} {l : List UInt8} {w : World} (h : OwnG B v l w) (bs : List UInt8) (a : Addr) (m c : Nat) (hm : bs.length = m) (hnews : ∀ j u, (Lib.byteCells bs)[j]? = some u → w.cell? (a.add j) = some u) (ty : TypeId) (hl : l.length + m < 1073741824) (hB : B ≤ w.heap.size) :
    ∃ v' w', (Builtin.append_ #[59, 59] ty #[v, .slice (some a) m c]).run Tryz.prog w = .ok v' w' ∧ OwnG B v' (l ++ bs) w' ∧ w.grownBy w' v.ownBlock := by
  obtain ⟨i0, hi, hz0, hz1, hz2⟩ := info_parts info_byte
  subst hm
  have hfull := h
  obtain ⟨g, cap, cur, fz, rfl, hbg, hg, hfz, hnc, hcm, hcs, htake⟩ := h
  by_cases hroom : l.length + bs.length ≤ cap
  · have hf := run_firstCells_some (P := Tryz.prog) w 1 bs.length a bs.length c (Lib.byteCells bs) (by rw [byteCells_len]; omega) hnews
    have hst := run_storeCells_free Tryz.prog g l.length 5 fz (Lib.byteCells bs) 0 cur w hg (by rw [byteCells_len]; omega) (by rw [byteCells_len]; omega) (byteCells_oneCell bs)
    simp only [Nat.add_zero, byteCells_len] at hst
    have ho := OwnG.room (B := B) (l := l) (bs := bs) hbg hg hfz hcm hcs htake hroom
    refine ⟨_, _, ?_, ho.1, ho.2⟩
    simp [Builtin.append_, run_underlying Tryz.underlying59, sizeOf, typeInfo, hi, hz1, Builtin.lenOf, hroom, hf, Addr.add_lit, hst]
  · have hr := run_append_grow (P := Tryz.prog) w 59 ty 5 i0 (.int .u8 0) Tryz.underlying59 hi hz0 ⟨g, 0, none⟩ l.length cap (Lib.byteCells l) (by rw [hz1, byteCells_len]; omega) (hfull.cell rfl) a bs.length c (Lib.byteCells bs) (by rw [hz1, byteCells_len]; omega) hnews (by omega) (by simp only [maxLen] at hcm; omega) (by rw [hz2]; exact growslice_fits (by omega) (by omega))
    have hge := grownCap_ge w (l.length + bs.length) cap 5
    have hcm2 := grownCap_le_maxLen w (l.length + bs.length) cap 5 (by unfold maxLen; omega)
    have hz1' : (Value.int IntKind.u8 0).cells.size = 1 := rfl
    have ho := OwnG.fresh (B := B) (l := l ++ bs) (w := w) (cap := grownCap w (l.length + bs.length) cap 5) (cs := (Lib.byteCells l).toArray ++ (Lib.byteCells bs).toArray ++ Builtin.zeroCells (Value.int .u8 0).cells (grownCap w (l.length + bs.length) cap 5 - (l.length + bs.length))) hB (by rw [List.length_append]; exact hge) hcm2 (by
      simp only [Array.size_append, List.size_toArray, size_zeroCells, hz1', byteCells_len]
      omega) (by
      simp only [Array.toList_append, List.append_assoc]
      rw [← List.append_assoc, ← byteCells_app]
      have e : (l ++ bs).length = (Lib.byteCells (l ++ bs)).length := (byteCells_len _).symm
      rw [e]
      exact List.take_left)
    refine ⟨_, _, hr, ?_, ho.2 _⟩
    have e : (l ++ bs).length = l.length + bs.length := List.length_append
    rw [e] at ho
    exact ho.1

/-- the append of a text -/
theorem wp_append_strG {o : Oper} {a : Act} {K : Act → World → Prop} {Q : Exit → Act → World → Prop} (s x : Operand)
    (ho : o.op = .call { callee := .builtin .append, args := #[s, x], argTypes := #[59, 9] })
    (B : Nat) (v : Value) (l : List UInt8) (W : World) (hs : a.eval s = v) (h : OwnG B v l W) (z : ByteArray) (hx : a.eval x = .string z) (hl : l.length + z.size < 1073741824) (hB : B ≤ W.heap.size)
    (k : ∀ v' w', OwnG B v' (l ++ z.data.toList) w' → Below B W w' → K (a.put o.dst v') w') : Oper.wp Tryz.prog o a W K Q := by
  obtain ⟨v', w', hrun, h2, h3⟩ := run_append_strG h z o.type hl hB
  unfold Oper.wp execOp
  simp only [ho, resolve, invoke, builtin, Sem.run_bind, Sem.run_pure, Result.andThen_ok, List.map_toArray, List.map_cons, List.map_nil, hs, hx, hrun]
  exact k v' w' h2 ((Below.refl B W).grown h3 hB (fun j e => (h.lt j e).1))
theorem wpList_append_strG {ops : Array Oper} {rest : List Oper} {o : Oper} {a : Act} {Q : Exit → Act → World → Prop} (hgd : o.guard = none) (s x : Operand)
    (ho : o.op = .call { callee := .builtin .append, args := #[s, x], argTypes := #[59, 9] })
    (B : Nat) (v : Value) (l : List UInt8) (W : World) (hs : a.eval s = v) (h : OwnG B v l W) (z : ByteArray) (hx : a.eval x = .string z) (hl : l.length + z.size < 1073741824) (hB : B ≤ W.heap.size)
    (k : ∀ v' w', OwnG B v' (l ++ z.data.toList) w' → Below B W w' → wpList Tryz.prog ops Q rest (a.put o.dst v') w') : wpList Tryz.prog ops Q (o :: rest) a W :=
  wpList_plain hgd fun _ hK => wp_append_strG s x ho B v l W hs h z hx hl hB fun v' w' h1 h2 => hK _ _ (k v' w' h1 h2)
theorem step_append_strG {ops : Array Oper} {o : Oper} {a : Act} {K : Act → World → Prop} {Q : Exit → Act → World → Prop} {E : Prop} (hgd : o.guard = none) (s x : Operand)
    (ho : o.op = .call { callee := .builtin .append, args := #[s, x], argTypes := #[59, 9] })
    (B : Nat) (v : Value) (l : List UInt8) (W : World) (hs : a.eval s = v) (h : OwnG B v l W) (z : ByteArray) (hx : a.eval x = .string z) (hl : l.length + z.size < 1073741824) (hB : B ≤ W.heap.size)
    (k : ∀ v' w', OwnG B v' (l ++ z.data.toList) w' → Below B W w' → K (a.put o.dst v') w') : if Region.wanted o (yielded ops a.tmps) = true then Oper.wp Tryz.prog o a W K Q else E := by
  rw [if_pos (by simp [Region.wanted, hgd])]
  exact wp_append_strG s x ho B v l W hs h z hx hl hB k
/-- the append of bytes that are written out -/
theorem wpList_append_bytesG {ops : Array Oper} {rest : List Oper} {o : Oper} {a : Act} {Q : Exit → Act → World → Prop} (hgd : o.guard = none) (s x : Operand)
    (ho : o.op = .call { callee := .builtin .append, args := #[s, x], argTypes := #[59, 59] })
    (B : Nat) (v : Value) (l : List UInt8) (W : World) (hs : a.eval s = v) (h : OwnG B v l W) (bs : List UInt8) (us : List Value) (hu : us = Lib.byteCells bs) (m : Nat) (hm : bs.length = m)
    (hx : a.eval x = .slice (some ⟨W.heap.size, 0, none⟩) m m) (hl : l.length + m < 1073741824) (hB : B ≤ W.heap.size)
    (k : ∀ v' w', OwnG B v' (l ++ bs) w' → Below B W w' → wpList Tryz.prog ops Q rest (a.put o.dst v') w') : wpList Tryz.prog ops Q (o :: rest) a (W.alloc (.cells us.toArray 5)) := by
  subst hu
  have hal : Below W.heap.size W (W.alloc (.cells (Lib.byteCells bs).toArray 5)) := (Below.refl _ W).alloc (Nat.le_refl _) _
  have h' := h.below hal
  refine wpList_plain hgd fun K hK => ?_
  obtain ⟨v', w', hrun, h2, h3⟩ := run_append_cellsG h' bs ⟨W.heap.size, 0, none⟩ m m hm (fun j u hj => by
    rw [add_at]
    have := (Blk.new W 5 (Lib.byteCells bs).toArray).cell (0 + j)
    rw [this]
    simpa using hj) o.type hl (by simp; omega)
  unfold Oper.wp execOp
  simp only [ho, resolve, invoke, builtin, Sem.run_bind, Sem.run_pure, Result.andThen_ok, List.map_toArray, List.map_cons, List.map_nil, hs, hx, hrun]
  exact hK _ _ (k v' w' h2 (((Below.refl B W).alloc hB _).grown h3 (by simp; omega) (fun j e => (h'.lt j e).1)))
end Go.Proofs.YthnaiiejjdmnaaaGreatDoor
