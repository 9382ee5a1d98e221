/- A slice of bytes of the call's own: as a list; the append of one byte; as a text. -/
import Derived.Test.YtoofbflplhbpbaaGreatDoorAppend
namespace Go.Proofs.YtoofbflplhbpbaaGreatDoor
open Go.RowKit

theorem info_byte : (Tryz.prog.info? 5).map (fun i => (i.zero, i.size, i.bytes)) = some (some (.int .u8 0), 1, 1) := by kernel_rfl

def OwnB (B : Nat) (v : Value) (l : List UInt8) (w : World) : Prop := w.ownsRow B 5 1 v l.length (Lib.byteCells l)

theorem byteCells_one (x : UInt8) : Lib.byteCells [x] = [.int .u8 (x.toNat : Int)] := by simp [Lib.byteCells]
theorem byteCells_app (a b : List UInt8) : Lib.byteCells (a ++ b) = Lib.byteCells a ++ Lib.byteCells b := by simp [Lib.byteCells]
theorem OwnB.conv {B : Nat} {v : Value} {l : List UInt8} {w : World} (h : OwnB B v l w) : (convert 55 9 v).run Tryz.prog w = .ok (.string ⟨l.toArray⟩) w := by
  rcases h.2 with ⟨rfl, hn⟩ | ⟨g, cap, cur, rfl, hb, hg, h1, h2, h3⟩
  · have : l = [] := List.eq_nil_of_length_eq_zero hn
    subst this
    exact run_convert_bytes_nil w 55 5 Tryz.underlying55 Tryz.underlying5 0 0 9 Tryz.underlying9
  · refine run_convert_bytes_back (P := Tryz.prog) w 55 9 5 ⟨g, 0, none⟩ cap l Tryz.underlying55 Tryz.underlying5 Tryz.underlying9 (fun j hj => ?_)
    have hr := Reads.of_own (c := cap) h
    obtain ⟨b', off', u, e, _, hu, hc⟩ := hr.at_ (k := j) hj
    cases e
    rw [add_at]
    rw [hc, ← hu]
    simp [Lib.byteCells, List.getElem?_eq_getElem hj]

theorem OwnB.form {B : Nat} {v : Value} {l : List UInt8} {w : World} (h : OwnB B v l w) : ∃ A c, v = .slice A l.length c := own_form h

theorem wpList_append_bytes {ops : Array Oper} {rest : List Oper} {o : Oper} {a : Act} {Q : Exit → Act → World → Prop} (hgd : o.guard = none) (s x : Operand)
    (ho : o.op = .call { callee := .builtin .append, args := #[s, x], argTypes := #[55, 55] })
    (B : Nat) (v : Value) (l : List UInt8) (W : World) (hs : a.eval s = v) (h : OwnB B v l W) (bs : List UInt8) (us : List Value) (hu : us = Lib.byteCells bs) (m : Nat) (hm : bs.length = m)
    (hx : a.eval x = .slice (some ⟨W.heap.size, 0, none⟩) m m) (hl : l.length < 1073741824) (hm2 : m < 1073741824) (hB : B ≤ W.heap.size)
    (k : ∀ v' w', OwnB B v' (l ++ bs) w' → W.grownBy w' v.ownBlock → Below B W w' → wpList Tryz.prog ops Q rest (a.put o.dst v') w') :
    wpList Tryz.prog ops Q (o :: rest) a (W.alloc (.cells us.toArray 5)) := by
  obtain ⟨i0, hi, hz0, hz1, hz2⟩ := info_parts info_byte
  subst hu
  refine wpList_append_own _ hgd s x 55 ho B 5 i0 (.int .u8 0) 1 1 Tryz.underlying55 hi hz0 hz1 hz2 rfl (by decide) v l.length (Lib.byteCells l) hs (World.ownsRow.alloc h _) ⟨W.heap.size, 0, none⟩ m m (Lib.byteCells bs) hx ?c0 ?c1 ?c2 ?c3 ?c4 ?c5 ?_
  case c0 => simp [Lib.byteCells, hm]
  case c1 =>
    intro j u hj
    rw [add_at]
    have := (Blk.new W 5 (Lib.byteCells bs).toArray).cell (0 + j)
    rw [this]
    simpa using hj
  case c2 => intro u hu; simp only [Lib.byteCells, List.mem_map] at hu; obtain ⟨_, _, rfl⟩ := hu; rfl
  case c3 => unfold maxLen; omega
  case c4 => omega
  case c5 => simp; omega
  intro v' w' hown hgr _
  refine k v' w' ?_ ?_ ?_
  · unfold OwnB
    rw [byteCells_app, List.length_append, hm]
    exact hown
  · exact only_trans (only_alloc (only_refl W _) _) hgr
  · exact ((Below.refl B W).alloc hB _).grown hgr (by simp; omega) (fun j e => (World.ownsRow.lt h j e).1)
/-- one element, of one cell, behind a row of the call's own -/
theorem wpList_append_one {ops : Array Oper} {rest : List Oper} {o : Oper} {a : Act} {Q : Exit → Act → World → Prop} (hgd : o.guard = none) (s x : Operand) (T e : TypeId) (z : Value) (bytes : Nat)
    (hT : Tryz.prog.underlying T = some (.slice e)) (hinfo : (Tryz.prog.info? e).map (fun i => (i.zero, i.size, i.bytes)) = some (some z, 1, bytes)) (hz : z.cells.size = 1) (hby : bytes ≤ 24)
    (ho : o.op = .call { callee := .builtin .append, args := #[s, x], argTypes := #[T, T] })
    (B : Nat) (v : Value) (n : Nat) (xs : List Value) (W : World) (hs : a.eval s = v) (h : W.ownsRow B e 1 v n xs) (u : Value) (hu : u.oneCell' = true)
    (hx : a.eval x = .slice (some ⟨W.heap.size, 0, none⟩) 1 1) (hl : n < 1073741824) (hB : B ≤ W.heap.size)
    (k : ∀ v' w', w'.ownsRow B e 1 v' (n + 1) (xs ++ [u]) → W.grownBy w' v.ownBlock → (v'.ownBlock = v.ownBlock ∨ ∃ g, v'.ownBlock = some g ∧ W.heap.size ≤ g) → Below B W w' → wpList Tryz.prog ops Q rest (a.put o.dst v') w') :
    wpList Tryz.prog ops Q (o :: rest) a (W.alloc (.cells #[u] e)) := by
  obtain ⟨i0, hi, hz0, hz1, hz2⟩ := info_parts hinfo
  refine wpList_append_own_at _ hgd s x T ho B e i0 z 1 bytes hT hi hz0 hz1 hz2 hz (by decide) v n xs hs (World.ownsRow.alloc h _) ⟨W.heap.size, 0, none⟩ 1 1 [u] hx rfl ?c1 ?c2 ?c3 ?c4 ?c5 ?_
  case c1 => exact cell_one_new _ _ _
  case c2 => intro y hy; rw [List.mem_singleton.1 hy]; exact hu
  case c3 => unfold maxLen; omega
  case c4 =>
    have : (n + 1) * bytes ≤ 1073741824 * 24 := Nat.mul_le_mul (by omega) hby
    omega
  case c5 => simp; omega
  intro v' w' hown hgr _ hwh
  refine k v' w' hown (only_trans (only_alloc (only_refl W _) _) hgr) (hwh.imp id (fun h => ⟨_, h, by simp⟩)) ?_
  exact ((Below.refl B W).alloc hB _).grown hgr (by simp; omega) (fun j e => (World.ownsRow.lt h j e).1)
theorem bc34 : [Value.int .u8 34] = Lib.byteCells [34] := by simp [Lib.byteCells]
theorem bc44 : [Value.int .u8 44] = Lib.byteCells [44] := by simp [Lib.byteCells]
theorem bcEnd : [Value.int .u8 13, Value.int .u8 10] = Lib.byteCells [13, 10] := by simp [Lib.byteCells]
end Go.Proofs.YtoofbflplhbpbaaGreatDoor
