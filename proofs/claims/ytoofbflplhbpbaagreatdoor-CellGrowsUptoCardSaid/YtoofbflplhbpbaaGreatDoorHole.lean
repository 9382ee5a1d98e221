/- What has turned lies in the blocks from M to N, or is new: what a caller that writes into one answer leaves of another. -/
import Derived.Test.YtoofbflplhbpbaaGreatDoorBytes
namespace Go.Proofs.YtoofbflplhbpbaaGreatDoor
open Go.RowKit

structure Hole (M N : Nat) (W w : World) : Prop where
  os : w.os = W.os
  tape : w.tape = W.tape
  output : w.output = W.output
  size : W.heap.size ≤ w.heap.size
  block : ∀ k, k < W.heap.size → (k < M ∨ N ≤ k) → w.heap[k]? = W.heap[k]?
theorem Hole.refl (M N : Nat) (w : World) : Hole M N w w := ⟨rfl, rfl, rfl, Nat.le_refl _, fun _ _ _ => rfl⟩
section
variable {M N : Nat} {W w w' : World}
theorem Hole.below (h : Hole M N W w) (hM : M ≤ W.heap.size) : Below M W w := ⟨h.os, h.tape, h.output, h.size, fun k hk => h.block k (by omega) (.inl hk)⟩
theorem Hole.grown {row : Option Nat} (h : Hole M N W w) (k : w.grownBy w' row) (hr : ∀ g, row = some g → (M ≤ g ∧ g < N) ∨ W.heap.size ≤ g) : Hole M N W w' :=
  ⟨k.os.trans h.os, k.tape.trans h.tape, k.output.trans h.output, Nat.le_trans h.size k.size, fun i hi hn => (k.block i (Nat.lt_of_lt_of_le hi h.size) (fun e => by have := hr i e.symm; omega)).trans (h.block i hi hn)⟩
theorem Hole.alloc (h : Hole M N W w) (o : Obj) : Hole M N W (w.alloc o) := h.grown (only_alloc (only_refl w none) o) (fun g e => by cases e)
theorem Hole.drew (h : Hole M N W w) : Hole M N W w.drew := ⟨h.os, h.tape, h.output, h.size, h.block⟩
theorem Hole.set (h : Hole M N W w) {p : Addr} (hp : M ≤ p.block ∧ p.block < N) (u : Value) : Hole M N W (w.setCell p u) :=
  h.grown (only_setCell (only_refl w (some p.block)) (.inl rfl) u) (fun g e => by cases e; exact .inl hp)
theorem Hole.own {B e sz n : Nat} {v : Value} {xs : List Value} (h : Hole M N W w) (ho : W.ownsRow B e sz v n xs) (hB : N ≤ B) : w.ownsRow B e sz v n xs := by
  refine ⟨ho.1, ?_⟩
  rcases ho.2 with hn | ⟨g, cap, cur, rfl, hg, hc, rest⟩
  · exact .inl hn
  · exact .inr ⟨g, cap, cur, rfl, hg, (h.block g (Array.getElem?_eq_some_iff.1 hc).1 (.inr (by omega))).trans hc, rest⟩
theorem Hole.blk {g : Nat} {t : TypeId} {cs : Array Value} (h : Hole M N W w) (hb : Blk W g t cs) (hg : N ≤ g) : Blk w g t cs := (h.block g hb.lt (.inr hg)).trans hb
end
/-- a cell of a row of the call's own is written -/
theorem own_set {w : World} {B e n : Nat} {A : Option Addr} {c : Nat} {xs : List Value} {k : Nat} (h : w.ownsRow B e 1 (.slice A n c) n xs) (hk : k < n) :
    ∃ g u0, A = some ⟨g, 0, none⟩ ∧ B ≤ g ∧ w.cell? ⟨g, k, none⟩ = some u0 ∧ w.frozen? ⟨g, k, none⟩ = false ∧ ∀ u, ∃ xs', (w.setCell ⟨g, k, none⟩ u).ownsRow B e 1 (.slice A n c) n xs' := by
  rcases h.2 with ⟨_, hn⟩ | ⟨g, cap, cur, he, hg, hc, h1, h2, h3, h4⟩
  · omega
  · injection he with e1 e2 e3
    subst e1 e3
    have hb : Blk w g e cur := hc
    have hk' : k < cur.size := by omega
    refine ⟨g, cur[k], rfl, hg, by rw [hb.cell, Array.getElem?_eq_getElem hk'], hb.frozen k, fun u => ⟨(cur.setIfInBounds k u).toList.take (n * 1), ?_, .inr ⟨g, c, _, rfl, hg, hb.set_ k u, h1, h2, by simpa using h3, rfl⟩⟩⟩
    simp
    omega
/-- elements, of one cell each, behind a row of the call's own -/
theorem wpList_append_cells {ops : Array Oper} {rest : List Oper} {o : Oper} {a : Act} {Q : Exit → Act → World → Prop} (hgd : o.guard = none) (s x : Operand) (T e : TypeId) (z : Value) (bytes : Nat)
    (hT : Tryz.prog.underlying T = some (.slice e)) (hinfo : (Tryz.prog.info? e).map (fun i => (i.zero, i.size, i.bytes)) = some (some z, 1, bytes)) (hz : z.cells.size = 1) (hby : bytes ≤ 24)
    (ho : o.op = .call { callee := .builtin .append, args := #[s, x], argTypes := #[T, T] })
    (B : Nat) (v : Value) (n : Nat) (xs : List Value) (W : World) (hs : a.eval s = v) (h : W.ownsRow B e 1 v n xs) (us : List Value) (m : Nat) (hm : us.length = m) (hu : ∀ u ∈ us, u.oneCell' = true)
    (hx : a.eval x = .slice (some ⟨W.heap.size, 0, none⟩) m m) (hl : n + m < 1073741824) (hB : B ≤ W.heap.size)
    (k : ∀ v' w', w'.ownsRow B e 1 v' (n + m) (xs ++ us) → W.grownBy w' v.ownBlock → Below B W w' → wpList Tryz.prog ops Q rest (a.put o.dst v') w') :
    wpList Tryz.prog ops Q (o :: rest) a (W.alloc (.cells us.toArray e)) := by
  obtain ⟨i0, hi, hz0, hz1, hz2⟩ := info_parts hinfo
  refine wpList_append_own _ hgd s x T ho B e i0 z 1 bytes hT hi hz0 hz1 hz2 hz (by decide) v n xs hs (World.ownsRow.alloc h _) ⟨W.heap.size, 0, none⟩ m m us hx (by omega) ?c1 hu ?c3 ?c4 ?c5 ?_
  case c1 =>
    intro j u hj
    rw [add_at]
    have := (Blk.new W e us.toArray).cell (0 + j)
    rw [this]
    simpa using hj
  case c3 => unfold maxLen; omega
  case c4 =>
    have : (n + m) * bytes ≤ 1073741824 * 24 := Nat.mul_le_mul (by omega) hby
    omega
  case c5 => simp; omega
  intro v' w' hown hgr _
  exact k v' w' hown (only_trans (only_alloc (only_refl W _) _) hgr) (((Below.refl B W).alloc hB _).grown hgr (by simp; omega) (fun j e => (World.ownsRow.lt h j e).1))
end Go.Proofs.YtoofbflplhbpbaaGreatDoor
