/- An append of one struct, of more cells than one, onto a row of the call's own. -/
import Derived.Test.YtoofbflplhbpbaaGreatDoorBytes
namespace Go.Proofs.YtoofbflplhbpbaaGreatDoor
open Go.RowKit

theorem cells_new (w : World) (xs : List Value) (t : TypeId) : ∀ (j : Nat) u, xs[j]? = some u → (w.alloc (.cells xs.toArray t)).cell? ((⟨w.heap.size, 0, none⟩ : Addr).add j) = some u := by
  intro j u h
  rw [add_at, Nat.zero_add]
  have := (Blk.new w t xs.toArray).cell j
  rw [this]
  simpa using h
theorem wpList_append_struct {ops : Array Oper} {rest : List Oper} {o : Oper} {a : Act} {Q : Exit → Act → World → Prop} (hgd : o.guard = none) (s x : Operand) (T e : TypeId) (z : Value) (sz bytes : Nat)
    (hT : Tryz.prog.underlying T = some (.slice e)) (hinfo : (Tryz.prog.info? e).map (fun i => (i.zero, i.size, i.bytes)) = some (some z, sz, bytes)) (hz : z.cells.size = sz) (hsz : 0 < sz) (hby : bytes ≤ 200)
    (ho : o.op = .call { callee := .builtin .append, args := #[s, x], argTypes := #[T, T] })
    (B : Nat) (v : Value) (n : Nat) (xs : List Value) (W : World) (hs : a.eval s = v) (h : W.ownsRow B e sz v n xs) (news : List Value) (cs : Array Value) (hcs : cs = news.toArray) (hnl : news.length = sz) (hu : ∀ u ∈ news, u.oneCell' = true)
    (hx : a.eval x = .slice (some ⟨W.heap.size, 0, none⟩) 1 1) (hl : n < 536870912) (hB : B ≤ W.heap.size)
    (k : ∀ v' w', w'.ownsRow B e sz v' (n + 1) (xs ++ news) → W.grownBy w' v.ownBlock → (v'.ownBlock = v.ownBlock ∨ ∃ g, v'.ownBlock = some g ∧ W.heap.size ≤ g) → Below B W w' → wpList Tryz.prog ops Q rest (a.put o.dst v') w') :
    wpList Tryz.prog ops Q (o :: rest) a (W.alloc (.cells cs e)) := by
  subst hcs
  obtain ⟨i0, hi, hz0, hz1, hz2⟩ := info_parts hinfo
  refine wpList_append_own_at _ hgd s x T ho B e i0 z sz bytes hT hi hz0 hz1 hz2 hz hsz v n xs hs (World.ownsRow.alloc h _) ⟨W.heap.size, 0, none⟩ 1 1 news hx (by omega) ?c1 ?c2 ?c3 ?c4 ?c5 ?_
  case c1 => exact cells_new _ _ _
  case c2 => exact hu
  case c3 => unfold maxLen; omega
  case c4 =>
    have : (n + 1) * bytes ≤ 536870912 * 200 := Nat.mul_le_mul (by omega) hby
    omega
  case c5 => simp; omega
  intro v' w' hown hgr _ hwh
  refine k v' w' hown (only_trans (only_alloc (only_refl W _) _) hgr) (hwh.imp id (fun h => ⟨_, h, by simp⟩)) ?_
  exact ((Below.refl B W).alloc hB _).grown hgr (by simp; omega) (fun j e => (World.ownsRow.lt h j e).1)
theorem own_empty_sz (w : World) (base e sz : Nat) (hb : base ≤ w.heap.size) : (w.alloc (.cells #[] e)).ownsRow base e sz (.slice (some ⟨w.heap.size, 0, none⟩) 0 0) 0 [] :=
  World.ownsRow_made w #[] 0 hb (by unfold maxLen; omega) (by simp)
end Go.Proofs.YtoofbflplhbpbaaGreatDoor
