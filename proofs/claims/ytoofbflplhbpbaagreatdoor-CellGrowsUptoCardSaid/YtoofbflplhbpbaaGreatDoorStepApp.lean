/- An append of one cell onto a row of the call's own, in a region that draws its order. -/
import Derived.Test.YtoofbflplhbpbaaGreatDoorBytes
import Derived.Deep.RegionLaw
import Derived.RegionTactic
namespace Go.Proofs.YtoofbflplhbpbaaGreatDoor
open Go.RowKit

theorem step_append_one {ops : Array Oper} {o : Oper} {a : Act} {K : Act → World → Prop} {Q : Exit → Act → World → Prop} {E : Prop} (hgd : o.guard = none) (s x : Operand) (T e : TypeId) (z : Value) (bytes : Nat)
    (hT : Tryz.prog.underlying T = some (.slice e)) (hinfo : (Tryz.prog.info? e).map (fun i => (i.zero, i.size, i.bytes)) = some (some z, 1, bytes)) (hz : z.cells.size = 1) (hby : bytes ≤ 24)
    (ho : o.op = .call { callee := .builtin .append, args := #[s, x], argTypes := #[T, T] })
    (B : Nat) (v : Value) (n : Nat) (xs : List Value) (W : World) (hs : a.eval s = v) (h : W.ownsRow B e 1 v n xs) (u : Value) (hu : u.oneCell' = true)
    (hx : a.eval x = .slice (some ⟨W.heap.size, 0, none⟩) 1 1) (hl : n < 1073741824) (hB : B ≤ W.heap.size)
    (k : ∀ v' w', w'.ownsRow B e 1 v' (n + 1) (xs ++ [u]) → W.grownBy w' v.ownBlock → (v'.ownBlock = v.ownBlock ∨ ∃ g, v'.ownBlock = some g ∧ W.heap.size ≤ g) → Below B W w' → K (a.put o.dst v') w') :
    if Region.wanted o (yielded ops a.tmps) = true then Oper.wp Tryz.prog o a (W.alloc (.cells #[u] e)) K Q else E := by
  have hw : Region.wanted o (yielded ops a.tmps) = true := by simp [Region.wanted, hgd]
  rw [if_pos hw]
  obtain ⟨i0, hi, hz0, hz1, hz2⟩ := info_parts hinfo
  have hnews : ∀ j u', ([u] : List Value)[j]? = some u' → (W.alloc (.cells #[u] e)).cell? ((⟨W.heap.size, 0, none⟩ : Addr).add j) = some u' := cell_one_new _ _ _
  obtain ⟨v', w', hrun, h2, h3, h4, h5⟩ := run_append_own_at (P := Tryz.prog) (W.alloc (.cells #[u] e)) B T o.type e i0 z 1 bytes hT hi hz0 hz1 hz2 hz (by decide) v n xs (World.ownsRow.alloc h _) ⟨W.heap.size, 0, none⟩ 1 1 [u] rfl hnews (fun y hy => by rw [List.mem_singleton.1 hy]; exact hu) (by unfold maxLen; omega) (by
    have : (n + 1) * bytes ≤ 1073741824 * 24 := Nat.mul_le_mul (by omega) hby
    omega) (by simp; omega)
  unfold Oper.wp execOp
  simp only [ho, resolve, invoke, builtin, Sem.run_bind, Sem.run_pure, Result.andThen_ok, List.map_toArray, List.map_cons, List.map_nil, hs, hx, hrun]
  refine k v' w' h2 (only_trans (only_alloc (only_refl W _) _) h3) (h5.imp id (fun h => ⟨_, h, by simp⟩)) ?_
  exact ((Below.refl B W).alloc hB _).grown h3 (by simp; omega) (fun j e => (World.ownsRow.lt h j e).1)
end Go.Proofs.YtoofbflplhbpbaaGreatDoor
