/- Layer 5 (number): what the calls read of the library's variables; the library's contracts in the form that the walks ask for. -/
import Derived.Test.YtoofbflplhbpbaaGreatDoorRows
import Derived.Test.YtoofbflplhbpbaaGreatDoorShelf
import Derived.Test.YtoofbflplhbpbaaGreatDoorNumGuess
import Derived.WalkKit
import Derived.WalkSpells
import Derived.WalkLawsBesides
import Derived.Lib.Hide
import Derived.IntWalk
import Derived.Deep.LoopGhost
import Derived.Deep.Cut
import Derived.OwnWalk
import Derived.Lib.SmallJoins
import Derived.Laws.Bits64b
import Derived.Outline
namespace Go.Proofs.YtoofbflplhbpbaaGreatDoor
open Go.RowKit

/-- the library's variables, as their initialisers lay them -/
structure Laid (W : World) : Prop where
  pow : Lib.TabIs Tryz.prog W "internal/strconv.uint64pow10" .u64 Lib.pow10Tab
  bru : ∃ cs, W.var? Tryz.prog "math/bits.deBruijn64tab" = some cs ∧ ∀ j, j < 64 → cs[j]? = some (.int .u8 (Lib.deBruijn64tab.getD j 0))
  syn : ∃ tp p, W.var? Tryz.prog "strconv.ErrSyntax" = some #[.iface tp p]
  rng : ∃ tp p, W.var? Tryz.prog "strconv.ErrRange" = some #[.iface tp p]
  max : ∃ m, W.cell? ⟨1, 0, none⟩ = some (.int .i64 m)
theorem gBru : Tryz.prog.globalNamed "math/bits.deBruijn64tab" = some 0 := by kernel_rfl
theorem gPow : Tryz.prog.globalNamed "internal/strconv.uint64pow10" = some 2 := by kernel_rfl
theorem gSyn : Tryz.prog.globalNamed "strconv.ErrSyntax" = some 5 := by kernel_rfl
theorem gRng : Tryz.prog.globalNamed "strconv.ErrRange" = some 6 := by kernel_rfl
theorem cell_lt' {w : World} {a : Addr} {v : Value} (h : w.cell? a = some v) : a.block < w.heap.size := by
  rcases Nat.lt_or_ge a.block w.heap.size with h0 | h0
  · exact h0
  · unfold World.cell? at h
    simp [Array.getElem?_eq_none h0] at h
theorem Laid.below {W W' : World} (h : Laid W) (hb : Below W.heap.size W W') : Laid W' := by
  obtain ⟨cs, h1, h2⟩ := h.bru
  obtain ⟨t1, p1, e1⟩ := h.syn
  obtain ⟨t2, p2, e2⟩ := h.rng
  obtain ⟨m, hm⟩ := h.max
  exact ⟨Joins.tab_stays gPow h.pow hb (Nat.le_refl _), ⟨cs, Joins.var_stays gBru h1 hb (Nat.le_refl _), h2⟩, ⟨t1, p1, Joins.var_stays gSyn e1 hb (Nat.le_refl _)⟩, ⟨t2, p2, Joins.var_stays gRng e2 hb (Nat.le_refl _)⟩, ⟨m, (hb.cell (cell_lt' hm)).trans hm⟩⟩
theorem below_grow {W : World} (k : Nat) (os : Array Obj) : Below W.heap.size W (Sort.grow (W.drewN k) os) := by
  refine ⟨rfl, rfl, rfl, ?_, fun j hj => ?_⟩
  · simp [Sort.grow, World.drewN]
  · simp [Sort.grow, World.drewN, Array.getElem?_append_left hj]

theorem size_list (l : List UInt8) : (⟨l.toArray⟩ : ByteArray).size = l.length := by simp [ByteArray.size]
theorem size_data (s : ByteArray) : s.size = s.data.toList.length := Lib.size_eq s

/-- strconv.FormatInt(n, 10) -/
theorem formatInt_any (n : Int) (w : World) (h0 : -9223372036854775808 ≤ n) (h1 : n ≤ 9223372036854775807) (hL : Laid w) :
    Calls Tryz.prog 81 #[.int .i64 n, .int .i64 10] w fun e w' => e = .returned (.string ⟨(Lib.itoa n).toArray⟩) ∧ Below w.heap.size w w' :=
  (Tryz.strconv_FormatInt_10 n h0 h1 w hL.pow).mono fun e w' ⟨he, k, os, hw⟩ => ⟨he, by rw [hw]; exact below_grow k os⟩
theorem itoa_any (n : Int) (w : World) (h0 : -9223372036854775808 ≤ n) (h1 : n ≤ 9223372036854775807) (hL : Laid w) :
    Calls Tryz.prog 129 #[.int .i64 n] w fun e w' => e = .returned (.string ⟨(Lib.itoa n).toArray⟩) ∧ Below w.heap.size w w' :=
  (Tryz.strconv_Itoa n h0 h1 w hL.pow).mono fun e w' ⟨he, k, os, hw⟩ => ⟨he, by rw [hw]; exact below_grow k os⟩
theorem below_bytesWorld {w w' : World} {T : TypeId} (h : w' = w ∨ ∃ t, w' = Lib.bytesWorld w T t) : Below w.heap.size w w' := by
  rcases h with rfl | ⟨t, rfl⟩
  · exact Below.refl _ _
  · exact Lib.bytesWorld_below _ _ _
end Go.Proofs.YtoofbflplhbpbaaGreatDoor
