/- The shelf's contracts for a Builder's WriteByte and WriteString, laid at this program by hand (the one command leaves them out where a type's number is named by no body). -/
import Derived.Shelf.Lay
import Derived.Shelf.Strings.BuilderK
import Derived.Test.YtoofbflplhbpbaaGreatDoorProg
namespace Go.Proofs
open Go.Shelf
def Tryz.bld_ren : Go.Shelf.Ren := ⟨fun | 166 => 31 | 167 => 30 | 240 => 70 | 276 => 125 | 169 => 34 | n => n, fun | 0 => 0 | 3 => 3 | 4 => 4 | 5 => 5 | 9 => 9 | 20 => 20 | 37 => 55 | 70 => 68 | 72 => 70 | 75 => 72 | 80 => 78 | 164 => 190 | 127 => 128 | n => n, fun | n => n⟩
theorem Tryz.bld166 : Go.Proofs.Lays.n166 Tryz.prog Tryz.bld_ren := {
  mixed := by kernel_rfl
  f166 := Tryz.func31.trans (congrArg some (by kernel_rfl))
  f240 := Tryz.func70.trans (congrArg some (by kernel_rfl))
  f276 := Tryz.func125.trans (congrArg some (by kernel_rfl))
  t0 := Tryz.underlying0
  a0 := Tryz.isAgg0
  z0 := Tryz.sizeOf0
  v0 := Tryz.zeroValue0
  t3 := Tryz.underlying3
  a3 := Tryz.isAgg3
  z3 := Tryz.sizeOf3
  v3 := Tryz.zeroValue3
  t4 := Tryz.underlying4
  a4 := Tryz.isAgg4
  z4 := Tryz.sizeOf4
  v4 := Tryz.zeroValue4
  t9 := Tryz.underlying9
  a9 := Tryz.isAgg9
  z9 := Tryz.sizeOf9
  v9 := Tryz.zeroValue9
  t20 := Tryz.underlying20
  a20 := Tryz.isAgg20
  z20 := Tryz.sizeOf20
  v20 := Tryz.zeroValue20
  t37 := Tryz.underlying55
  a37 := Tryz.isAgg55
  z37 := Tryz.sizeOf55
  v37 := Tryz.zeroValue55
  t70 := Tryz.underlying68
  a70 := Tryz.isAgg68
  z70 := Tryz.sizeOf68
  v70 := Tryz.zeroValue68
  t72 := Tryz.underlying70
  a72 := Tryz.isAgg70
  z72 := Tryz.sizeOf70
  v72 := Tryz.zeroValue70
  t75 := Tryz.underlying72
  a75 := Tryz.isAgg72
  z75 := Tryz.sizeOf72
  v75 := Tryz.zeroValue72
  t164 := Tryz.underlying190
  a164 := Tryz.isAgg190
  z164 := Tryz.sizeOf190
  v164 := Tryz.zeroValue190 }
theorem Tryz.bld167 : Go.Proofs.Lays.n167 Tryz.prog Tryz.bld_ren := {
  mixed := by kernel_rfl
  f167 := Tryz.func30.trans (congrArg some (by kernel_rfl))
  f240 := Tryz.func70.trans (congrArg some (by kernel_rfl))
  f276 := Tryz.func125.trans (congrArg some (by kernel_rfl))
  t0 := Tryz.underlying0
  a0 := Tryz.isAgg0
  z0 := Tryz.sizeOf0
  v0 := Tryz.zeroValue0
  t4 := Tryz.underlying4
  a4 := Tryz.isAgg4
  z4 := Tryz.sizeOf4
  v4 := Tryz.zeroValue4
  t5 := Tryz.underlying5
  a5 := Tryz.isAgg5
  z5 := Tryz.sizeOf5
  v5 := Tryz.zeroValue5
  t9 := Tryz.underlying9
  a9 := Tryz.isAgg9
  z9 := Tryz.sizeOf9
  v9 := Tryz.zeroValue9
  t20 := Tryz.underlying20
  a20 := Tryz.isAgg20
  z20 := Tryz.sizeOf20
  v20 := Tryz.zeroValue20
  t37 := Tryz.underlying55
  a37 := Tryz.isAgg55
  z37 := Tryz.sizeOf55
  v37 := Tryz.zeroValue55
  t70 := Tryz.underlying68
  a70 := Tryz.isAgg68
  z70 := Tryz.sizeOf68
  v70 := Tryz.zeroValue68
  t72 := Tryz.underlying70
  a72 := Tryz.isAgg70
  z72 := Tryz.sizeOf70
  v72 := Tryz.zeroValue70
  t75 := Tryz.underlying72
  a75 := Tryz.isAgg72
  z75 := Tryz.sizeOf72
  v75 := Tryz.zeroValue72
  t164 := Tryz.underlying190
  a164 := Tryz.isAgg190
  z164 := Tryz.sizeOf190
  v164 := Tryz.zeroValue190 }
theorem Tryz.bld240 : Go.Proofs.Lays.n240 Tryz.prog Tryz.bld_ren := {
  mixed := by kernel_rfl
  f240 := Tryz.func70.trans (congrArg some (by kernel_rfl))
  f276 := Tryz.func125.trans (congrArg some (by kernel_rfl))
  t0 := Tryz.underlying0
  a0 := Tryz.isAgg0
  z0 := Tryz.sizeOf0
  v0 := Tryz.zeroValue0
  t4 := Tryz.underlying4
  a4 := Tryz.isAgg4
  z4 := Tryz.sizeOf4
  v4 := Tryz.zeroValue4
  t9 := Tryz.underlying9
  a9 := Tryz.isAgg9
  z9 := Tryz.sizeOf9
  v9 := Tryz.zeroValue9
  t20 := Tryz.underlying20
  a20 := Tryz.isAgg20
  z20 := Tryz.sizeOf20
  v20 := Tryz.zeroValue20
  t70 := Tryz.underlying68
  a70 := Tryz.isAgg68
  z70 := Tryz.sizeOf68
  v70 := Tryz.zeroValue68
  t72 := Tryz.underlying70
  a72 := Tryz.isAgg70
  z72 := Tryz.sizeOf70
  v72 := Tryz.zeroValue70
  t164 := Tryz.underlying190
  a164 := Tryz.isAgg190
  z164 := Tryz.sizeOf190
  v164 := Tryz.zeroValue190 }
theorem Tryz.bld169 : Go.Proofs.Lays.n169 Tryz.prog Tryz.bld_ren := {
  mixed := by kernel_rfl
  f169 := Tryz.func34.trans (congrArg some (by kernel_rfl))
  t0 := Tryz.underlying0
  a0 := Tryz.isAgg0
  z0 := Tryz.sizeOf0
  v0 := Tryz.zeroValue0
  t3 := Tryz.underlying3
  a3 := Tryz.isAgg3
  z3 := Tryz.sizeOf3
  v3 := Tryz.zeroValue3
  t9 := Tryz.underlying9
  a9 := Tryz.isAgg9
  z9 := Tryz.sizeOf9
  v9 := Tryz.zeroValue9
  t37 := Tryz.underlying55
  a37 := Tryz.isAgg55
  z37 := Tryz.sizeOf55
  v37 := Tryz.zeroValue55
  t70 := Tryz.underlying68
  a70 := Tryz.isAgg68
  z70 := Tryz.sizeOf68
  v70 := Tryz.zeroValue68
  t72 := Tryz.underlying70
  a72 := Tryz.isAgg70
  z72 := Tryz.sizeOf70
  v72 := Tryz.zeroValue70
  t127 := Tryz.underlying128
  a127 := Tryz.isAgg128
  z127 := Tryz.sizeOf128
  v127 := Tryz.zeroValue128 }
theorem Tryz.bldX : Builder.Extra Tryz.prog Tryz.bld_ren := {
  sizeBuilder := by kernel_rfl
  liesBuilder := by kernel_rfl
  t5 := Tryz.underlying5
  a5 := Tryz.isAgg5
  z5 := Tryz.sizeOf5
  v5 := Tryz.zeroValue5
  infoByte := by kernel_rfl
  cellsByte := by kernel_rfl
  sizeByte := by kernel_rfl
  neB5 := by decide }
end Go.Proofs
namespace Go.Proofs.YtoofbflplhbpbaaGreatDoor
open Go.RowKit

/-- the Builder at block b (B is at most b) holds the bytes l -/
def Bld (B b : Nat) (l : List UInt8) (w : World) : Prop := Lib.IsBuilderF 70 5 B b (Lib.byteCells l) w

theorem Bld.fresh (w : World) : Bld w.heap.size w.heap.size [] (w.alloc (.cells #[.pointer none, .slice none 0 0] 70)) :=
  Lib.IsBuilderF.of (Lib.fresh_isBuilder _ _ w)

theorem bytes_str (s : ByteArray) : Lib.strCells s = Lib.byteCells s.data.toList := by
  rfl
theorem bytes_app (a b : List UInt8) : Lib.byteCells (a ++ b) = Lib.byteCells a ++ Lib.byteCells b := by
  simp [Lib.byteCells]


theorem builderAt_kept {T e B b g : Nat} {q : Value} {bs : List Value} {w w' : World} (h : Lib.BuilderAtF T e B b q bs w) (hg : w.grownBy w' (some g)) (h1 : b ≠ g) (h2 : ∀ v, w.ownsRowF B e 1 v bs.length bs → v.ownBlock ≠ some g) : Lib.BuilderAtF T e B b q bs w' := by
  obtain ⟨hB, v, hb, hown, hne⟩ := h
  have hlt : b < w.heap.size := (Array.getElem?_eq_some_iff.1 hb).1
  exact ⟨hB, v, (hg.block b hlt (by simpa using h1)).trans hb, hown.kept hg (.inr (h2 v hown)), hne⟩
/-- a block below the Builder's has turned -/
theorem Bld.kept_lt {B b g : Nat} {l : List UInt8} {w w' : World} (h : Bld B b l w) (hg : w.grownBy w' (some g)) (hlt : g < B) : Bld B b l w' := by
  have key : ∀ v, w.ownsRowF B 5 1 v (Lib.byteCells l).length (Lib.byteCells l) → v.ownBlock ≠ some g := fun v hv e => by have := (hv.lt g e).1; omega
  have hb : ∀ {T e q bs}, Lib.BuilderAtF T e B b q bs w → b ≠ g := fun h => by have := h.1; omega
  exact h.imp (fun x => builderAt_kept x hg (hb x) key) (fun x => builderAt_kept x hg (hb x) key)
/-- a block of another type has turned -/
theorem Bld.kept_ty {B b g : Nat} {l : List UInt8} {w w' : World} (h : Bld B b l w) (hg : w.grownBy w' (some g)) (hty : ∀ c t fz, w.heap[g]? = some (.cells c t fz) → t ≠ 70 ∧ t ≠ 5) : Bld B b l w' := by
  have key : ∀ v, w.ownsRowF B 5 1 v (Lib.byteCells l).length (Lib.byteCells l) → v.ownBlock ≠ some g := fun v hv e => by
    obtain ⟨c, fz, hc⟩ := Lib.ownsRowF_kind hv g e
    exact (hty _ _ _ hc).2 rfl
  have hb : ∀ {q bs}, Lib.BuilderAtF 70 5 B b q bs w → b ≠ g := fun h e => by
    obtain ⟨_, v, hb, _⟩ := h
    subst e
    exact (hty _ _ _ hb).1 rfl
  exact h.imp (fun x => builderAt_kept x hg (hb x) key) (fun x => builderAt_kept x hg (hb x) key)
/-- what stood has stayed -/
theorem Bld.below {B b : Nat} {l : List UInt8} {w w' : World} (h : Bld B b l w) (hb : Below w.heap.size w w') : Bld B b l w' := by
  have hg : w.grownBy w' (some w.heap.size) := ⟨hb.os, hb.tape, hb.output, hb.size, fun i hi _ => hb.block i hi⟩
  have hlt : ∀ {T e q bs}, Lib.BuilderAtF T e B b q bs w → b ≠ w.heap.size := fun h => by
    obtain ⟨_, v, hb, _⟩ := h
    have := (Array.getElem?_eq_some_iff.1 hb).1
    omega
  have key : ∀ v, w.ownsRowF B 5 1 v (Lib.byteCells l).length (Lib.byteCells l) → v.ownBlock ≠ some w.heap.size := fun v hv e => by have := (hv.lt _ e).2; omega
  exact h.imp (fun x => builderAt_kept x hg (hlt x) key) (fun x => builderAt_kept x hg (hlt x) key)
theorem Bld.alloc {B b : Nat} {l : List UInt8} {w : World} (h : Bld B b l w) (o : Obj) : Bld B b l (w.alloc o) := Lib.IsBuilderF.alloc h o
theorem Bld.le {B b : Nat} {l : List UInt8} {w : World} (h : Bld B b l w) : B ≤ b := h.elim (fun x => x.1) (fun x => x.1)
theorem grownBy_set (w : World) (p : Addr) (v : Value) : w.grownBy (w.setCell p v) (some p.block) :=
  ⟨rfl, rfl, rfl, by simp [World.setCell], fun k _ hne => Below.heap_setCell w p v k (fun e => hne (by rw [e]))⟩

/-- b.WriteByte(c) -/
theorem bld_byte (B b : Nat) (l : List UInt8) (c : Int) (w : World) (h : Bld B b l w) (h0 : 0 ≤ c) (h1 : c < 256) (hlen : l.length < 1073741824) (hB : B ≤ w.heap.size) :
    Calls Tryz.prog 30 #[.pointer (some ⟨b, 0, none⟩), .int .u8 c] w fun e w' => e = .returned .nilIface ∧ Bld B b (l ++ [c.toNat.toUInt8]) w' ∧ Below B w w' ∧ Lib.OthersKept 5 (some b) w w' := by
  refine (Any.Builder_WriteByte_k Tryz.bld167 Tryz.bldX B b _ c w h (by rw [Lib.byteCells_length]; omega) hB).mono fun e w' ⟨he, hb, h2, h3⟩ => ⟨he, ?_, h2, h3⟩
  unfold Bld
  rw [bytes_app]
  have e : Lib.byteCells [c.toNat.toUInt8] = [.int .u8 c] := by
    have : c.toNat % 256 = c.toNat := Nat.mod_eq_of_lt (by omega)
    simp [Lib.byteCells, this, Int.toNat_of_nonneg h0]
  rw [e]
  exact .inr hb
/-- b.WriteString(s) -/
theorem bld_str (B b : Nat) (l : List UInt8) (s : ByteArray) (w : World) (h : Bld B b l w) (hs : s.size < 1073741824) (hlen : l.length < 1073741824) (hB : B ≤ w.heap.size) :
    Calls Tryz.prog 31 #[.pointer (some ⟨b, 0, none⟩), .string s] w fun e w' => e = .returned (.tuple #[.int .i64 s.size, .nilIface]) ∧ Bld B b (l ++ s.data.toList) w' ∧ Below B w w' ∧ Lib.OthersKept 5 (some b) w w' := by
  refine (Any.Builder_WriteString_k Tryz.bld166 Tryz.bldX B b _ s w h (by rw [Lib.byteCells_length]; omega) hB).mono fun e w' ⟨he, hb, h2, h3⟩ => ⟨he, ?_, h2, h3⟩
  unfold Bld
  rw [bytes_app, ← bytes_str]
  exact .inr hb
/-- b.String() -/
theorem bld_string (B b : Nat) (l : List UInt8) (w : World) (h : Bld B b l w) (hB : B ≤ w.heap.size) :
    Calls Tryz.prog 34 #[.pointer (some ⟨b, 0, none⟩)] w fun e w' => e = .returned (.string ⟨l.toArray⟩) ∧ Bld B b l w' ∧ Below B w w' ∧ Lib.OthersKept 5 (some b) w w' :=
  Any.Builder_String_any_k Tryz.bld169 Tryz.bldX B b l w h hB
end Go.Proofs.YtoofbflplhbpbaaGreatDoor
