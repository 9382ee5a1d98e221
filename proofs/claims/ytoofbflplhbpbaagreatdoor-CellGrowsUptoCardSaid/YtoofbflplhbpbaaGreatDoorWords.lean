/- General words for memory: slices that read as lists, blocks known whole, frames; what the model's decoding of a text says of ASCII bytes. -/
import Derived.Test.YtoofbflplhbpbaaGreatDoorRows
import Derived.WalkKit
import Derived.WalkSpells
import Derived.WalkLawsBesides
import Derived.Deep.QuietTactic
import Derived.BigQuiet
import Derived.Lib.Hide
import Derived.Deep.AppendLies
import Derived.Deep.Draws
import Derived.Maps.AppendAt
import Derived.RegionTactic
import Derived.OwnWalk
import Derived.Laws.RangeAny
import Derived.Lib.IndexAny
import Derived.Lib.OthersKept
import Derived.IntWalk
import Derived.Deep.Cut
import Derived.Deep.LoopGhost
import Derived.StillTailTactics
import Derived.Deep.RegionWith
import Derived.Deep.RegionHeld3
namespace Go.Proofs.YtoofbflplhbpbaaGreatDoor
open Go.RowKit

theorem undef_nil (b : Bool) : (some undef = some (Value.bool b)) = False := by simp [undef]
theorem block_of_add (a : Addr) (n : Nat) : (a.add n).block = a.block := by unfold Addr.add; split <;> rfl
theorem add_of_add (a : Addr) (i j : Nat) : (a.add i).add j = a.add (i + j) := by
  unfold Addr.add
  by_cases hi : i = 0 <;> by_cases hj : j = 0 <;> simp [hi, hj, Nat.add_assoc]

/-- the slice value '.slice A n c' (of elements of 'size' cells) holds the cells xs, and lies below block B -/
def Reads (w : World) (B size : Nat) (A : Option Addr) (n : Nat) (xs : List Value) : Prop :=
  xs.length = n * size ∧ (0 < n → ∃ b off, A = some ⟨b, off, none⟩ ∧ b < B ∧ ∀ j u, xs[j]? = some u → w.cell? ⟨b, off + j, none⟩ = some u)

section
variable {w w' : World} {B B' size n : Nat} {A : Option Addr} {xs : List Value}
theorem Reads.none_ : Reads w B size A 0 [] := ⟨by simp, fun h => absurd h (by omega)⟩
theorem Reads.at_ {k : Nat} (h : Reads w B 1 A n xs) (hk : k < n) : ∃ b off u, A = some ⟨b, off, none⟩ ∧ b < B ∧ xs[k]? = some u ∧ w.cell? ⟨b, off + k, none⟩ = some u := by
  obtain ⟨b, off, e, hb, hc⟩ := h.2 (by omega)
  have hl : k < xs.length := by have := h.1; omega
  exact ⟨b, off, xs[k], e, hb, List.getElem?_eq_getElem hl, hc k _ (List.getElem?_eq_getElem hl)⟩
theorem Reads.keep (h : Reads w B size A n xs) (hk : ∀ p : Addr, p.block < B → w'.cell? p = w.cell? p) : Reads w' B size A n xs :=
  ⟨h.1, fun hn => by
    obtain ⟨b, off, e, hb, hc⟩ := h.2 hn
    exact ⟨b, off, e, hb, fun j u hu => (hk _ hb).trans (hc j u hu)⟩⟩
theorem Reads.more (h : Reads w B size A n xs) (hB : B ≤ B') : Reads w B' size A n xs :=
  ⟨h.1, fun hn => by
    obtain ⟨b, off, e, hb, hc⟩ := h.2 hn
    exact ⟨b, off, e, by omega, hc⟩⟩
theorem Reads.below (h : Reads w B size A n xs) (hb : Below B w w') : Reads w' B size A n xs := h.keep fun _ hp => hb.cell hp
theorem Reads.of_own {base : Nat} {e : TypeId} {c : Nat} (h : w.ownsRow base e size (.slice A n c) n xs) : Reads w w.heap.size size A n xs := by
  refine ⟨h.1, fun hn => ?_⟩
  obtain ⟨g, cap, hv, _, hlt⟩ := h.form hn
  have hA : A = some ⟨g, 0, none⟩ := by injection hv
  subst hA
  refine ⟨g, 0, rfl, hlt, fun j u hu => ?_⟩
  have := h.cells (g := g) rfl j u hu
  have e : (⟨g, 0, none⟩ : Addr).add j = ⟨g, 0 + j, none⟩ := by unfold Addr.add; split <;> simp_all
  rwa [e] at this
end

/-- block g is just the cells cs of element type t, none frozen -/
def Blk (w : World) (g : Nat) (t : TypeId) (cs : Array Value) : Prop := w.heap[g]? = some (.cells cs t (0, 0))

section
variable {w w' : World} {g : Nat} {t : TypeId} {cs : Array Value}
theorem Blk.lt (h : Blk w g t cs) : g < w.heap.size := by
  rcases Nat.lt_or_ge g w.heap.size with hlt | hge
  · exact hlt
  · unfold Blk at h; rw [Array.getElem?_eq_none hge] at h; cases h
theorem Blk.cell (h : Blk w g t cs) (i : Nat) : w.cell? ⟨g, i, none⟩ = cs[i]? := cell_of_row w g i cs t (0, 0) h
theorem Blk.frozen (h : Blk w g t cs) (i : Nat) : w.frozen? ⟨g, i, none⟩ = false := by
  unfold Blk at h
  simp [World.frozen?, h]
theorem Blk.new (w : World) (t : TypeId) (cs : Array Value) : Blk (w.alloc (.cells cs t)) w.heap.size t cs := heap_alloc_new w _
theorem Blk.alloc (h : Blk w g t cs) (o : Obj) : Blk (w.alloc o) g t cs := (Below.heap_alloc w o g h.lt).trans h
theorem Blk.set_ (h : Blk w g t cs) (i : Nat) (u : Value) : Blk (w.setCell ⟨g, i, none⟩ u) g t (cs.setIfInBounds i u) := by
  unfold Blk at h ⊢
  simp [World.setCell, Array.getElem?_modify, h]
theorem Blk.far (h : Blk w g t cs) {p : Addr} (hp : g ≠ p.block) (u : Value) : Blk (w.setCell p u) g t cs := (Below.heap_setCell w p u g hp).trans h
theorem Blk.below {B : Nat} (h : Blk w g t cs) (hb : Below B w w') (hg : g < B) : Blk w' g t cs := (hb.block g hg).trans h
theorem Blk.grown {row : Option Nat} (h : Blk w g t cs) (hb : w.grownBy w' row) (hg : some g ≠ row) : Blk w' g t cs := (hb.block g h.lt hg).trans h
theorem Blk.ne_ {g' : Nat} {t' : TypeId} {cs' : Array Value} (h : Blk w g t cs) (h' : Blk w g' t' cs') (hne : t ≠ t') : g ≠ g' := by
  rintro rfl
  unfold Blk at h h'
  rw [h] at h'
  injection h' with h'
  injection h' with _ ht
  exact hne ht
theorem own_blk_ne {base : Nat} {e : TypeId} {size n : Nat} {v : Value} {xs : List Value} (h : w.ownsRow base e size v n xs) (hg : Blk w g t cs) (hne : e ≠ t) : v.ownBlock ≠ some g := by
  rcases h.2 with ⟨rfl, _⟩ | ⟨g', cap, cur, rfl, _, hh, _⟩
  · simp [Value.ownBlock]
  · intro he
    have : g' = g := by simpa [Value.ownBlock] using he
    subst this
    exact Blk.ne_ (t := e) hh hg hne rfl
end

theorem quiet_add_same {P : Program} {f : FuncId} {args : Array Value} {w : World} {a n : Nat} {v : Value}
    (h : Calls P f args (w.drewN (a + n)) fun e w' => e = .returned v ∧ w' = w.drewN (a + n)) :
    Calls P f args (w.drewN (a + n)) fun e w'' => e = .returned v ∧ ∃ m, w'' = w.drewN (a + m) :=
  h.mono fun _ _ ⟨he, hm⟩ => ⟨he, n, hm⟩

theorem own_form {w : World} {base e size n : Nat} {v : Value} {xs : List Value} (h : w.ownsRow base e size v n xs) : ∃ A c, v = .slice A n c := by
  rcases h.2 with ⟨rfl, rfl⟩ | ⟨g, cap, cur, rfl, _⟩
  · exact ⟨_, _, rfl⟩
  · exact ⟨_, _, rfl⟩

theorem own_blocks {w : World} {base e size n : Nat} {v : Value} {xs : List Value} (h : w.ownsRow base e size v n xs) : ∀ i, v.ownBlock = some i → base ≤ i ∧ ∃ c, w.heap[i]? = some (.cells c e (0, 0)) := fun i he => by
  refine ⟨(h.lt i he).1, ?_⟩
  rcases h.2 with ⟨hv, _⟩ | ⟨g, cap, cur, hv, _, hh, _⟩
  · rw [hv] at he; simp [Value.ownBlock] at he
  · rw [hv] at he
    simp [Value.ownBlock] at he
    subst he
    exact ⟨_, hh⟩
/-- a block of another type has turned -/
theorem own_kept_ty {w w' : World} {base e size n : Nat} {row : Option Nat} {v : Value} {xs : List Value} (h : w.ownsRow base e size v n xs) (hg : w.grownBy w' row) (hty : ∀ g c t fz, row = some g → w.heap[g]? = some (.cells c t fz) → t ≠ e) : w'.ownsRow base e size v n xs := by
  refine h.kept hg ?_
  cases hv : v.ownBlock with
  | none => exact .inl rfl
  | some i =>
    refine .inr (fun hr => ?_)
    obtain ⟨_, c, hc⟩ := own_blocks h i hv
    exact hty i c e _ hr.symm hc rfl
theorem own_base {w : World} {base base' e size n : Nat} {v : Value} {xs : List Value} (h : w.ownsRow base e size v n xs) (hb : base' ≤ base) : w.ownsRow base' e size v n xs := by
  refine ⟨h.1, ?_⟩
  rcases h.2 with hn | ⟨g, cap, cur, rfl, hg, rest⟩
  · exact .inl hn
  · exact .inr ⟨g, cap, cur, rfl, by omega, rest⟩

/-! Frames: only block g, and what is new, has turned ('a.grownBy w (some g)') -/
theorem below_drewN {B : Nat} {a w : World} (h : Below B a w) (n : Nat) : Below B a (w.drewN n) := ⟨h.os, h.tape, h.output, h.size, h.block⟩
theorem only_refl (w : World) (row : Option Nat) : w.grownBy w row := World.grownBy.refl w _
theorem only_trans {a b c : World} {row : Option Nat} (h : a.grownBy b row) (k : b.grownBy c row) : a.grownBy c row :=
  ⟨k.os.trans h.os, k.tape.trans h.tape, k.output.trans h.output, Nat.le_trans h.size k.size, fun i hi hne => (k.block i (Nat.lt_of_lt_of_le hi h.size) hne).trans (h.block i hi hne)⟩
theorem only_drewN {a w : World} {row : Option Nat} (h : a.grownBy w row) (n : Nat) : a.grownBy (w.drewN n) row := ⟨h.os, h.tape, h.output, h.size, h.block⟩
theorem only_drew {a w : World} {row : Option Nat} (h : a.grownBy w row) : a.grownBy w.drew row := ⟨h.os, h.tape, h.output, h.size, h.block⟩
theorem only_alloc {a w : World} {row : Option Nat} (h : a.grownBy w row) (o : Obj) : a.grownBy (w.alloc o) row :=
  ⟨h.os, h.tape, h.output, Nat.le_trans h.size (by simp), fun i hi hne => (Below.heap_alloc w o i (Nat.lt_of_lt_of_le hi h.size)).trans (h.block i hi hne)⟩
theorem only_setCell {a w : World} {g : Nat} (h : a.grownBy w (some g)) {p : Addr} (hp : p.block = g ∨ a.heap.size ≤ p.block) (u : Value) : a.grownBy (w.setCell p u) (some g) :=
  ⟨h.os, h.tape, h.output, by simpa [World.setCell] using h.size, fun i hi hne => (Below.heap_setCell w p u i (by
    rintro rfl
    rcases hp with hp | hp
    · exact hne (by rw [hp])
    · omega)).trans (h.block i hi hne)⟩
theorem only_of_below {a w : World} (h : Below a.heap.size a w) (row : Option Nat) : a.grownBy w row := ⟨h.os, h.tape, h.output, h.size, fun i hi _ => h.block i hi⟩
/-- what is below B stands, and B is at most the heap's size as the call began -/
theorem only_below {a b w : World} {row : Option Nat} (h : a.grownBy b row) (k : Below b.heap.size b w) : a.grownBy w row := only_trans h (only_of_below k row)
theorem below_of_only {a w : World} {g : Nat} (h : a.grownBy w (some g)) : Below g a w ∨ a.heap.size ≤ g → g ≤ a.heap.size → Below g a w := fun _ hg => ⟨h.os, h.tape, h.output, h.size, fun k hk => h.block k (by omega) (by simp; omega)⟩
theorem below_only {a b w : World} {B g : Nat} (h : Below B a b) (k : b.grownBy w (some g)) (hB : B ≤ g) (hb : B ≤ a.heap.size) : Below B a w :=
  ⟨k.os.trans h.os, k.tape.trans h.tape, k.output.trans h.output, Nat.le_trans h.size k.size, fun i hi => (k.block i (by have := h.size; omega) (by simp; omega)).trans (h.block i hi)⟩
/-- b turned, and what is new; then only what lies from B on, b below B, the old heap ending at B or ahead of it -/
theorem only_bel {a m w : World} {B g : Nat} (h : a.grownBy m (some g)) (k : Below B m w) (hB : a.heap.size ≤ B) : a.grownBy w (some g) :=
  ⟨k.os.trans h.os, k.tape.trans h.tape, k.output.trans h.output, Nat.le_trans h.size k.size, fun i hi hne => (k.block i (by omega)).trans (h.block i hi hne)⟩
/-- b turned, and what is new; then one block that is new -/
theorem only_new {a m w : World} {g : Nat} {row : Option Nat} (h : a.grownBy m (some g)) (k : m.grownBy w row) (hr : ∀ i, row = some i → a.heap.size ≤ i) : a.grownBy w (some g) :=
  ⟨k.os.trans h.os, k.tape.trans h.tape, k.output.trans h.output, Nat.le_trans h.size k.size, fun i hi hne => (k.block i (Nat.lt_of_lt_of_le hi h.size) (fun e => by have := hr i e.symm; omega)).trans (h.block i hi hne)⟩
theorem bcell {W w1 : World} (hb : Below W.heap.size W w1) : (∀ b o, b < W.heap.size → w1.cell? ⟨b, o, none⟩ = W.cell? ⟨b, o, none⟩) ∧ (∀ b o, b < W.heap.size → w1.frozen? ⟨b, o, none⟩ = W.frozen? ⟨b, o, none⟩) :=
  ⟨fun b o h => hb.cell (p := ⟨b, o, none⟩) h, fun b o h => hb.frozen (p := ⟨b, o, none⟩) h⟩

theorem ret_eq {a b : Value} (h : a = b) : Ending.returned a = Ending.returned b := by rw [h]
theorem int_eq {k : IntKind} {a b : Int} (h : a = b) : Value.int k a = Value.int k b := by rw [h]
theorem str_eq {a b : List UInt8} (h : a = b) : Value.string ⟨a.toArray⟩ = Value.string ⟨b.toArray⟩ := by rw [h]
theorem str_back (s : ByteArray) : Value.string ⟨s.data.toList.toArray⟩ = Value.string s := rfl

/-! What the decoding of a text says of bytes that are not ASCII -/
theorem get_at (s : ByteArray) (i : Nat) (h : i < s.size) : s.get! i = s[i]'h := by
  simp [ByteArray.get!, getElem!_pos, h]
  rfl
theorem get_list (s : ByteArray) (i : Nat) (h : i < s.size) : s.data.toList[i]? = some (s[i]'h) := Lib.data_getElem? s i h

/-- at a byte that is not ASCII: the rune is none of ASCII's, a valid one; it takes 1 to 4 bytes of the text, none of them ASCII -/
theorem decode_high (s : ByteArray) (i : Nat) (h : i < s.size) (hc : 128 ≤ (s[i]'h).toNat) :
    128 ≤ (Utf8.decode s i).1 ∧ (Utf8.decode s i).1 ≤ 1114111 ∧ Utf8.valid (((Utf8.decode s i).1 : Nat) : Int) = true ∧ 1 ≤ (Utf8.decode s i).2 ∧ i + (Utf8.decode s i).2 ≤ s.size ∧
    ∀ j, i ≤ j → j < i + (Utf8.decode s i).2 → 128 ≤ (s.get! j).toNat := by
  have e0 : 128 ≤ (s.get! (i + 0)).toNat := by rw [Nat.add_zero, get_at s i h]; exact hc
  have hv : Utf8.valid ((65533 : Nat) : Int) = true := by decide
  have e00 : (s.get! (i + 0)).toNat = (s.get! i).toNat := rfl
  have one : ∀ j, i ≤ j → j < i + 1 → 128 ≤ (s.get! j).toNat := fun j h1 h2 => by obtain rfl : j = i := by omega
                                                                                  simpa using e0
  unfold Utf8.decode
  simp only [Utf8.runeError]
  rw [if_neg (by omega)]
  split
  · rename_i h2
    simp only [Bool.and_eq_true, beq_iff_eq, decide_eq_true_eq] at h2
    obtain ⟨a1, a2, a3⟩ := h2
    split
    · refine ⟨by simp; omega, by simp; omega, ?_, by simp, by simp; omega, fun j h1 h2 => ?_⟩
      · simp [Utf8.valid]; omega
      · have : j = i + 0 ∨ j = i + 1 := by simp at h2; omega
        rcases this with rfl | rfl <;> omega
    · exact ⟨by simp, by simp, hv, by simp, by simp; omega, one⟩
  · split
    · rename_i h2
      simp only [Bool.and_eq_true, beq_iff_eq, decide_eq_true_eq] at h2
      obtain ⟨⟨a1, a2, a3⟩, a4, a5⟩ := h2
      split
      · rename_i hv2
        simp only [ge_iff_le, Bool.and_eq_true, decide_eq_true_eq] at hv2
        refine ⟨by simp; omega, by simp; omega, hv2.2, by simp, by simp; omega, fun j h1 h2 => ?_⟩
        have : j = i + 0 ∨ j = i + 1 ∨ j = i + 2 := by simp at h2; omega
        rcases this with rfl | rfl | rfl <;> omega
      · exact ⟨by simp, by simp, hv, by simp, by simp; omega, one⟩
    · split
      · rename_i h2
        simp only [Bool.and_eq_true, beq_iff_eq, decide_eq_true_eq] at h2
        obtain ⟨⟨⟨a1, a2, a3⟩, a4, a5⟩, a6, a7⟩ := h2
        split
        · rename_i hv2
          simp only [ge_iff_le, Bool.and_eq_true, decide_eq_true_eq] at hv2
          have hm : (s.get! (i + 0)).toNat % 8 * 262144 + (s.get! (i + 1)).toNat % 64 * 4096 + (s.get! (i + 2)).toNat % 64 * 64 + (s.get! (i + 3)).toNat % 64 ≤ 1114111 := by
            have := hv2.2
            simp only [Utf8.valid, Bool.or_eq_true, Bool.and_eq_true, decide_eq_true_eq] at this
            omega
          refine ⟨by simp; omega, by simpa using hm, hv2.2, by simp, by simp; omega, fun j h1 h2 => ?_⟩
          have : j = i + 0 ∨ j = i + 1 ∨ j = i + 2 ∨ j = i + 3 := by simp at h2; omega
          rcases this with rfl | rfl | rfl | rfl <;> omega
        · exact ⟨by simp, by simp, hv, by simp, by simp; omega, one⟩
      · exact ⟨by simp, by simp, hv, by simp, by simp; omega, one⟩

/-- a rune that is not ASCII is written as 2 to 4 bytes, the last one not ASCII -/
theorem encode_high (r : Nat) (h : 128 ≤ r) : 2 ≤ (Utf8.encode (r : Int)).size ∧ (Utf8.encode (r : Int)).size ≤ 4 ∧ 128 ≤ ((Utf8.encode (r : Int)).get! ((Utf8.encode (r : Int)).size - 1)).toNat := by
  unfold Utf8.encode
  simp only [Utf8.runeError]
  split <;> (try rename_i hv)
  · simp only [Int.toNat_natCast]
    rw [if_neg (by omega)]
    split
    · exact ⟨(by show 2 ≤ 2; omega), (by show 2 ≤ 4; omega), (by show 128 ≤ (UInt8.ofNat (128 + r % 64)).toNat; simp; omega)⟩
    · split
      · exact ⟨(by show 2 ≤ 3; omega), (by show 3 ≤ 4; omega), (by show 128 ≤ (UInt8.ofNat (128 + r % 64)).toNat; simp; omega)⟩
      · exact ⟨(by show 2 ≤ 4; omega), (by show 4 ≤ 4; omega), (by show 128 ≤ (UInt8.ofNat (128 + r % 64)).toNat; simp; omega)⟩
  · decide
theorem indexByte_take (l : List UInt8) (c : UInt8) : (Lib.indexByte l c = -1 ∧ ∀ x ∈ l, x ≠ c) ∨ ∃ (n : Nat) (r : List UInt8), Lib.indexByte l c = (n : Int) ∧ l = l.take n ++ c :: r ∧ (∀ x ∈ l.take n, x ≠ c) ∧ n < l.length := by
  induction l with
  | nil => exact .inl ⟨rfl, fun x hx => by cases hx⟩
  | cons a l ih =>
    rw [Lib.indexByte]
    by_cases h : a = c
    · subst h
      exact .inr ⟨0, l, by simp, by simp, by simp, by simp⟩
    · have hb : (a == c) = false := by simpa using h
      rw [hb]
      rcases ih with ⟨h1, h2⟩ | ⟨n, r, h1, h2, h3, h4⟩
      · refine .inl ⟨by simp [h1], fun x hx => ?_⟩
        rcases List.mem_cons.1 hx with rfl | hx
        · exact h
        · exact h2 x hx
      · refine .inr ⟨n + 1, r, ?_, ?_, ?_, by simp; omega⟩
        · rw [h1, if_neg (by simp), if_neg (fun e => by have := beq_iff_eq.1 e; omega)]; simp
        · rw [List.take_succ_cons, List.cons_append, ← h2]
        · intro x hx
          rw [List.take_succ_cons] at hx
          rcases List.mem_cons.1 hx with rfl | hx
          · exact h
          · exact h3 x hx

end Go.Proofs.YtoofbflplhbpbaaGreatDoor
