/- A range over a function whose iterator keeps cells of its own (of one type T): one law for the caller, over an iterator's contract. -/
import Derived.RangeFuncNested
import Derived.RangeFuncBound
import Derived.RangeFuncCalls
import Derived.RangeFuncLeaves
import Derived.Shelf.Abstract
import Derived.Shelf.RegionOpen
import Derived.OwnWalkIn
import Derived.TacticsInMore
import Derived.LoopNIn
import Derived.LoopIn
import Derived.Test.YthnaiiejjdmnaaaDoorWords
namespace Go.Proofs.YthnaiiejjdmnaaaDoor
open Go.RowKit

/-- from block n₁ on, the records of loops and the cells of type T may have turned; all else that was there stands -/
structure Same1 (T : TypeId) (n₁ : Nat) (A B : World) : Prop where
  os : B.os = A.os
  tape : B.tape = A.tape
  output : B.output = A.output
  size : A.heap.size ≤ B.heap.size
  low : ∀ k, k < n₁ → k < A.heap.size → B.heap[k]? = A.heap[k]?
  block : ∀ (k : Nat) (o : Obj), A.heap[k]? = some o → (∀ r, o ≠ .loop r) → (∀ c fz, o ≠ .cells c T fz) → B.heap[k]? = some o

section
variable {T n₁ : Nat} {A B C : World}
theorem Same1.refl (T n₁ : Nat) (A : World) : Same1 T n₁ A A := ⟨rfl, rfl, rfl, Nat.le_refl _, fun _ _ _ => rfl, fun _ _ h _ _ => h⟩
theorem Same1.trans (h : Same1 T n₁ A B) (k : Same1 T n₁ B C) : Same1 T n₁ A C :=
  ⟨k.os.trans h.os, k.tape.trans h.tape, k.output.trans h.output, Nat.le_trans h.size k.size, fun i hi hA => (k.low i hi (Nat.lt_of_lt_of_le hA h.size)).trans (h.low i hi hA), fun i o ho h1 h2 => k.block i o (h.block i o ho h1 h2) h1 h2⟩
theorem Same1.of_below (h : Below A.heap.size A B) : Same1 T n₁ A B :=
  ⟨h.os, h.tape, h.output, h.size, fun k _ hk => h.block k hk, fun k o ho _ _ => (h.block k (Array.getElem?_eq_some_iff.1 ho).1).trans ho⟩
theorem Same1.alloc (h : Same1 T n₁ A B) (o : Obj) : Same1 T n₁ A (B.alloc o) := h.trans (.of_below ((Below.refl _ B).alloc (Nat.le_refl _) o))
theorem Same1.drewN (h : Same1 T n₁ A B) (n : Nat) : Same1 T n₁ A (B.drewN n) := ⟨h.os, h.tape, h.output, h.size, h.low, h.block⟩
theorem Same1.of_grown {g : Nat} {c : Array Value} {fz : Nat × Nat} (h : A.grownBy B (some g)) (hg : A.heap[g]? = some (.cells c T fz)) (hn : n₁ ≤ g) : Same1 T n₁ A B :=
  ⟨h.os, h.tape, h.output, h.size, fun k hk hA => h.block k hA (by simp; omega), fun k o ho _ h2 => (h.block k (Array.getElem?_eq_some_iff.1 ho).1 (fun e => by cases e; rw [hg] at ho; exact h2 c fz (Option.some.inj ho).symm)).trans ho⟩
theorem Same1.putObj {l : Nat} {r : Loop} (r' : Loop) (h : A.heap[l]? = some (.loop r)) (hn : n₁ ≤ l) : Same1 T n₁ A (A.putObj l (.loop r')) :=
  ⟨rfl, rfl, rfl, by simp [World.putObj], fun k hk _ => World.putObj_heap_other (by omega), fun k o ho h1 _ => by
    rw [World.putObj_heap_other (fun e => by subst e; rw [h] at ho; exact h1 r (Option.some.inj ho).symm)]
    exact ho⟩
theorem Same1.cell (h : Same1 T n₁ A B) {b : Nat} {c : Array Value} {t : TypeId} {fz : Nat × Nat} (hb : A.heap[b]? = some (.cells c t fz)) (ht : t ≠ T) : B.heap[b]? = some (.cells c t fz) :=
  h.block b _ hb (fun r e => by cases e) (fun c' fz' e => by cases e; exact ht rfl)
theorem Same1.below {m : Nat} (h : Same1 T n₁ A B) (hm : m ≤ n₁) (hA : m ≤ A.heap.size) : Below m A B := ⟨h.os, h.tape, h.output, h.size, fun k hk => h.low k (by omega) (by omega)⟩
theorem Same1.own (h : Same1 T n₁ A B) {base size n : Nat} {e : TypeId} {v : Value} {xs : List Value} (ho : A.ownsRow base e size v n xs) (ht : e ≠ T) : B.ownsRow base e size v n xs := by
  refine ⟨ho.1, ?_⟩
  rcases ho.2 with hn | ⟨g, cap, cur, rfl, hb, hg, rest⟩
  · exact .inl hn
  · exact .inr ⟨g, cap, cur, rfl, hb, h.cell hg ht, rest⟩
theorem Same1.blk (h : Same1 T n₁ A B) {b : Nat} {c : Array Value} {t : TypeId} (hb : Blk A b t c) (ht : t ≠ T) : Blk B b t c := h.cell hb ht
end

/-- what the body of a round leaves to the iterator: its cells of type T -/
structure KeepT (T : TypeId) (A B : World) : Prop where
  size : A.heap.size ≤ B.heap.size
  same : ∀ (k : Nat) (c : Array Value) (fz : Nat × Nat), A.heap[k]? = some (Obj.cells c T fz) → B.heap[k]? = some (Obj.cells c T fz)
theorem KeepT.refl (T : TypeId) (A : World) : KeepT T A A := ⟨Nat.le_refl _, fun _ _ _ h => h⟩
theorem KeepT.trans {T : TypeId} {A B C : World} (h : KeepT T A B) (k : KeepT T B C) : KeepT T A C := ⟨Nat.le_trans h.size k.size, fun i c fz hi => k.same i c fz (h.same i c fz hi)⟩
theorem KeepT.of_grown {T : TypeId} {A B : World} {row : Option Nat} (h : A.grownBy B row) (hr : ∀ g c fz, row = some g → A.heap[g]? ≠ some (.cells c T fz)) : KeepT T A B :=
  ⟨h.size, fun k c fz hk => (h.block k (Array.getElem?_eq_some_iff.1 hk).1 (fun e => hr k c fz e.symm hk)).trans hk⟩
theorem KeepT.blk {T : TypeId} {A B : World} (h : KeepT T A B) {b : Nat} {c : Array Value} (hb : Blk A b T c) : Blk B b T c := h.same b c _ hb

/-- the contract of an iterator that keeps cells of type T of its own: at each step it has changed those alone ('Same1'), and what it hands over meets Pre -/
def IterOK {α : Type} (P : Program) (T n₁ gf : Nat) (lb : Array Value) (encs : α → Array Value) (Pre : α → World → World → Prop) (Step : List α → α → Prop) (End : List α → Prop) (Aux : World → Prop) (W1 : World) : Prop :=
  ∀ (l : Nat) (J : List α → World → Prop) (Fin : World → Prop), (∀ pre W, J pre W → Aux W) →
    (∀ pre A B, J pre A → Same1 T W1.heap.size A B → J pre B) →
    (∀ pre x W0 W, J pre W0 → Same1 T W1.heap.size W0 W → Pre x W0 W → Step pre x → YieldAt Fence.wide 7 P l (encs x) W fun e W' =>
      (e = .returned (.bool true) ∧ J (pre ++ [x]) W' ∧ KeepT T W W') ∨ (e = .returned (.bool false) ∧ Fin W')) →
    (∀ pre W, J pre W → End pre → Fin W) →
    J [] W1 →
    CallsIn Fence.wide 8 P gf (#[.func (.yield l) #[] #[]] ++ lb) W1 fun e W' => (∃ v, e = .returned v) ∧ Fin W'

/-- how the body of a round may be left -/
def iterPost {α : Type} (B : Nat) (T : TypeId) (I : List α → World → Prop) (Ix : Code → World → Prop) (xs : List α) (W : World) : Exit → Act → World → Prop
  | .normal, _, W' => KeepsFrom B W W' ∧ KeepT T W W' ∧ I xs W'
  | .ret, _, W' => KeepsFrom B W W' ∧ Ix .ret W'
  | .exit id, _, W' => KeepsFrom B W W' ∧ Ix (.exit id) W'
  | .goto t, _, W' => KeepsFrom B W W' ∧ Ix (.goto t) W'
  | .panic _, _, _ => False
  | .outgrown, _, _ => False

/-- the law for the caller -/
theorem wp_iter {α : Type} {P : Program} (T : TypeId) {g : Operand} {ps : Array Tmp} {assign body : Code} {Q : Exit → Act → World → Prop} {a : Act} {w : World}
    {gf : Nat} {lb : Array Value} (hg : a.eval g = .func (.func gf) #[] lb) (eg : ∀ args w, (callFunc gf args).run P w = .ok (.enter gf args) w)
    {encs : α → Array Value} (hps : ∀ x, (encs x).size = ps.size) {Pre : α → World → World → Prop} {Step : List α → α → Prop} {End : List α → Prop} {Aux : World → Prop}
    (hPre : ∀ x W0 W l r r', Pre x W0 W → W.heap[l]? = some (.loop r) → Pre x W0 (W.putObj l (.loop r')))
    (hiter : ∀ W1, Below w.heap.size w W1 → w.heap.size ≤ W1.heap.size → IterOK P T w.heap.size gf lb encs Pre Step End Aux W1)
    (I : List α → World → Prop) (Ix : Code → World → Prop) (hI : ∀ pre A B, I pre A → Same1 T w.heap.size A B → I pre B) (hIx : ∀ c A B, Ix c A → Same1 T w.heap.size A B → Ix c B) (hAux : ∀ pre W, I pre W → Aux W) (h0 : I [] w)
    (a₁ : α → Act)
    (hassign : ∀ (l : Nat) (x : α) (W : World) (K : Act → World → Prop), K (a₁ x) W →
      assign.wpIn (Fence.wide.inRound l) 7 P (Exit.then K (fun _ _ _ => False)) { tmps := (ps.zip (encs x)).foldl (fun t (p, v) => t.setIfInBounds p v) a.tmps, defers := [] } W)
    (hbody : ∀ (l : Nat) (pre : List α) (x : α) (W0 W : World), I pre W0 → Same1 T w.heap.size W0 W → Pre x W0 W → Step pre x → w.heap.size ≤ l → w.heap.size ≤ W0.heap.size →
      body.wpIn (Fence.wide.inRound l) 7 P (iterPost w.heap.size T I Ix (pre ++ [x]) W) (a₁ x) W)
    (hdone : ∀ (D : Nat) (xs : List α) (W : World), w.heap.size ≤ D → End xs → I xs W → W.heap[D]? = some (.deferred (some [])) → Q .normal { a with defers := { target := .collected D, args := #[] } :: a.defers } W)
    (hstop : ∀ (D : Nat) (c : Code) (W : World), w.heap.size ≤ D → Ix c W → W.heap[D]? = some (.deferred (some [])) → c.wpIn Fence.wide 9 P Q { a with defers := { target := .collected D, args := #[] } :: a.defers } W) :
    (Code.rangeFunc g ps assign body).wpIn Fence.wide 9 P Q a w := by
  refine wpIn_rangeFunc ?_
  intro fn hfn
  have hro : Fence.wide.round = none := rfl
  rw [hro]
  obtain ⟨rec, hrec⟩ : ∃ rec : LoopState → Option Code → Loop, rec = fun st pe => { state := st, pending := pe, fn, tmps := a.tmps, params := ps, assign, body, defers := w.heap.size } := ⟨_, rfl⟩
  obtain ⟨W1, hW1⟩ : ∃ W1, (w.alloc (.deferred (some []))).alloc (.loop (rec .ready none)) = W1 := ⟨_, rfl⟩
  have hL1 : W1.heap[w.heap.size + 1]? = some (.loop (rec .ready none)) := by
    rw [← hW1]; have := World.alloc_heap_new (w.alloc (.deferred (some []))) (.loop (rec .ready none)); rwa [World.size_alloc] at this
  have hK1 : W1.heap[w.heap.size]? = some (.deferred (some [])) := by
    rw [← hW1]; exact (Below.heap_alloc _ _ _ (by simp)).trans (World.alloc_heap_new w _)
  have hb1 : Below w.heap.size w W1 := by
    rw [← hW1]; exact ((Below.refl _ w).alloc (Nat.le_refl _) _).alloc (by simp) _
  have hs1 : W1.heap.size = w.heap.size + 2 := by rw [← hW1]; simp
  have hI1 : I [] W1 := hI _ _ _ h0 (.of_below hb1)
  -- what the iterator may turn, it may turn from the caller's first block on
  have wide : ∀ {A B : World}, Same1 T W1.heap.size A B → Same1 T w.heap.size A B := fun h => ⟨h.os, h.tape, h.output, h.size, fun k hk hA => h.low k (by omega) hA, h.block⟩
  refine ⟨w.heap.size + 1, [{ target := .collected w.heap.size, args := #[] }], W1, { target := .fn (.func gf) lb, args := #[.func (.yield (w.heap.size + 1)) #[] #[]] }, W1, gf,
    #[.func (.yield (w.heap.size + 1)) #[] #[]] ++ lb, W1, ?_, ?_, ?_, ?_, fun _ => by omega, ?_⟩
  · rw [← hW1, hrec]; exact run_enterLoop_outer _ _ _ _ _
  · simp only [resolve, hg]
    simp [go_sem]
  · intro f' hf'; exact trivial
  · simp [invoke, go_sem, eg]
  · -- the iterator's contract, with the two facts of book-keeping beside the caller's invariant
    have book : ∀ {A B : World}, Same1 T W1.heap.size A B → A.heap[w.heap.size + 1]? = some (.loop (rec .ready none)) → A.heap[w.heap.size]? = some (.deferred (some [])) →
        B.heap[w.heap.size + 1]? = some (.loop (rec .ready none)) ∧ B.heap[w.heap.size]? = some (.deferred (some [])) := fun h h1 h2 =>
      ⟨(h.low _ (by omega) (Array.getElem?_eq_some_iff.1 h1).1).trans h1, (h.low _ (by omega) (Array.getElem?_eq_some_iff.1 h2).1).trans h2⟩
    refine (hiter W1 hb1 (by omega) (w.heap.size + 1)
      (fun pre W => I pre W ∧ W.heap[w.heap.size + 1]? = some (.loop (rec .ready none)) ∧ W.heap[w.heap.size]? = some (.deferred (some [])))
      (fun W => (∃ pre, End pre ∧ I pre W ∧ W.heap[w.heap.size + 1]? = some (.loop (rec .ready none)) ∧ W.heap[w.heap.size]? = some (.deferred (some []))) ∨
        ∃ c, Ix c W ∧ W.heap[w.heap.size + 1]? = some (.loop (rec .done (some c))) ∧ W.heap[w.heap.size]? = some (.deferred (some [])))
      (fun pre W h => hAux pre W h.1) ?_ ?_ ?_ ⟨hI1, hL1, hK1⟩).mono ?_
    · rintro pre A B ⟨h1, h2, h3⟩ h
      exact ⟨hI _ _ _ h1 (wide h), book h h2 h3⟩
    · -- one round
      rintro pre x W0 W ⟨hi, hl0, hk0⟩ hsame hpre hstep
      obtain ⟨hl, hk⟩ := book hsame hl0 hk0
      have hlt : w.heap.size + 1 < W.heap.size := (Array.getElem?_eq_some_iff.1 hl).1
      have hy := run_yield (P := P) (args := encs x) hl (by rw [hrec]; exact hps x)
      rw [hrec] at hy
      refine ⟨fn, _, assign, body, hy, roundIn_of_wpIn trivial (hassign _ x W _ ⟨_, run_beginRound hl (by rw [hrec]), ?_⟩)⟩
      have hl2 : (W.putObj (w.heap.size + 1) (.loop { rec .ready none with state := .busy })).heap[w.heap.size + 1]? = some (.loop { rec .ready none with state := .busy }) := World.putObj_heap_same hlt
      have hk2 : (W.putObj (w.heap.size + 1) (.loop { rec .ready none with state := .busy })).heap[w.heap.size]? = some (.deferred (some [])) := (World.putObj_heap_other (by omega)).trans hk
      have hs2 : Same1 T w.heap.size W (W.putObj (w.heap.size + 1) (.loop { rec .ready none with state := .busy })) := Same1.putObj _ hl (by omega)
      refine wpIn_mono (hbody _ pre x W0 _ hi ((wide hsame).trans hs2) (hPre _ _ _ _ _ _ hpre hl) hstep (by omega) (by have := (Array.getElem?_eq_some_iff.1 hl0).1; omega)) ?_
      have fin : ∀ (jump : Option Code) (W3 : World), KeepsFrom w.heap.size (W.putObj (w.heap.size + 1) (.loop { rec .ready none with state := .busy })) W3 →
          (Instr.endRound (w.heap.size + 1) jump).run P W3 = .ok (.bool jump.isNone) (W3.putObj (w.heap.size + 1) (.loop (rec (if jump.isNone then .ready else .done) jump))) ∧
          W3.heap[w.heap.size + 1]? = some (.loop { rec .ready none with state := .busy }) ∧
          (W3.putObj (w.heap.size + 1) (.loop (rec (if jump.isNone then .ready else .done) jump))).heap[w.heap.size + 1]? = some (.loop (rec (if jump.isNone then .ready else .done) jump)) ∧
          (W3.putObj (w.heap.size + 1) (.loop (rec (if jump.isNone then .ready else .done) jump))).heap[w.heap.size]? = some (.deferred (some [])) := fun jump W3 hk3 => by
        have hl3 := hk3.same _ _ (by omega) hl2 rfl
        have := run_endRound (P := P) jump hl3
        rw [hrec] at this ⊢
        exact ⟨this, by rw [hrec] at hl3; exact hl3, World.putObj_heap_same (Array.getElem?_eq_some_iff.1 hl3).1, (World.putObj_heap_other (by omega)).trans (hk3.same _ _ (Nat.le_refl _) hk2 rfl)⟩
      have putT : ∀ (V : World) (r r' : Loop), V.heap[w.heap.size + 1]? = some (.loop r) → KeepT T V (V.putObj (w.heap.size + 1) (.loop r')) := fun V r r' h =>
        ⟨by simp [World.putObj], fun k c fz hc => (World.putObj_heap_other (fun e => by subst e; rw [h] at hc; cases hc)).trans hc⟩
      rintro e a3 W3 hp
      cases e with
      | normal =>
        obtain ⟨hk3, hkp3, hi3⟩ := hp
        obtain ⟨hr, hl3, hl4, hk4⟩ := fin none W3 hk3
        exact ⟨_, _, hr, .inl ⟨rfl, ⟨hI _ _ _ hi3 (Same1.putObj _ hl3 (by omega)), hl4, hk4⟩, (putT W _ _ hl).trans (hkp3.trans (putT W3 _ _ hl3))⟩⟩
      | ret =>
        obtain ⟨hk3, hi3⟩ := hp
        obtain ⟨hr, hl3, hl4, hk4⟩ := fin (some .ret) W3 hk3
        exact ⟨_, _, hr, .inr ⟨rfl, .inr ⟨.ret, hIx _ _ _ hi3 (Same1.putObj _ hl3 (by omega)), hl4, hk4⟩⟩⟩
      | exit id =>
        obtain ⟨hk3, hi3⟩ := hp
        obtain ⟨hr, hl3, hl4, hk4⟩ := fin (some (.exit id)) W3 hk3
        exact ⟨_, _, hr, .inr ⟨rfl, .inr ⟨.exit id, hIx _ _ _ hi3 (Same1.putObj _ hl3 (by omega)), hl4, hk4⟩⟩⟩
      | goto t =>
        obtain ⟨hk3, hi3⟩ := hp
        obtain ⟨hr, hl3, hl4, hk4⟩ := fin (some (.goto t)) W3 hk3
        exact ⟨_, _, hr, .inr ⟨rfl, .inr ⟨.goto t, hIx _ _ _ hi3 (Same1.putObj _ hl3 (by omega)), hl4, hk4⟩⟩⟩
      | panic ch => exact hp.elim
      | outgrown => exact hp.elim
    · rintro pre W ⟨h1, h2, h3⟩ hend
      exact .inl ⟨pre, hend, h1, h2, h3⟩
    · -- behind the iterator
      rintro e W2 ⟨⟨v, rfl⟩, (⟨xs, hend, hi, hl, hk⟩ | ⟨c, hi, hl, hk⟩)⟩
      · exact ⟨none, _, by have := run_endLoop (P := P) hl (by rw [hrec]; simp); rw [hrec] at this; exact this, hdone _ xs _ (Nat.le_refl _) hend (hI _ _ _ hi (Same1.putObj _ hl (by omega))) ((World.putObj_heap_other (by omega)).trans hk)⟩
      · exact ⟨some c, _, by have := run_endLoop (P := P) hl (by rw [hrec]; simp); rw [hrec] at this; exact this, hstop _ c _ (Nat.le_refl _) (hIx _ _ _ hi (Same1.putObj _ hl (by omega))) ((World.putObj_heap_other (by omega)).trans hk)⟩

/-- a function whose body holds a range over a function -/
theorem calls_of_wp_marks {P : Program} {f : FuncId} {fn : Func} {c : Code} {args : Array Value} {w : World} {R : Ending → World → Prop} (hf : P.funcs[f]? = some fn) (hb : fn.body = some c)
    (h : c.wp P (bodyPostM Fence.wide 9 P fn R) { tmps := args ++ Array.replicate (fn.ntmps - args.size) undef, defers := [] } w) : Calls P f args w R :=
  callsIn_wide.1 (callsIn_of_wp_marks (n := 9) hf hb trivial (wpIn_wide.2 h))

/-- a block of cells stands while the loop's block for deferred calls is shut -/
theorem blk_putObj {V : World} {D b : Nat} {t : TypeId} {c : Array Value} {o : Obj} (hK : V.heap[D]? = some (.deferred (some []))) (h : Blk V b t c) : Blk (V.putObj D o) b t c :=
  (World.putObj_heap_other (fun e => by subst e; unfold Blk at h; rw [hK] at h; cases h)).trans h
theorem same_putObj {V : World} {D : Nat} (hK : V.heap[D]? = some (.deferred (some []))) : ∀ (k : Nat) (c : Array Value) (t : TypeId) (fz : Nat × Nat), V.heap[k]? = some (Obj.cells c t fz) → (V.putObj D (.deferred none)).heap[k]? = some (Obj.cells c t fz) := fun k c t fz h =>
  (World.putObj_heap_other (fun e => by subst e; rw [hK] at h; cases h)).trans h
theorem own_putObj {V : World} {D base e size n : Nat} {v : Value} {xs : List Value} (hK : V.heap[D]? = some (.deferred (some []))) (h : V.ownsRow base e size v n xs) : (V.putObj D (.deferred none)).ownsRow base e size v n xs := by
  refine ⟨h.1, ?_⟩
  rcases h.2 with hn | ⟨g, cap, cur, rfl, hb, hg, rest⟩
  · exact .inl hn
  · exact .inr ⟨g, cap, cur, rfl, hb, same_putObj hK _ _ _ _ hg, rest⟩
theorem below_putObj {B : Nat} {A V : World} {D : Nat} {o : Obj} (h : Below B A V) (hD : B ≤ D) : Below B A (V.putObj D o) :=
  ⟨h.os, h.tape, h.output, by simpa [World.putObj] using h.size, fun k hk => (World.putObj_heap_other (by omega)).trans (h.block k hk)⟩
/-- a return behind a loop over a function -/
theorem ret_mark {P : Program} {fn : Func} {tmps : Array Value} {R : Ending → World → Prop} {V : World} {D : Nat} {v : Value} (hK : V.heap[D]? = some (.deferred (some [])))
    (hr : (results fn tmps).run P (V.putObj D (.deferred none)) = .ok v (V.putObj D (.deferred none))) (hR : R (.returned v) (V.putObj D (.deferred none))) :
    bodyPostM Fence.wide 9 P fn R .ret { tmps := tmps, defers := [{ target := .collected D, args := #[] }] } V :=
  ⟨by simp, .inl ⟨_, _, rfl, run_takeDeferred hK, ⟨_, hr, hR⟩⟩⟩
end Go.Proofs.YthnaiiejjdmnaaaDoor
