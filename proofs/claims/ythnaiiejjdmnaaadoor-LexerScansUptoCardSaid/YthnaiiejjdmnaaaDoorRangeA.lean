/- A range over a function whose iterator keeps cells of its own, where the range's assignment makes memory (a variable that lies in a block): one law for the caller. -/
import Derived.Test.YthnaiiejjdmnaaaDoorRange
namespace Go.Proofs.YthnaiiejjdmnaaaDoor
open Go.RowKit

theorem KeepT.of_below {T : TypeId} {A B : World} (h : Below A.heap.size A B) : KeepT T A B :=
  ⟨h.size, fun k c fz hk => (h.block k (Array.getElem?_eq_some_iff.1 hk).1).trans hk⟩

/-- the law for the caller, where the range's assignment makes memory: behind it the world is 'w₁ x W' -/
theorem wp_iter_a {α : Type} {P : Program} (T : TypeId) {g : Operand} {ps : Array Tmp} {assign body : Code} {Q : Exit → Act → World → Prop} {a : Act} {w : World}
    {gf : Nat} {lb : Array Value} (hg : a.eval g = .func (.func gf) #[] lb) (eg : ∀ args w, (callFunc gf args).run P w = .ok (.enter gf args) w)
    {encs : α → Array Value} (hps : ∀ x, (encs x).size = ps.size) {Pre : α → World → World → Prop} {Step : List α → α → Prop} {End : List α → Prop} {Aux : World → Prop}
    (a₁ : α → World → Act) (w₁ : α → World → World) (hw₁ : ∀ x W, Below W.heap.size W (w₁ x W))
    (hPre : ∀ x W0 W l r r', Pre x W0 W → (w₁ x W).heap[l]? = some (.loop r) → Pre x W0 ((w₁ x W).putObj l (.loop r')))
    (hiter : ∀ W1, Below w.heap.size w W1 → w.heap.size ≤ W1.heap.size → IterOK P T w.heap.size gf lb encs Pre Step End Aux W1)
    (I : List α → World → Prop) (Ix : Code → World → Prop) (hI : ∀ pre A B, I pre A → Same1 T w.heap.size A B → I pre B) (hIx : ∀ c A B, Ix c A → Same1 T w.heap.size A B → Ix c B) (hAux : ∀ pre W, I pre W → Aux W) (h0 : I [] w)
    (hassign : ∀ (l : Nat) (x : α) (W : World) (K : Act → World → Prop), K (a₁ x W) (w₁ x W) →
      assign.wpIn (Fence.wide.inRound l) 7 P (Exit.then K (fun _ _ _ => False)) { tmps := (ps.zip (encs x)).foldl (fun t (p, v) => t.setIfInBounds p v) a.tmps, defers := [] } W)
    (hbody : ∀ (l : Nat) (pre : List α) (x : α) (W0 Wa W : World), I pre W0 → Same1 T w.heap.size W0 Wa → Same1 T w.heap.size Wa W → (∀ (b : Nat) (t : TypeId) (c : Array Value), Blk (w₁ x Wa) b t c → Blk W b t c) → W.heap.size = (w₁ x Wa).heap.size → Pre x W0 W → Step pre x → w.heap.size ≤ l → w.heap.size ≤ W0.heap.size →
      body.wpIn (Fence.wide.inRound l) 7 P (iterPost w.heap.size T I Ix (pre ++ [x]) W) (a₁ x Wa) W)
    (hdone : ∀ (D : Nat) (xs : List α) (W : World), w.heap.size ≤ D → End xs → I xs W → W.heap[D]? = some (.deferred (some [])) → Q .normal { a with defers := { target := .collected D, args := #[] } :: a.defers } W)
    (hstop : ∀ (D : Nat) (c : Code) (W : World), w.heap.size ≤ D → Ix c W → W.heap[D]? = some (.deferred (some [])) → c.wpIn Fence.wide 9 P Q { a with defers := { target := .collected D, args := #[] } :: a.defers } W) :
    (Code.rangeFunc g ps assign body).wpIn Fence.wide 9 P Q a w := by
  refine wpIn_rangeFunc ?_
  intro fn hfn
  have hro : Fence.wide.round = none := rfl
  rw [hro]
  obtain ⟨rec, hrec⟩ : ∃ rec : LoopState → Option Code → Loop, rec = fun st pe => { state := st, pending := pe, fn, tmps := a.tmps, params := ps, assign, body, defers := w.heap.size } := ⟨_, rfl⟩
  obtain ⟨W1, hW1⟩ : ∃ W1, (w.alloc (.deferred (some []))).alloc (.loop (rec .ready none)) = W1 := ⟨_, rfl⟩
  have hL1 : W1.heap[w.heap.size + 1]? = some (.loop (rec .ready none)) := by
    rw [← hW1]; have := World.alloc_heap_new (w.alloc (.deferred (some []))) (.loop (rec .ready none)); rwa [World.size_alloc] at this
  have hK1 : W1.heap[w.heap.size]? = some (.deferred (some [])) := by
    rw [← hW1]; exact (Below.heap_alloc _ _ _ (by simp)).trans (World.alloc_heap_new w _)
  have hb1 : Below w.heap.size w W1 := by
    rw [← hW1]; exact ((Below.refl _ w).alloc (Nat.le_refl _) _).alloc (by simp) _
  have hs1 : W1.heap.size = w.heap.size + 2 := by rw [← hW1]; simp
  have hI1 : I [] W1 := hI _ _ _ h0 (.of_below hb1)
  -- what the iterator may turn, it may turn from the caller's first block on
  have wide : ∀ {A B : World}, Same1 T W1.heap.size A B → Same1 T w.heap.size A B := fun h => ⟨h.os, h.tape, h.output, h.size, fun k hk hA => h.low k (by omega) hA, h.block⟩
  refine ⟨w.heap.size + 1, [{ target := .collected w.heap.size, args := #[] }], W1, { target := .fn (.func gf) lb, args := #[.func (.yield (w.heap.size + 1)) #[] #[]] }, W1, gf,
    #[.func (.yield (w.heap.size + 1)) #[] #[]] ++ lb, W1, ?_, ?_, ?_, ?_, fun _ => by omega, ?_⟩
  · rw [← hW1, hrec]; exact run_enterLoop_outer _ _ _ _ _
  · simp only [resolve, hg]
    simp [go_sem]
  · intro f' hf'; exact trivial
  · simp [invoke, go_sem, eg]
  · -- the iterator's contract, with the two facts of book-keeping beside the caller's invariant
    have book : ∀ {A B : World}, Same1 T W1.heap.size A B → A.heap[w.heap.size + 1]? = some (.loop (rec .ready none)) → A.heap[w.heap.size]? = some (.deferred (some [])) →
        B.heap[w.heap.size + 1]? = some (.loop (rec .ready none)) ∧ B.heap[w.heap.size]? = some (.deferred (some [])) := fun h h1 h2 =>
      ⟨(h.low _ (by omega) (Array.getElem?_eq_some_iff.1 h1).1).trans h1, (h.low _ (by omega) (Array.getElem?_eq_some_iff.1 h2).1).trans h2⟩
    refine (hiter W1 hb1 (by omega) (w.heap.size + 1)
      (fun pre W => I pre W ∧ W.heap[w.heap.size + 1]? = some (.loop (rec .ready none)) ∧ W.heap[w.heap.size]? = some (.deferred (some [])))
      (fun W => (∃ pre, End pre ∧ I pre W ∧ W.heap[w.heap.size + 1]? = some (.loop (rec .ready none)) ∧ W.heap[w.heap.size]? = some (.deferred (some []))) ∨
        ∃ c, Ix c W ∧ W.heap[w.heap.size + 1]? = some (.loop (rec .done (some c))) ∧ W.heap[w.heap.size]? = some (.deferred (some [])))
      (fun pre W h => hAux pre W h.1) ?_ ?_ ?_ ⟨hI1, hL1, hK1⟩).mono ?_
    · rintro pre A B ⟨h1, h2, h3⟩ h
      exact ⟨hI _ _ _ h1 (wide h), book h h2 h3⟩
    · -- one round
      rintro pre x W0 W ⟨hi, hl0, hk0⟩ hsame hpre hstep
      obtain ⟨hl, hk⟩ := book hsame hl0 hk0
      have hlt : w.heap.size + 1 < W.heap.size := (Array.getElem?_eq_some_iff.1 hl).1
      have hy := run_yield (P := P) (args := encs x) hl (by rw [hrec]; exact hps x)
      rw [hrec] at hy
      have hbA := hw₁ x W
      obtain ⟨WA, hWA⟩ : ∃ WA, w₁ x W = WA := ⟨_, rfl⟩
      rw [hWA] at hbA
      have hl' : WA.heap[w.heap.size + 1]? = some (.loop (rec .ready none)) := (hbA.block _ hlt).trans hl
      have hk' : WA.heap[w.heap.size]? = some (.deferred (some [])) := (hbA.block _ (by omega)).trans hk
      have hltA : w.heap.size + 1 < WA.heap.size := Nat.lt_of_lt_of_le hlt hbA.size
      refine ⟨fn, _, assign, body, hy, roundIn_of_wpIn trivial (hassign _ x W _ ?_)⟩
      rw [hWA]
      refine ⟨_, run_beginRound hl' (by rw [hrec]), ?_⟩
      have hl2 : (WA.putObj (w.heap.size + 1) (.loop { rec .ready none with state := .busy })).heap[w.heap.size + 1]? = some (.loop { rec .ready none with state := .busy }) := World.putObj_heap_same hltA
      have hk2 : (WA.putObj (w.heap.size + 1) (.loop { rec .ready none with state := .busy })).heap[w.heap.size]? = some (.deferred (some [])) := (World.putObj_heap_other (by omega)).trans hk'
      have hs2 : Same1 T w.heap.size W (WA.putObj (w.heap.size + 1) (.loop { rec .ready none with state := .busy })) := (Same1.of_below hbA).trans (Same1.putObj _ hl' (by omega))
      have hblk : ∀ (b : Nat) (t : TypeId) (c : Array Value), Blk (w₁ x W) b t c → Blk (WA.putObj (w.heap.size + 1) (.loop { rec .ready none with state := .busy })) b t c := fun b t c h => by
        rw [hWA] at h
        exact (World.putObj_heap_other (fun e => by subst e; unfold Blk at h; rw [hl'] at h; cases h)).trans h
      refine wpIn_mono (hbody _ pre x W0 W _ hi (wide hsame) hs2 hblk (by rw [hWA]; simp [World.putObj]) (by have := hPre x W0 W (w.heap.size + 1) _ { rec .ready none with state := .busy } hpre (by rw [hWA]; exact hl'); rw [hWA] at this; exact this) hstep (by omega) (by have := (Array.getElem?_eq_some_iff.1 hl0).1; omega)) ?_
      have fin : ∀ (jump : Option Code) (W3 : World), KeepsFrom w.heap.size (WA.putObj (w.heap.size + 1) (.loop { rec .ready none with state := .busy })) W3 →
          (Instr.endRound (w.heap.size + 1) jump).run P W3 = .ok (.bool jump.isNone) (W3.putObj (w.heap.size + 1) (.loop (rec (if jump.isNone then .ready else .done) jump))) ∧
          W3.heap[w.heap.size + 1]? = some (.loop { rec .ready none with state := .busy }) ∧
          (W3.putObj (w.heap.size + 1) (.loop (rec (if jump.isNone then .ready else .done) jump))).heap[w.heap.size + 1]? = some (.loop (rec (if jump.isNone then .ready else .done) jump)) ∧
          (W3.putObj (w.heap.size + 1) (.loop (rec (if jump.isNone then .ready else .done) jump))).heap[w.heap.size]? = some (.deferred (some [])) := fun jump W3 hk3 => by
        have hl3 := hk3.same _ _ (by omega) hl2 rfl
        have := run_endRound (P := P) jump hl3
        rw [hrec] at this ⊢
        exact ⟨this, by rw [hrec] at hl3; exact hl3, World.putObj_heap_same (Array.getElem?_eq_some_iff.1 hl3).1, (World.putObj_heap_other (by omega)).trans (hk3.same _ _ (Nat.le_refl _) hk2 rfl)⟩
      have putT : ∀ (V : World) (r r' : Loop), V.heap[w.heap.size + 1]? = some (.loop r) → KeepT T V (V.putObj (w.heap.size + 1) (.loop r')) := fun V r r' h =>
        ⟨by simp [World.putObj], fun k c fz hc => (World.putObj_heap_other (fun e => by subst e; rw [h] at hc; cases hc)).trans hc⟩
      rintro e a3 W3 hp
      cases e with
      | normal =>
        obtain ⟨hk3, hkp3, hi3⟩ := hp
        obtain ⟨hr, hl3, hl4, hk4⟩ := fin none W3 hk3
        exact ⟨_, _, hr, .inl ⟨rfl, ⟨hI _ _ _ hi3 (Same1.putObj _ hl3 (by omega)), hl4, hk4⟩, (KeepT.of_below hbA).trans ((putT WA _ _ hl').trans (hkp3.trans (putT W3 _ _ hl3)))⟩⟩
      | ret =>
        obtain ⟨hk3, hi3⟩ := hp
        obtain ⟨hr, hl3, hl4, hk4⟩ := fin (some .ret) W3 hk3
        exact ⟨_, _, hr, .inr ⟨rfl, .inr ⟨.ret, hIx _ _ _ hi3 (Same1.putObj _ hl3 (by omega)), hl4, hk4⟩⟩⟩
      | exit id =>
        obtain ⟨hk3, hi3⟩ := hp
        obtain ⟨hr, hl3, hl4, hk4⟩ := fin (some (.exit id)) W3 hk3
        exact ⟨_, _, hr, .inr ⟨rfl, .inr ⟨.exit id, hIx _ _ _ hi3 (Same1.putObj _ hl3 (by omega)), hl4, hk4⟩⟩⟩
      | goto t =>
        obtain ⟨hk3, hi3⟩ := hp
        obtain ⟨hr, hl3, hl4, hk4⟩ := fin (some (.goto t)) W3 hk3
        exact ⟨_, _, hr, .inr ⟨rfl, .inr ⟨.goto t, hIx _ _ _ hi3 (Same1.putObj _ hl3 (by omega)), hl4, hk4⟩⟩⟩
      | panic ch => exact hp.elim
      | outgrown => exact hp.elim
    · rintro pre W ⟨h1, h2, h3⟩ hend
      exact .inl ⟨pre, hend, h1, h2, h3⟩
    · -- behind the iterator
      rintro e W2 ⟨⟨v, rfl⟩, (⟨xs, hend, hi, hl, hk⟩ | ⟨c, hi, hl, hk⟩)⟩
      · exact ⟨none, _, by have := run_endLoop (P := P) hl (by rw [hrec]; simp); rw [hrec] at this; exact this, hdone _ xs _ (Nat.le_refl _) hend (hI _ _ _ hi (Same1.putObj _ hl (by omega))) ((World.putObj_heap_other (by omega)).trans hk)⟩
      · exact ⟨some c, _, by have := run_endLoop (P := P) hl (by rw [hrec]; simp); rw [hrec] at this; exact this, hstop _ c _ (Nat.le_refl _) (hIx _ _ _ hi (Same1.putObj _ hl (by omega))) ((World.putObj_heap_other (by omega)).trans hk)⟩
end Go.Proofs.YthnaiiejjdmnaaaDoor
