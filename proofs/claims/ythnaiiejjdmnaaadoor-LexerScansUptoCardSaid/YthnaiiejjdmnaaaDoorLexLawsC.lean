/- Layer 24 (lexer): LexerScans: Scan goes over the tokens and ends with the error, twice, and ended early. -/
import Derived.Test.YthnaiiejjdmnaaaDoorLexLawsB
import Derived.Test.YthnaiiejjdmnaaaDoorQuietR
namespace Go.Proofs.YthnaiiejjdmnaaaDoor
open Go.RowKit
attribute [local go_sem] Oper.semAt_some

theorem seq_not_nil (w : World) (a : Addr) : (binOp .eql 24 (.func (.func 14) #[] #[.pointer (some a)]) .nilFunc).run Tryd.prog w = .ok (.bool false) w := by kernel_rfl

/-- the law's own cells -/
structure LS (w : World) (s : ByteArray) (toks : List Lex.Tok) (ap n steps r b2 bt b4 b5 b6 b7 b8 base : Nat) (vq : Value) (Ds : List Nat) (V : World) : Prop where
  c2 : Blk V b2 4 #[.bool false]
  ct : Blk V bt 9 #[.string s]
  c4 : Blk V b4 26 #[vq]
  own : OwnToks V base vq toks
  c5 : Blk V b5 3 #[.int .i64 ap]
  c6 : Blk V b6 3 #[.int .i64 n]
  c7 : Blk V b7 3 #[.int .i64 steps]
  c8 : Blk V b8 3 #[.int .i64 r]
  below : Below w.heap.size w V
  marks : ∀ D ∈ Ds, V.heap[D]? = some (.deferred (some []))
theorem OwnToks.same1 {T n₁ B : Nat} {v : Value} {l : List Lex.Tok} {V V' : World} (h : OwnToks V B v l) (hs : Same1 T n₁ V V') (hT : 30 ≠ T) : OwnToks V' B v l := by
  unfold OwnToks at h ⊢
  exact hs.own h hT
section
variable {w : World} {s : ByteArray} {toks : List Lex.Tok} {ap n steps r r' b2 bt b4 b5 b6 b7 b8 base n₁ : Nat} {vq : Value} {Ds : List Nat} {V V' : World}
theorem LS.same1 (h : LS w s toks ap n steps r b2 bt b4 b5 b6 b7 b8 base vq Ds V) (hs : Same1 40 n₁ V V') (hn : w.heap.size ≤ n₁) : LS w s toks ap n steps r b2 bt b4 b5 b6 b7 b8 base vq Ds V' :=
  ⟨hs.blk h.c2 (by decide), hs.blk h.ct (by decide), hs.blk h.c4 (by decide), h.own.same1 hs (by decide), hs.blk h.c5 (by decide), hs.blk h.c6 (by decide), hs.blk h.c7 (by decide), hs.blk h.c8 (by decide), h.below.trans (hs.below hn h.below.size), fun D hD => hs.block D _ (h.marks D hD) (fun r e => by cases e) (fun c fz e => by cases e)⟩
theorem LS.lts (h : LS w s toks ap n steps r b2 bt b4 b5 b6 b7 b8 base vq Ds V) : b2 < V.heap.size ∧ bt < V.heap.size ∧ b4 < V.heap.size ∧ b5 < V.heap.size ∧ b6 < V.heap.size ∧ b7 < V.heap.size ∧ b8 < V.heap.size ∧ ∀ D ∈ Ds, D < V.heap.size :=
  ⟨h.c2.lt, h.ct.lt, h.c4.lt, h.c5.lt, h.c6.lt, h.c7.lt, h.c8.lt, fun D hD => (Array.getElem?_eq_some_iff.1 (h.marks D hD)).1⟩
theorem LS.drewN (h : LS w s toks ap n steps r b2 bt b4 b5 b6 b7 b8 base vq Ds V) (k : Nat) : LS w s toks ap n steps r b2 bt b4 b5 b6 b7 b8 base vq Ds (V.drewN k) :=
  ⟨h.c2, h.ct, h.c4, own_kept_ty h.own (only_drewN (only_refl _ none) k) (fun g c t fz e => by cases e), h.c5, h.c6, h.c7, h.c8, below_drewN h.below k, h.marks⟩
/-- the count's cell turns -/
theorem LS.set9 (h : LS w s toks ap n steps r b2 bt b4 b5 b6 b7 b8 base vq Ds V') (hV : LS w s toks ap n steps r b2 bt b4 b5 b6 b7 b8 base vq Ds V) {cs : Array Value} (h9 : Blk V' V.heap.size 3 cs) (v : Value) :
    LS w s toks ap n steps r b2 bt b4 b5 b6 b7 b8 base vq Ds (V'.setCell ⟨V.heap.size, 0, none⟩ v) := by
  obtain ⟨l2, lt, l4, l5, l6, l7, l8, lD⟩ := hV.lts
  have far : ∀ {b : Nat} {t : TypeId} {c : Array Value}, Blk V' b t c → b < V.heap.size → Blk (V'.setCell ⟨V.heap.size, 0, none⟩ v) b t c := fun hb hl => hb.far (p := ⟨V.heap.size, 0, none⟩) (by simp; omega) v
  have hg := grownBy_set V' ⟨V.heap.size, 0, none⟩ v
  have own : OwnToks (V'.setCell ⟨V.heap.size, 0, none⟩ v) base vq toks := by
    have ho := h.own
    unfold OwnToks at ho ⊢
    exact own_kept_ty ho hg (fun g c t fz e hc => by
      cases e
      unfold Blk at h9
      rw [show V'.heap[V.heap.size]? = some (.cells c t fz) from hc] at h9
      cases h9
      decide)
  refine ⟨far h.c2 l2, far h.ct lt, far h.c4 l4, own, far h.c5 l5, far h.c6 l6, far h.c7 l7, far h.c8 l8, h.below.setCell (p := ⟨V.heap.size, 0, none⟩) hV.below.size v, fun D hD => ?_⟩
  rw [Below.heap_setCell _ _ _ _ (by have := lD D hD; show D ≠ V.heap.size; omega)]
  exact h.marks D hD
/-- the next round's counter -/
theorem LS.next (h : LS w s toks ap n steps r b2 bt b4 b5 b6 b7 b8 base vq Ds V) {D : Nat} (hK : V.heap[D]? = some (.deferred (some []))) (r' : Nat) :
    LS w s toks ap n steps r' b2 bt b4 b5 b6 b7 V.heap.size base vq (D :: Ds) (V.alloc (.cells #[.int .i64 r'] 3)) := by
  have hb : Below V.heap.size V (V.alloc (.cells #[.int .i64 r'] 3)) := (Below.refl _ _).alloc (Nat.le_refl _) _
  have h' := h.same1 (n₁ := w.heap.size) (Same1.of_below hb) (Nat.le_refl _)
  refine ⟨h'.c2, h'.ct, h'.c4, h'.own, h'.c5, h'.c6, h'.c7, Blk.new _ _ _, h'.below, fun D' hD' => ?_⟩
  rcases List.mem_cons.1 hD' with rfl | hm
  · exact (hb.block _ (Array.getElem?_eq_some_iff.1 hK).1).trans hK
  · exact h'.marks D' hm
end
theorem Same1.thenBelow {T n₁ : Nat} {A B C : World} (h : Same1 T n₁ A B) (k : Below A.heap.size B C) : Same1 T n₁ A C :=
  ⟨k.os.trans h.os, k.tape.trans h.tape, k.output.trans h.output, Nat.le_trans h.size k.size, fun i hi hA => (k.block i hA).trans (h.low i hi hA), fun i o ho h1 h2 => (k.block i (Array.getElem?_eq_some_iff.1 ho).1).trans (h.block i o ho h1 h2)⟩
theorem keepsOthers_drewN (W : World) (n : Nat) : KeepsOthers W (W.drewN n) := ⟨Nat.le_refl _, fun _ _ h _ => h⟩
theorem keepT_drewN {T n : Nat} {A B : World} (h : KeepT T (A.drewN n) B) : KeepT T A B := ⟨h.size, h.same⟩
theorem keepT_set9 {V' : World} {g : Nat} {cs : Array Value} (h9 : Blk V' g 3 cs) (v : Value) : KeepT 40 V' (V'.setCell ⟨g, 0, none⟩ v) :=
  KeepT.of_grown (grownBy_set V' ⟨g, 0, none⟩ v) (fun g' c fz e hc => by
    cases e
    unfold Blk at h9
    rw [h9] at hc
    cases hc)
theorem blk_count {V' : World} {g k : Nat} {pre : List LY} {x : LY} {c0 : Value} (h : Blk V' g 3 ((#[c0] : Array Value).setIfInBounds 0 (.int .i64 ((k : Int) + 1)))) (hk : pre.length = k) : Blk V' g 3 #[.int .i64 ((pre ++ [x]).length : Nat)] := by
  rw [List.length_append, hk]
  exact h
/-- a return behind three loops over a function -/
theorem ret_marks3 {P : Program} {fn : Func} {tmps : Array Value} {R : Ending → World → Prop} {V : World} {D2 D1 D0 : Nat} {v : Value} (h2 : V.heap[D2]? = some (.deferred (some []))) (h1 : V.heap[D1]? = some (.deferred (some []))) (h0 : V.heap[D0]? = some (.deferred (some [])))
    (h21 : D1 < D2) (h10 : D0 < D1)
    (hr : (results fn tmps).run P (((V.putObj D2 (.deferred none)).putObj D1 (.deferred none)).putObj D0 (.deferred none)) = .ok v (((V.putObj D2 (.deferred none)).putObj D1 (.deferred none)).putObj D0 (.deferred none)))
    (hR : R (.returned v) (((V.putObj D2 (.deferred none)).putObj D1 (.deferred none)).putObj D0 (.deferred none))) :
    bodyPostM Fence.wide 9 P fn R .ret { tmps := tmps, defers := [{ target := .collected D2, args := #[] }, { target := .collected D1, args := #[] }, { target := .collected D0, args := #[] }] } V := by
  have h1' : (V.putObj D2 (.deferred none)).heap[D1]? = some (.deferred (some [])) := (World.putObj_heap_other (by omega)).trans h1
  have h0' : ((V.putObj D2 (.deferred none)).putObj D1 (.deferred none)).heap[D0]? = some (.deferred (some [])) := (World.putObj_heap_other (by omega)).trans ((World.putObj_heap_other (by omega)).trans h0)
  exact ⟨by simp, .inl ⟨_, _, rfl, run_takeDeferred h2, ⟨by simp, .inl ⟨_, _, rfl, run_takeDeferred h1', ⟨by simp, .inl ⟨_, _, rfl, run_takeDeferred h0', ⟨_, hr, hR⟩⟩⟩⟩⟩⟩⟩

namespace Lex
theorem step_get {l : List UInt8} {pre : List LY} {x : LY} (h : LStep l pre x) : (items (read l))[pre.length]? = some x := by
  obtain ⟨t, ht⟩ := h
  rw [← ht, List.append_assoc, List.getElem?_append_right (Nat.le_refl _)]
  simp
theorem items_get {X : List Tok × Option (Nat × Nat)} {k : Nat} {x : LY} (h : (items X)[k]? = some x) :
    (∃ t, X.1[k]? = some t ∧ x = (t, 0)) ∨ (k = X.1.length ∧ ∃ p e, X.2 = some (p, e) ∧ x = (⟨0, [], 0, p⟩, e)) := by
  unfold items at h
  by_cases hk : k < X.1.length
  · rw [List.getElem?_append_left (by rw [List.length_map]; exact hk), List.getElem?_map] at h
    obtain ⟨t, h1, h2⟩ := Option.map_eq_some_iff.1 h
    exact .inl ⟨t, h1, h2.symm⟩
  · rw [List.getElem?_append_right (by rw [List.length_map]; omega), List.length_map] at h
    cases hx : X.2 with
    | none => rw [hx] at h; simp at h
    | some pe =>
      obtain ⟨p, e⟩ := pe
      rw [hx] at h
      have hl := (List.getElem?_eq_some_iff.1 h).1
      simp at hl
      have h0 : k - X.1.length = 0 := by omega
      rw [h0] at h
      exact .inr ⟨by omega, p, e, rfl, (Option.some.inj h).symm⟩
theorem items_length (X : List Tok × Option (Nat × Nat)) : (items X).length = X.1.length + if X.2.isSome then 1 else 0 := by
  unfold items
  rw [List.length_append, List.length_map]
  cases X.2 <;> rfl
end Lex

set_option maxHeartbeats 16000000 in
set_option maxRecDepth 100000 in
theorem lexerScans_any (s : ByteArray) (w : World) (hs : s.size ≤ 1073741823) (hL : Laid w) :
    Calls Tryd.prog 4 #[.string s] w fun e w' => e = .returned (.bool true) ∧ Below w.heap.size w w' := by
  have hsp := fun (W : World) (h : Below w.heap.size w W) => lexSpeaks_any W (hL.below h)
  have hra := fun wx => refRead_any s hs wx
  have hri := fun n₁ Bt hBt W1 hn => scan_iter s hs n₁ Bt hBt W1 hn
  have hst := fun pre x => @Lex.step_get s.data.toList pre x
  have hrl := Lex.read_len s.data.toList
  have hre := fun p e => @Lex.read_err_ne s.data.toList p e
  have hLB := fun (W : World) (h : Below w.heap.size w W) => hL.below h
  unfold RefReadRes at hra
  have hEnd : ∀ pre, LEnd s.data.toList pre → pre = Lex.items (Lex.read s.data.toList) := fun pre h => h
  obtain ⟨X, hX⟩ : ∃ X, Lex.read s.data.toList = X := ⟨_, rfl⟩
  rw [hX] at hra hst hrl hre hEnd
  have HSP := Lib.hid hsp
  have HRA := Lib.hid hra
  have HRI := Lib.hid hri
  have HSTP := Lib.hid hst
  have HEND := Lib.hid hEnd
  have HLB := Lib.hid hLB
  have hsn := seq_not_nil
  clear hsp hra hri hst hEnd hX hL hLB
  obtain ⟨toks, er⟩ := X
  have hrl : toks.length ≤ 16777216 := hrl
  obtain ⟨L, hL⟩ : ∃ n, toks.length = n := ⟨_, rfl⟩
  rw [hL] at hrl
  have HLL := Lib.hid hL
  clear hL
  cases er with
  | none =>
    obtain ⟨ap, hap⟩ : ∃ a : Nat, 0 = a := ⟨_, rfl⟩
    obtain ⟨n, hn⟩ : ∃ a : Nat, 0 = a := ⟨_, rfl⟩
    have hnb : ((n : Int) != 0) = false := by simp [← hn]
    have HPE : Hid (∀ p e, (none : Option (Nat × Nat)) ≠ some (p, e)) := fun p e h => by cases h
    have HER : Hid ((none : Option (Nat × Nat)).isSome = false) := rfl
    have HNN := Lib.hid hn
    have HAP := Lib.hid hap
    obtain ⟨st, hst⟩ : ∃ st, L = st := ⟨_, rfl⟩
    have HST := Lib.hid (hst.symm)
    have HSTE := Lib.hid hst
    clear hre hn hst hap
    have HRA2 : Hid (∀ wx : World, Calls Tryd.prog 10 #[.string s] wx fun e w' => Below wx.heap.size wx w' ∧ ∃ v, e = .returned (.tuple #[v, .int .i64 (ap : Int), .int .i64 (n : Int)]) ∧ OwnToks w' wx.heap.size v toks) := fun wx => by
      have := HRA.out wx
      rw [← HNN.out, ← HAP.out]
      exact this
    clear HRA
    refine calls_of_wp_marks Tryd.func4 rfl ?_
    simp only [Tryd.ntmps4, List.size_toArray, List.length_cons, List.length_nil, Nat.reduceAdd, Nat.reduceSub, Array.replicate_succ, Array.replicate_zero, List.push_toArray, List.append_toArray, List.nil_append, List.cons_append]
    go_wp2_with (go_at_call 9; refine (scanf_any _ _).mono ?_; rintro e w' ⟨rfl, rfl⟩)
    obtain ⟨WA, hWA⟩ : ∃ W, (w.alloc (.cells #[.bool false] 4)).alloc (.cells #[.string s] 9) = W := ⟨_, rfl⟩
    have hA : Below w.heap.size w WA := by rw [← hWA]; exact ((Below.refl _ w).alloc (Nat.le_refl _) _).alloc (by simp) _
    have a2 : Blk WA w.heap.size 4 #[.bool false] := by rw [← hWA]; exact (Blk.new _ _ _).alloc _
    have at' : Blk WA (w.heap.size + 1) 9 #[.string s] := by rw [← hWA]; have := Blk.new (w.alloc (.cells #[.bool false] 4)) 9 #[.string s]; simpa using this
    rw [hWA]
    clear hWA
    refine (HSP.out WA hA).mono ?_
    rintro e w1 ⟨rfl, hb1⟩
    have H2 := Lib.hid (a2.below hb1 a2.lt)
    have HT := Lib.hid (at'.below hb1 at'.lt)
    have HB1 := Lib.hid (hA.trans (hb1.mono hA.size))
    have hs1 := HB1.out.size
    clear hA a2 at' hb1
    go_wp2_with fail
    refine (HRA2.out w1).mono ?_
    rintro e w2 ⟨hb2, vq, rfl, ho⟩
    have H2' := Lib.hid (H2.out.below hb2 H2.out.lt)
    have HT' := Lib.hid (HT.out.below hb2 HT.out.lt)
    have HB2 := Lib.hid (HB1.out.trans (hb2.mono hs1))
    have hs2 := HB2.out.size
    obtain ⟨Aq, cq, rfl⟩ := own_form ho
    rw [HLL.out] at ho ⊢
    have HO := Lib.hid ho
    clear ho hb2 H2 HT HB1
    go_wp2_with fail
    obtain ⟨V, hV⟩ : ∃ W, ((((w2.alloc (.cells #[.slice Aq L cq] 26)).alloc (.cells #[.int .i64 ap] 3)).alloc (.cells #[.int .i64 n] 3)).alloc (.cells #[.int .i64 L] 3)).alloc (.cells #[.int .i64 0] 3) = W := ⟨_, rfl⟩
    have hbV : Below w2.heap.size w2 V := by rw [← hV]; exact (((((Below.refl _ w2).alloc (Nat.le_refl _) _).alloc (by simp) _).alloc (by simp; omega) _).alloc (by simp; omega) _).alloc (by simp; omega) _
    have est : Value.int .i64 L = .int .i64 st := by rw [← HSTE.out]
    have hg : LS w s toks ap n st 0 w.heap.size (w.heap.size + 1) w2.heap.size (w2.heap.size + 1) (w2.heap.size + 1 + 1) (w2.heap.size + 1 + 1 + 1) (w2.heap.size + 1 + 1 + 1 + 1) w1.heap.size (.slice Aq L cq) [] V := by
      rw [est] at hV
      refine ⟨H2'.out.below hbV H2'.out.lt, HT'.out.below hbV HT'.out.lt, ?_, HO.out.below hbV, ?_, ?_, ?_, ?_, HB2.out.trans (hbV.mono hs2), fun D hD => by cases hD⟩
      · rw [← hV]; exact ((((Blk.new _ _ _).alloc _).alloc _).alloc _).alloc _
      · rw [← hV]; have := (((Blk.new (w2.alloc (.cells #[.slice Aq L cq] 26)) 3 #[.int .i64 ap]).alloc (.cells #[.int .i64 n] 3)).alloc (.cells #[.int .i64 st] 3)).alloc (.cells #[.int .i64 0] 3); simpa using this
      · rw [← hV]; have := ((Blk.new ((w2.alloc (.cells #[.slice Aq L cq] 26)).alloc (.cells #[.int .i64 ap] 3)) 3 #[.int .i64 n]).alloc (.cells #[.int .i64 st] 3)).alloc (.cells #[.int .i64 0] 3); simpa using this
      · rw [← hV]; have := (Blk.new (((w2.alloc (.cells #[.slice Aq L cq] 26)).alloc (.cells #[.int .i64 ap] 3)).alloc (.cells #[.int .i64 n] 3)) 3 #[.int .i64 st]).alloc (.cells #[.int .i64 0] 3); simpa using this
      · rw [← hV]; have := Blk.new ((((w2.alloc (.cells #[.slice Aq L cq] 26)).alloc (.cells #[.int .i64 ap] 3)).alloc (.cells #[.int .i64 n] 3)).alloc (.cells #[.int .i64 st] 3)) 3 #[.int .i64 0]; simpa using this
    rw [hV]
    have HG := Lib.hid hg
    clear hV hbV hg est H2' HT' HO HB2
    refine wp_loop_rounds 4 ?_
    rw [rounds_succ]
    have q8 := HG.out.c8.cell 0
    simp at q8
    go_wp2_with fail
    obtain ⟨V9, hV9⟩ : ∃ W, V.alloc (.cells #[.int .i64 0] 3) = W := ⟨_, rfl⟩
    have hb9 : Below V.heap.size V V9 := by rw [← hV9]; exact (Below.refl _ _).alloc (Nat.le_refl _) _
    have hc9 : Blk V9 V.heap.size 3 #[.int .i64 0] := by rw [← hV9]; exact Blk.new _ _ _
    have HG9 : Hid (LS w s toks ap n st 0 w.heap.size (w.heap.size + 1) w2.heap.size (w2.heap.size + 1) (w2.heap.size + 1 + 1) (w2.heap.size + 1 + 1 + 1) (w2.heap.size + 1 + 1 + 1 + 1) w1.heap.size (.slice Aq L cq) [] V9) := HG.out.same1 (n₁ := w.heap.size) (Same1.of_below hb9) (Nat.le_refl _)
    have HC9 := Lib.hid hc9
    have hz9 := hb9.size
    rw [hV9]
    clear hV9 hc9 hb9 q8
    refine (wpIn_wide (n := 9)).1 ?_
    refine' wp_iter_a 40 (gf := 14) (lb := #[.pointer (some ⟨w.heap.size + 1, 0, none⟩)]) rfl (enters_of Tryd.func14 (by kernel_rfl) rfl) (encs := lyEnc) (fun x => rfl) (Pre := fun _ _ _ => True) _ allW1 (fun x W => (Below.refl _ W).alloc (Nat.le_refl _) _) (fun _ _ _ _ _ _ _ _ => trivial)
      (fun W1 hb hn => HRI.out V9.heap.size (w.heap.size + 1) HG9.out.ct.lt W1 hn)
      (fun pre V' => LS w s toks ap n st 0 w.heap.size (w.heap.size + 1) w2.heap.size (w2.heap.size + 1) (w2.heap.size + 1 + 1) (w2.heap.size + 1 + 1 + 1) (w2.heap.size + 1 + 1 + 1 + 1) w1.heap.size (.slice Aq L cq) [] V' ∧ Blk V' V.heap.size 3 #[.int .i64 pre.length])
      (fun c V' => False)
      ?hI1 ?hIx1 ?hAux1 ⟨HG9.out, HC9.out⟩ ?assign1 ?body1 ?done1 ?stop1
    case assign1 =>
      intro l x V' K hK
      simp only [lyEnc, tokA]
      gi_wp2
      exact hK
    case hI1 =>
      rintro pre A B ⟨h1, h2⟩ hs
      exact ⟨h1.same1 hs (by have := HG9.out.below.size; omega), hs.blk h2 (by decide)⟩
    case hIx1 =>
      exact fun c A B h _ => h.elim
    case hAux1 =>
      rintro pre V' ⟨h1, _⟩
      exact ⟨h1.ct.cell 0, HLB.out _ h1.below⟩
    case body1 =>
      rintro l pre x W0 Va W ⟨hg, h9⟩ hs1 hs2 hblk hszW - hstep hl hn0
      have hsame := hs1.trans hs2
      have hg' := hg.same1 hsame (by have := HG9.out.below.size; omega)
      have h9' := hsame.blk h9 (show 3 ≠ 40 by decide)
      have hlt9 := h9.lt
      have gt := hblk Va.heap.size 30 #[.int .i64 (x.1.kind : Int), .string ⟨x.1.text.toArray⟩, .int .i64 x.1.num, .int .i64 (x.1.pos : Int)] (Blk.new _ _ _)
      obtain ⟨m0, m1, m2, m3, -, -, -, -⟩ := rtok_cells gt
      have q9 := h9'.cell 0
      have f9 := h9'.frozen 0
      have q4 := hg'.c4.cell 0
      have q5 := hg'.c5.cell 0
      have q6 := hg'.c6.cell 0
      have q7 := hg'.c7.cell 0
      have q8 := hg'.c8.cell 0
      simp at q4 q5 q6 q7 q8 q9
      have HG1 := Lib.hid hg'
      have H91 := Lib.hid h9'
      have hget := Lex.items_get (HSTP.out pre x hstep)
      obtain ⟨k, hk⟩ : ∃ k, pre.length = k := ⟨_, rfl⟩
      rw [hk] at q9 hget
      have HK := Lib.hid hk
      have hfl : w.heap.size ≤ W0.heap.size := by have := HG9.out.below.size; omega
      clear hg hg' h9 h9' hsame hs1 hs2 hblk hszW gt hstep hk
      rcases hget with ⟨t, ht, rfl⟩ | ⟨hkL, p, e, hpe, rfl⟩
      · have ht : toks[k]? = some t := ht
        have hkL : k < L := by have := (List.getElem?_eq_some_iff.1 ht).1; have := HLL.out; omega
        have hkL' : (k : Int) < L := by omega
        have hst0 := HST.out
        have hd1 : decide (st ≤ k) = false := decide_eq_false (by omega)
        have hd1' : decide ((st : Int) ≤ k) = false := decide_eq_false (by omega)
        have hd2 : decide (k < L) = true := decide_eq_true hkL
        have hd3 : ((k : Int) == L) = false := by rw [beq_eq_false_iff_ne]; omega
        have hkb : (k : Int) ≤ 16777217 := by omega
        obtain ⟨gq, rfl, -, -, z0, z1, z2, z3⟩ := HG1.out.own.at_ ht
        have hu := undef_no
        have hgn := (HG1.out.drewN)
        have HGN := Lib.hid (fun nq => (HG1.out.drewN nq).set9 HG.out (show Blk (W.drewN nq) _ _ _ from H91.out) (.int .i64 ((k : Int) + 1)))
        have HH9 := Lib.hid (fun nq => (show Blk (W.drewN nq) _ _ _ from H91.out).set_ 0 (.int .i64 ((k : Int) + 1)))
        have HR8 := Lib.hid (fun nq => (HGN.out nq).c8.cell 0)
        clear hgn ht hst0
        gi_wp2
        refine wpIn_region_round (by kernel_rfl) (by kernel_rfl) (by kernel_rfl) ?_
        repeat (gi_big_quiet_step (fail))
        refine wpQuietIn_nil ?_
        intro _ hw'
        obtain ⟨nq, hw''⟩ := hw'
        subst hw''
        clear hd1 hd1' hd2 hd3 hu z0 z1 z2 z3 m0 m1 m2 m3 q4 q5 q6 q7
        have r8 := HR8.out nq
        simp at r8
        gi_wp2
        exact ⟨((keepsOthers_drewN _ _).from _).trans ((KeepsOthers.setCell _ _ _).from _), keepT_drewN (keepT_set9 (show Blk (W.drewN nq) _ _ _ from H91.out) _), HGN.out nq, blk_count (HH9.out nq) HK.out⟩
      · exact absurd hpe (HPE.out p e)
    case done1 =>
      rintro D0 xs V' hD hend ⟨hg, h9⟩ hK
      have hxs : xs.length = st := by
        have h3 := HLL.out
        have h4 := HST.out
        have h5 := HEND.out _ hend
        rw [h5, Lex.items_length]
        show toks.length + (if (none : Option (Nat × Nat)).isSome then 1 else 0) = st
        simp
        omega
      clear hend
      have q9 := h9.cell 0
      have q7 := hg.c7.cell 0
      have q8 := hg.c8.cell 0
      simp at q7 q8 q9
      rw [hxs] at q9
      have hse : ((st : Int) != st) = false := by simp
      have hle0 : w.heap.size ≤ D0 := by have := HG9.out.below.size; omega
      have HGD := Lib.hid (hg.next hK 1)
      have hz := hg.below.size
      clear hg h9 hK hxs
      go_wp2
      clear q7 q8 q9
      obtain ⟨V10, hVn⟩ : ∃ W, V'.alloc (.cells #[.int .i64 1] 3) = W := ⟨_, rfl⟩
      have hg2 : LS w s toks ap n st 1 w.heap.size (w.heap.size + 1) w2.heap.size (w2.heap.size + 1) (w2.heap.size + 1 + 1) (w2.heap.size + 1 + 1 + 1) V'.heap.size w1.heap.size (.slice Aq L cq) [D0] V10 := by rw [← hVn]; exact HGD.out
      have hz2 : V'.heap.size < V10.heap.size := by rw [← hVn]; simp
      rw [hVn]
      clear hVn HGD HG HG9 HC9
      have HG := Lib.hid hg2
      clear hg2
      obtain ⟨B0, hB0⟩ : ∃ b, V'.heap.size = b := ⟨_, rfl⟩
      rw [hB0] at HG hz2 ⊢
      clear hB0
      rw [rounds_succ]
      have q8 := HG.out.c8.cell 0
      simp at q8
      go_wp2_with fail
      obtain ⟨V9, hV9⟩ : ∃ W, V10.alloc (.cells #[.int .i64 0] 3) = W := ⟨_, rfl⟩
      have hb9 : Below V10.heap.size V10 V9 := by rw [← hV9]; exact (Below.refl _ _).alloc (Nat.le_refl _) _
      have hc9 : Blk V9 V10.heap.size 3 #[.int .i64 0] := by rw [← hV9]; exact Blk.new _ _ _
      have HG9 : Hid (LS w s toks ap n st 1 w.heap.size (w.heap.size + 1) w2.heap.size (w2.heap.size + 1) (w2.heap.size + 1 + 1) (w2.heap.size + 1 + 1 + 1) B0 w1.heap.size (.slice Aq L cq) [D0] V9) := HG.out.same1 (n₁ := w.heap.size) (Same1.of_below hb9) (Nat.le_refl _)
      have HC9 := Lib.hid hc9
      have hz9 := hb9.size
      rw [hV9]
      clear hV9 hc9 hb9 q8
      refine (wpIn_wide (n := 9)).1 ?_
      refine' wp_iter_a 40 (gf := 14) (lb := #[.pointer (some ⟨w.heap.size + 1, 0, none⟩)]) rfl (enters_of Tryd.func14 (by kernel_rfl) rfl) (encs := lyEnc) (fun x => rfl) (Pre := fun _ _ _ => True) _ allW1 (fun x W => (Below.refl _ W).alloc (Nat.le_refl _) _) (fun _ _ _ _ _ _ _ _ => trivial)
        (fun W1 hb hn => HRI.out V9.heap.size (w.heap.size + 1) HG9.out.ct.lt W1 hn)
        (fun pre V' => LS w s toks ap n st 1 w.heap.size (w.heap.size + 1) w2.heap.size (w2.heap.size + 1) (w2.heap.size + 1 + 1) (w2.heap.size + 1 + 1 + 1) B0 w1.heap.size (.slice Aq L cq) [D0] V' ∧ Blk V' V10.heap.size 3 #[.int .i64 pre.length] ∧ pre = [])
        (fun c V' => c = .exit 2 ∧ LS w s toks ap n st 1 w.heap.size (w.heap.size + 1) w2.heap.size (w2.heap.size + 1) (w2.heap.size + 1 + 1) (w2.heap.size + 1 + 1 + 1) B0 w1.heap.size (.slice Aq L cq) [D0] V' ∧ Blk V' V10.heap.size 3 #[.int .i64 1] ∧ 1 ≤ st)
        ?hI2 ?hIx2 ?hAux2 ⟨HG9.out, HC9.out, rfl⟩ ?assign2 ?body2 ?done2 ?stop2
      case assign2 =>
        intro l x V' K hK
        simp only [lyEnc, tokA]
        gi_wp2
        exact hK
      case hI2 =>
        rintro pre A B ⟨h1, h2, h3⟩ hs
        exact ⟨h1.same1 hs (by have := HG9.out.below.size; omega), hs.blk h2 (by decide), h3⟩
      case hIx2 =>
        rintro c A B ⟨h0, h1, h2, h3⟩ hs
        exact ⟨h0, h1.same1 hs (by have := HG9.out.below.size; omega), hs.blk h2 (by decide), h3⟩
      case hAux2 =>
        rintro pre V' ⟨h1, _⟩
        exact ⟨h1.ct.cell 0, HLB.out _ h1.below⟩
      case body2 =>
        rintro l pre x W0 Va W ⟨hg, h9, hpn⟩ hs1 hs2 hblk hszW - hstep hl hn0
        have hsame := hs1.trans hs2
        have hg' := hg.same1 hsame (by have := HG9.out.below.size; omega)
        have h9' := hsame.blk h9 (show 3 ≠ 40 by decide)
        have hlt9 := h9.lt
        have gt := hblk Va.heap.size 30 #[.int .i64 (x.1.kind : Int), .string ⟨x.1.text.toArray⟩, .int .i64 x.1.num, .int .i64 (x.1.pos : Int)] (Blk.new _ _ _)
        obtain ⟨m0, m1, m2, m3, -, -, -, -⟩ := rtok_cells gt
        have q9 := h9'.cell 0
        have f9 := h9'.frozen 0
        have q4 := hg'.c4.cell 0
        have q5 := hg'.c5.cell 0
        have q6 := hg'.c6.cell 0
        have q7 := hg'.c7.cell 0
        have q8 := hg'.c8.cell 0
        simp at q4 q5 q6 q7 q8 q9
        have HG1 := Lib.hid hg'
        have H91 := Lib.hid h9'
        have hget := Lex.items_get (HSTP.out pre x hstep)
        obtain ⟨k, hk⟩ : ∃ k, pre.length = k := ⟨_, rfl⟩
        rw [hk] at q9 hget
        have HK := Lib.hid hk
        have hfl : w.heap.size ≤ W0.heap.size := by have := HG9.out.below.size; omega
        clear hg hg' h9 h9' hsame hs1 hs2 hblk hszW gt hstep hk
        rcases hget with ⟨t, ht, rfl⟩ | ⟨hkL, p, e, hpe, rfl⟩
        · have ht : toks[k]? = some t := ht
          have hkL : k < L := by have := (List.getElem?_eq_some_iff.1 ht).1; have := HLL.out; omega
          have hkL' : (k : Int) < L := by omega
          have hst0 := HST.out
          have hd1 : decide (st ≤ k) = false := decide_eq_false (by omega)
          have hd1' : decide ((st : Int) ≤ k) = false := decide_eq_false (by omega)
          have hd2 : decide (k < L) = true := decide_eq_true hkL
          have hd3 : ((k : Int) == L) = false := by rw [beq_eq_false_iff_ne]; omega
          have hkb : (k : Int) ≤ 16777217 := by omega
          obtain ⟨gq, rfl, -, -, z0, z1, z2, z3⟩ := HG1.out.own.at_ ht
          have hu := undef_no
          have hgn := (HG1.out.drewN)
          have HGN := Lib.hid (fun nq => (HG1.out.drewN nq).set9 HG.out (show Blk (W.drewN nq) _ _ _ from H91.out) (.int .i64 ((k : Int) + 1)))
          have HH9 := Lib.hid (fun nq => (show Blk (W.drewN nq) _ _ _ from H91.out).set_ 0 (.int .i64 ((k : Int) + 1)))
          have HR8 := Lib.hid (fun nq => (HGN.out nq).c8.cell 0)
          clear hgn ht hst0
          gi_wp2
          refine wpIn_region_round (by kernel_rfl) (by kernel_rfl) (by kernel_rfl) ?_
          repeat (gi_big_quiet_step (fail))
          refine wpQuietIn_nil ?_
          intro _ hw'
          obtain ⟨nq, hw''⟩ := hw'
          subst hw''
          clear hd1 hd1' hd2 hd3 hu z0 z1 z2 z3 m0 m1 m2 m3 q4 q5 q6 q7
          have r8 := HR8.out nq
          simp at r8
          gi_wp2
          obtain rfl : pre = [] := hpn
          have h9f := blk_count (x := (⟨0, [], 0, 0⟩, 0)) (HH9.out nq) HK.out
          have hst1 : 1 ≤ st := by have := HST.out; omega
          exact ⟨((keepsOthers_drewN _ _).from _).trans ((KeepsOthers.setCell _ _ _).from _), rfl, HGN.out nq, h9f, hst1⟩
        · exact absurd hpe (HPE.out p e)
      case done2 =>
        rintro D1 xs V' hD hend ⟨hg, h9, rfl⟩ hK
        have hxs : ([] : List LY).length = st := by
          have h3 := HLL.out
          have h4 := HST.out
          have h5 := HEND.out _ hend
          rw [h5, Lex.items_length]
          show toks.length + (if (none : Option (Nat × Nat)).isSome then 1 else 0) = st
          simp
          omega
        clear hend
        have q9 := h9.cell 0
        have q7 := hg.c7.cell 0
        have q8 := hg.c8.cell 0
        simp at q7 q8 q9
        have hst00 : st = 0 := hxs.symm
        rw [hst00] at q7
        have hlt1 : D0 < D1 := by have := (HG9.out.marks D0 (by simp)); have := (Array.getElem?_eq_some_iff.1 this).1; omega
        have hle1 : w.heap.size ≤ D1 := by have := HG9.out.below.size; omega
        have HGD := Lib.hid (hg.next hK 2)
        have hz := hg.below.size
        clear hg h9 hK hxs hst00
        go_wp2
        clear q7 q8 q9
        obtain ⟨V11, hVn⟩ : ∃ W, V'.alloc (.cells #[.int .i64 2] 3) = W := ⟨_, rfl⟩
        have hg2 : LS w s toks ap n st 2 w.heap.size (w.heap.size + 1) w2.heap.size (w2.heap.size + 1) (w2.heap.size + 1 + 1) (w2.heap.size + 1 + 1 + 1) V'.heap.size w1.heap.size (.slice Aq L cq) [D1, D0] V11 := by rw [← hVn]; exact HGD.out
        have hz2 : V'.heap.size < V11.heap.size := by rw [← hVn]; simp
        rw [hVn]
        clear hVn HGD HG HG9 HC9
        have HG := Lib.hid hg2
        clear hg2
        obtain ⟨B1, hB1⟩ : ∃ b, V'.heap.size = b := ⟨_, rfl⟩
        rw [hB1] at HG hz2 ⊢
        clear hB1
        rw [rounds_succ]
        have q8 := HG.out.c8.cell 0
        simp at q8
        go_wp2_with fail
        obtain ⟨V9, hV9⟩ : ∃ W, V11.alloc (.cells #[.int .i64 0] 3) = W := ⟨_, rfl⟩
        have hb9 : Below V11.heap.size V11 V9 := by rw [← hV9]; exact (Below.refl _ _).alloc (Nat.le_refl _) _
        have hc9 : Blk V9 V11.heap.size 3 #[.int .i64 0] := by rw [← hV9]; exact Blk.new _ _ _
        have HG9 : Hid (LS w s toks ap n st 2 w.heap.size (w.heap.size + 1) w2.heap.size (w2.heap.size + 1) (w2.heap.size + 1 + 1) (w2.heap.size + 1 + 1 + 1) B1 w1.heap.size (.slice Aq L cq) [D1, D0] V9) := HG.out.same1 (n₁ := w.heap.size) (Same1.of_below hb9) (Nat.le_refl _)
        have HC9 := Lib.hid hc9
        have hz9 := hb9.size
        rw [hV9]
        clear hV9 hc9 hb9 q8
        refine (wpIn_wide (n := 9)).1 ?_
        refine' wp_iter_a 40 (gf := 14) (lb := #[.pointer (some ⟨w.heap.size + 1, 0, none⟩)]) rfl (enters_of Tryd.func14 (by kernel_rfl) rfl) (encs := lyEnc) (fun x => rfl) (Pre := fun _ _ _ => True) _ allW1 (fun x W => (Below.refl _ W).alloc (Nat.le_refl _) _) (fun _ _ _ _ _ _ _ _ => trivial)
          (fun W1 hb hn => HRI.out V9.heap.size (w.heap.size + 1) HG9.out.ct.lt W1 hn)
          (fun pre V' => LS w s toks ap n st 2 w.heap.size (w.heap.size + 1) w2.heap.size (w2.heap.size + 1) (w2.heap.size + 1 + 1) (w2.heap.size + 1 + 1 + 1) B1 w1.heap.size (.slice Aq L cq) [D1, D0] V' ∧ Blk V' V11.heap.size 3 #[.int .i64 pre.length])
          (fun c V' => False)
          ?hI3 ?hIx3 ?hAux3 ⟨HG9.out, HC9.out⟩ ?assign3 ?body3 ?done3 ?stop3
        case assign3 =>
          intro l x V' K hK
          simp only [lyEnc, tokA]
          gi_wp2
          exact hK
        case hI3 =>
          rintro pre A B ⟨h1, h2⟩ hs
          exact ⟨h1.same1 hs (by have := HG9.out.below.size; omega), hs.blk h2 (by decide)⟩
        case hIx3 =>
          exact fun c A B h _ => h.elim
        case hAux3 =>
          rintro pre V' ⟨h1, _⟩
          exact ⟨h1.ct.cell 0, HLB.out _ h1.below⟩
        case body3 =>
          rintro l pre x W0 Va W ⟨hg, h9⟩ hs1 hs2 hblk hszW - hstep hl hn0
          have hsame := hs1.trans hs2
          have hg' := hg.same1 hsame (by have := HG9.out.below.size; omega)
          have h9' := hsame.blk h9 (show 3 ≠ 40 by decide)
          have hlt9 := h9.lt
          have gt := hblk Va.heap.size 30 #[.int .i64 (x.1.kind : Int), .string ⟨x.1.text.toArray⟩, .int .i64 x.1.num, .int .i64 (x.1.pos : Int)] (Blk.new _ _ _)
          obtain ⟨m0, m1, m2, m3, -, -, -, -⟩ := rtok_cells gt
          have q9 := h9'.cell 0
          have f9 := h9'.frozen 0
          have q4 := hg'.c4.cell 0
          have q5 := hg'.c5.cell 0
          have q6 := hg'.c6.cell 0
          have q7 := hg'.c7.cell 0
          have q8 := hg'.c8.cell 0
          simp at q4 q5 q6 q7 q8 q9
          have HG1 := Lib.hid hg'
          have H91 := Lib.hid h9'
          have hget := Lex.items_get (HSTP.out pre x hstep)
          obtain ⟨k, hk⟩ : ∃ k, pre.length = k := ⟨_, rfl⟩
          rw [hk] at q9 hget
          have HK := Lib.hid hk
          have hfl : w.heap.size ≤ W0.heap.size := by have := HG9.out.below.size; omega
          clear hg hg' h9 h9' hsame hs1 hs2 hblk hszW gt hstep hk
          rcases hget with ⟨t, ht, rfl⟩ | ⟨hkL, p, e, hpe, rfl⟩
          · have ht : toks[k]? = some t := ht
            have hkL : k < L := by have := (List.getElem?_eq_some_iff.1 ht).1; have := HLL.out; omega
            have hkL' : (k : Int) < L := by omega
            have hst0 := HST.out
            have hd1 : decide (st ≤ k) = false := decide_eq_false (by omega)
            have hd1' : decide ((st : Int) ≤ k) = false := decide_eq_false (by omega)
            have hd2 : decide (k < L) = true := decide_eq_true hkL
            have hd3 : ((k : Int) == L) = false := by rw [beq_eq_false_iff_ne]; omega
            have hkb : (k : Int) ≤ 16777217 := by omega
            obtain ⟨gq, rfl, -, -, z0, z1, z2, z3⟩ := HG1.out.own.at_ ht
            have hu := undef_no
            have hgn := (HG1.out.drewN)
            have HGN := Lib.hid (fun nq => (HG1.out.drewN nq).set9 HG.out (show Blk (W.drewN nq) _ _ _ from H91.out) (.int .i64 ((k : Int) + 1)))
            have HH9 := Lib.hid (fun nq => (show Blk (W.drewN nq) _ _ _ from H91.out).set_ 0 (.int .i64 ((k : Int) + 1)))
            have HR8 := Lib.hid (fun nq => (HGN.out nq).c8.cell 0)
            clear hgn ht hst0
            gi_wp2
            refine wpIn_region_round (by kernel_rfl) (by kernel_rfl) (by kernel_rfl) ?_
            repeat (gi_big_quiet_step (fail))
            refine wpQuietIn_nil ?_
            intro _ hw'
            obtain ⟨nq, hw''⟩ := hw'
            subst hw''
            clear hd1 hd1' hd2 hd3 hu z0 z1 z2 z3 m0 m1 m2 m3 q4 q5 q6 q7
            have r8 := HR8.out nq
            simp at r8
            gi_wp2
            exact ⟨((keepsOthers_drewN _ _).from _).trans ((KeepsOthers.setCell _ _ _).from _), keepT_drewN (keepT_set9 (show Blk (W.drewN nq) _ _ _ from H91.out) _), HGN.out nq, blk_count (HH9.out nq) HK.out⟩
          · exact absurd hpe (HPE.out p e)
        case done3 =>
          rintro D2 xs V' hD hend ⟨hg, h9⟩ hK
          have hxs : xs.length = st := by
            have h3 := HLL.out
            have h4 := HST.out
            have h5 := HEND.out _ hend
            rw [h5, Lex.items_length]
            show toks.length + (if (none : Option (Nat × Nat)).isSome then 1 else 0) = st
            simp
            omega
          clear hend
          have q9 := h9.cell 0
          have q7 := hg.c7.cell 0
          have q8 := hg.c8.cell 0
          simp at q7 q8 q9
          rw [hxs] at q9
          have hse : ((st : Int) != st) = false := by simp
          have hlt2 : D1 < D2 := by have := (HG9.out.marks D1 (by simp)); have := (Array.getElem?_eq_some_iff.1 this).1; omega
          have hle2 : w.heap.size ≤ D2 := by have := HG9.out.below.size; omega
          have HGD := Lib.hid (hg.next hK 3)
          have hz := hg.below.size
          clear hg h9 hK hxs
          go_wp2
          clear q7 q8 q9
          obtain ⟨V12, hVn⟩ : ∃ W, V'.alloc (.cells #[.int .i64 3] 3) = W := ⟨_, rfl⟩
          have hg2 : LS w s toks ap n st 3 w.heap.size (w.heap.size + 1) w2.heap.size (w2.heap.size + 1) (w2.heap.size + 1 + 1) (w2.heap.size + 1 + 1 + 1) V'.heap.size w1.heap.size (.slice Aq L cq) [D2, D1, D0] V12 := by rw [← hVn]; exact HGD.out
          have hz2 : V'.heap.size < V12.heap.size := by rw [← hVn]; simp
          rw [hVn]
          clear hVn HGD HG HG9 HC9
          have HG := Lib.hid hg2
          clear hg2
          obtain ⟨B2, hB2⟩ : ∃ b, V'.heap.size = b := ⟨_, rfl⟩
          rw [hB2] at HG hz2 ⊢
          clear hB2
          rw [rounds_succ]
          have q8 := HG.out.c8.cell 0
          have q2 := HG.out.c2.cell 0
          have f2 := HG.out.c2.frozen 0
          simp at q8 q2
          go_wp2
          have hne2 : ∀ D ∈ [D2, D1, D0], D ≠ w.heap.size := fun D hD e => by
            subst e
            have h1 := HG.out.marks _ hD
            have h2 := HG.out.c2
            unfold Blk at h2
            rw [h2] at h1
            cases h1
          have mk : ∀ D ∈ [D2, D1, D0], (V12.setCell ⟨w.heap.size, 0, none⟩ (.bool true)).heap[D]? = some (.deferred (some [])) := fun D hD => by
            rw [Below.heap_setCell _ _ _ _ (hne2 D hD)]
            exact HG.out.marks D hD
          have m2 := mk D2 (by simp)
          have m1 := mk D1 (by simp)
          have m0 := mk D0 (by simp)
          have e1 := blk_putObj (o := .deferred none) m2 (HG.out.c2.set_ 0 (.bool true))
          have m1' : ((V12.setCell ⟨w.heap.size, 0, none⟩ (.bool true)).putObj D2 (.deferred none)).heap[D1]? = some (.deferred (some [])) := (World.putObj_heap_other (by omega)).trans m1
          have e2 := blk_putObj (o := .deferred none) m1' e1
          have m0' : (((V12.setCell ⟨w.heap.size, 0, none⟩ (.bool true)).putObj D2 (.deferred none)).putObj D1 (.deferred none)).heap[D0]? = some (.deferred (some [])) := (World.putObj_heap_other (by omega)).trans ((World.putObj_heap_other (by omega)).trans m0)
          have e3 := blk_putObj (o := .deferred none) m0' e2
          have q3 := e3.cell 0
          simp at q3
          refine ret_marks3 (v := .bool true) m2 m1 m0 hlt2 hlt1 (by simp [results, Tryd.results4, go_sem, q3]) ?_
          exact ⟨rfl, below_putObj (below_putObj (below_putObj (HG.out.below.setCell (p := ⟨w.heap.size, 0, none⟩) (Nat.le_refl _) _) hle2) hle1) hle0⟩
        case stop3 =>
          exact fun D c V' hD h hK => h.elim
      case stop2 =>
        rintro D1 c V' hD ⟨rfl, hg, h9, hst1⟩ hK
        refine wpIn_wide.2 ?_
        have q9 := h9.cell 0
        have q7 := hg.c7.cell 0
        have q8 := hg.c8.cell 0
        simp at q7 q8 q9
        have hmin : min (1 : Int) (st : Int) = 1 := by omega
        have hlt1 : D0 < D1 := by have := (HG9.out.marks D0 (by simp)); have := (Array.getElem?_eq_some_iff.1 this).1; omega
        have hle1 : w.heap.size ≤ D1 := by have := HG9.out.below.size; omega
        have HGD := Lib.hid (hg.next hK 2)
        have hz := hg.below.size
        clear hg h9 hK
        go_wp2
        clear q7 q8 q9
        obtain ⟨V11, hVn⟩ : ∃ W, V'.alloc (.cells #[.int .i64 2] 3) = W := ⟨_, rfl⟩
        have hg2 : LS w s toks ap n st 2 w.heap.size (w.heap.size + 1) w2.heap.size (w2.heap.size + 1) (w2.heap.size + 1 + 1) (w2.heap.size + 1 + 1 + 1) V'.heap.size w1.heap.size (.slice Aq L cq) [D1, D0] V11 := by rw [← hVn]; exact HGD.out
        have hz2 : V'.heap.size < V11.heap.size := by rw [← hVn]; simp
        rw [hVn]
        clear hVn HGD HG HG9 HC9
        have HG := Lib.hid hg2
        clear hg2
        obtain ⟨B1, hB1⟩ : ∃ b, V'.heap.size = b := ⟨_, rfl⟩
        rw [hB1] at HG hz2 ⊢
        clear hB1
        rw [rounds_succ]
        have q8 := HG.out.c8.cell 0
        simp at q8
        go_wp2_with fail
        obtain ⟨V9, hV9⟩ : ∃ W, V11.alloc (.cells #[.int .i64 0] 3) = W := ⟨_, rfl⟩
        have hb9 : Below V11.heap.size V11 V9 := by rw [← hV9]; exact (Below.refl _ _).alloc (Nat.le_refl _) _
        have hc9 : Blk V9 V11.heap.size 3 #[.int .i64 0] := by rw [← hV9]; exact Blk.new _ _ _
        have HG9 : Hid (LS w s toks ap n st 2 w.heap.size (w.heap.size + 1) w2.heap.size (w2.heap.size + 1) (w2.heap.size + 1 + 1) (w2.heap.size + 1 + 1 + 1) B1 w1.heap.size (.slice Aq L cq) [D1, D0] V9) := HG.out.same1 (n₁ := w.heap.size) (Same1.of_below hb9) (Nat.le_refl _)
        have HC9 := Lib.hid hc9
        have hz9 := hb9.size
        rw [hV9]
        clear hV9 hc9 hb9 q8
        refine (wpIn_wide (n := 9)).1 ?_
        refine' wp_iter_a 40 (gf := 14) (lb := #[.pointer (some ⟨w.heap.size + 1, 0, none⟩)]) rfl (enters_of Tryd.func14 (by kernel_rfl) rfl) (encs := lyEnc) (fun x => rfl) (Pre := fun _ _ _ => True) _ allW1 (fun x W => (Below.refl _ W).alloc (Nat.le_refl _) _) (fun _ _ _ _ _ _ _ _ => trivial)
          (fun W1 hb hn => HRI.out V9.heap.size (w.heap.size + 1) HG9.out.ct.lt W1 hn)
          (fun pre V' => LS w s toks ap n st 2 w.heap.size (w.heap.size + 1) w2.heap.size (w2.heap.size + 1) (w2.heap.size + 1 + 1) (w2.heap.size + 1 + 1 + 1) B1 w1.heap.size (.slice Aq L cq) [D1, D0] V' ∧ Blk V' V11.heap.size 3 #[.int .i64 pre.length])
          (fun c V' => False)
          ?hI4 ?hIx4 ?hAux4 ⟨HG9.out, HC9.out⟩ ?assign4 ?body4 ?done4 ?stop4
        case assign4 =>
          intro l x V' K hK
          simp only [lyEnc, tokA]
          gi_wp2
          exact hK
        case hI4 =>
          rintro pre A B ⟨h1, h2⟩ hs
          exact ⟨h1.same1 hs (by have := HG9.out.below.size; omega), hs.blk h2 (by decide)⟩
        case hIx4 =>
          exact fun c A B h _ => h.elim
        case hAux4 =>
          rintro pre V' ⟨h1, _⟩
          exact ⟨h1.ct.cell 0, HLB.out _ h1.below⟩
        case body4 =>
          rintro l pre x W0 Va W ⟨hg, h9⟩ hs1 hs2 hblk hszW - hstep hl hn0
          have hsame := hs1.trans hs2
          have hg' := hg.same1 hsame (by have := HG9.out.below.size; omega)
          have h9' := hsame.blk h9 (show 3 ≠ 40 by decide)
          have hlt9 := h9.lt
          have gt := hblk Va.heap.size 30 #[.int .i64 (x.1.kind : Int), .string ⟨x.1.text.toArray⟩, .int .i64 x.1.num, .int .i64 (x.1.pos : Int)] (Blk.new _ _ _)
          obtain ⟨m0, m1, m2, m3, -, -, -, -⟩ := rtok_cells gt
          have q9 := h9'.cell 0
          have f9 := h9'.frozen 0
          have q4 := hg'.c4.cell 0
          have q5 := hg'.c5.cell 0
          have q6 := hg'.c6.cell 0
          have q7 := hg'.c7.cell 0
          have q8 := hg'.c8.cell 0
          simp at q4 q5 q6 q7 q8 q9
          have HG1 := Lib.hid hg'
          have H91 := Lib.hid h9'
          have hget := Lex.items_get (HSTP.out pre x hstep)
          obtain ⟨k, hk⟩ : ∃ k, pre.length = k := ⟨_, rfl⟩
          rw [hk] at q9 hget
          have HK := Lib.hid hk
          have hfl : w.heap.size ≤ W0.heap.size := by have := HG9.out.below.size; omega
          clear hg hg' h9 h9' hsame hs1 hs2 hblk hszW gt hstep hk
          rcases hget with ⟨t, ht, rfl⟩ | ⟨hkL, p, e, hpe, rfl⟩
          · have ht : toks[k]? = some t := ht
            have hkL : k < L := by have := (List.getElem?_eq_some_iff.1 ht).1; have := HLL.out; omega
            have hkL' : (k : Int) < L := by omega
            have hst0 := HST.out
            have hd1 : decide (st ≤ k) = false := decide_eq_false (by omega)
            have hd1' : decide ((st : Int) ≤ k) = false := decide_eq_false (by omega)
            have hd2 : decide (k < L) = true := decide_eq_true hkL
            have hd3 : ((k : Int) == L) = false := by rw [beq_eq_false_iff_ne]; omega
            have hkb : (k : Int) ≤ 16777217 := by omega
            obtain ⟨gq, rfl, -, -, z0, z1, z2, z3⟩ := HG1.out.own.at_ ht
            have hu := undef_no
            have hgn := (HG1.out.drewN)
            have HGN := Lib.hid (fun nq => (HG1.out.drewN nq).set9 HG.out (show Blk (W.drewN nq) _ _ _ from H91.out) (.int .i64 ((k : Int) + 1)))
            have HH9 := Lib.hid (fun nq => (show Blk (W.drewN nq) _ _ _ from H91.out).set_ 0 (.int .i64 ((k : Int) + 1)))
            have HR8 := Lib.hid (fun nq => (HGN.out nq).c8.cell 0)
            clear hgn ht hst0
            gi_wp2
            refine wpIn_region_round (by kernel_rfl) (by kernel_rfl) (by kernel_rfl) ?_
            repeat (gi_big_quiet_step (fail))
            refine wpQuietIn_nil ?_
            intro _ hw'
            obtain ⟨nq, hw''⟩ := hw'
            subst hw''
            clear hd1 hd1' hd2 hd3 hu z0 z1 z2 z3 m0 m1 m2 m3 q4 q5 q6 q7
            have r8 := HR8.out nq
            simp at r8
            gi_wp2
            exact ⟨((keepsOthers_drewN _ _).from _).trans ((KeepsOthers.setCell _ _ _).from _), keepT_drewN (keepT_set9 (show Blk (W.drewN nq) _ _ _ from H91.out) _), HGN.out nq, blk_count (HH9.out nq) HK.out⟩
          · exact absurd hpe (HPE.out p e)
        case done4 =>
          rintro D2 xs V' hD hend ⟨hg, h9⟩ hK
          have hxs : xs.length = st := by
            have h3 := HLL.out
            have h4 := HST.out
            have h5 := HEND.out _ hend
            rw [h5, Lex.items_length]
            show toks.length + (if (none : Option (Nat × Nat)).isSome then 1 else 0) = st
            simp
            omega
          clear hend
          have q9 := h9.cell 0
          have q7 := hg.c7.cell 0
          have q8 := hg.c8.cell 0
          simp at q7 q8 q9
          rw [hxs] at q9
          have hse : ((st : Int) != st) = false := by simp
          have hlt2 : D1 < D2 := by have := (HG9.out.marks D1 (by simp)); have := (Array.getElem?_eq_some_iff.1 this).1; omega
          have hle2 : w.heap.size ≤ D2 := by have := HG9.out.below.size; omega
          have HGD := Lib.hid (hg.next hK 3)
          have hz := hg.below.size
          clear hg h9 hK hxs
          go_wp2
          clear q7 q8 q9
          obtain ⟨V12, hVn⟩ : ∃ W, V'.alloc (.cells #[.int .i64 3] 3) = W := ⟨_, rfl⟩
          have hg2 : LS w s toks ap n st 3 w.heap.size (w.heap.size + 1) w2.heap.size (w2.heap.size + 1) (w2.heap.size + 1 + 1) (w2.heap.size + 1 + 1 + 1) V'.heap.size w1.heap.size (.slice Aq L cq) [D2, D1, D0] V12 := by rw [← hVn]; exact HGD.out
          have hz2 : V'.heap.size < V12.heap.size := by rw [← hVn]; simp
          rw [hVn]
          clear hVn HGD HG HG9 HC9
          have HG := Lib.hid hg2
          clear hg2
          obtain ⟨B2, hB2⟩ : ∃ b, V'.heap.size = b := ⟨_, rfl⟩
          rw [hB2] at HG hz2 ⊢
          clear hB2
          rw [rounds_succ]
          have q8 := HG.out.c8.cell 0
          have q2 := HG.out.c2.cell 0
          have f2 := HG.out.c2.frozen 0
          simp at q8 q2
          go_wp2
          have hne2 : ∀ D ∈ [D2, D1, D0], D ≠ w.heap.size := fun D hD e => by
            subst e
            have h1 := HG.out.marks _ hD
            have h2 := HG.out.c2
            unfold Blk at h2
            rw [h2] at h1
            cases h1
          have mk : ∀ D ∈ [D2, D1, D0], (V12.setCell ⟨w.heap.size, 0, none⟩ (.bool true)).heap[D]? = some (.deferred (some [])) := fun D hD => by
            rw [Below.heap_setCell _ _ _ _ (hne2 D hD)]
            exact HG.out.marks D hD
          have m2 := mk D2 (by simp)
          have m1 := mk D1 (by simp)
          have m0 := mk D0 (by simp)
          have e1 := blk_putObj (o := .deferred none) m2 (HG.out.c2.set_ 0 (.bool true))
          have m1' : ((V12.setCell ⟨w.heap.size, 0, none⟩ (.bool true)).putObj D2 (.deferred none)).heap[D1]? = some (.deferred (some [])) := (World.putObj_heap_other (by omega)).trans m1
          have e2 := blk_putObj (o := .deferred none) m1' e1
          have m0' : (((V12.setCell ⟨w.heap.size, 0, none⟩ (.bool true)).putObj D2 (.deferred none)).putObj D1 (.deferred none)).heap[D0]? = some (.deferred (some [])) := (World.putObj_heap_other (by omega)).trans ((World.putObj_heap_other (by omega)).trans m0)
          have e3 := blk_putObj (o := .deferred none) m0' e2
          have q3 := e3.cell 0
          simp at q3
          refine ret_marks3 (v := .bool true) m2 m1 m0 hlt2 hlt1 (by simp [results, Tryd.results4, go_sem, q3]) ?_
          exact ⟨rfl, below_putObj (below_putObj (below_putObj (HG.out.below.setCell (p := ⟨w.heap.size, 0, none⟩) (Nat.le_refl _) _) hle2) hle1) hle0⟩
        case stop4 =>
          exact fun D c V' hD h hK => h.elim
    case stop1 =>
      exact fun D c V' hD h hK => h.elim
  | some pe =>
    obtain ⟨ap, n⟩ := pe
    have hn : n ≠ 0 := hre ap n rfl
    have hnb : ((n : Int) != 0) = true := by rw [bne_iff_ne]; omega
    have HN := Lib.hid hn
    have HPE : Hid (∀ p e, (some (ap, n) : Option (Nat × Nat)) = some (p, e) → ap = p ∧ n = e) := fun p e h => by cases h; exact ⟨rfl, rfl⟩
    have HER : Hid ((some (ap, n) : Option (Nat × Nat)).isSome = true) := rfl
    obtain ⟨st, hst⟩ : ∃ st, (L + 1) = st := ⟨_, rfl⟩
    have HST := Lib.hid (hst.symm)
    have HSTE := Lib.hid hst
    clear hre hn hst
    have HRA2 : Hid (∀ wx : World, Calls Tryd.prog 10 #[.string s] wx fun e w' => Below wx.heap.size wx w' ∧ ∃ v, e = .returned (.tuple #[v, .int .i64 (ap : Int), .int .i64 (n : Int)]) ∧ OwnToks w' wx.heap.size v toks) := fun wx => by
      have := HRA.out wx
      skip
      exact this
    clear HRA
    refine calls_of_wp_marks Tryd.func4 rfl ?_
    simp only [Tryd.ntmps4, List.size_toArray, List.length_cons, List.length_nil, Nat.reduceAdd, Nat.reduceSub, Array.replicate_succ, Array.replicate_zero, List.push_toArray, List.append_toArray, List.nil_append, List.cons_append]
    go_wp2_with (go_at_call 9; refine (scanf_any _ _).mono ?_; rintro e w' ⟨rfl, rfl⟩)
    obtain ⟨WA, hWA⟩ : ∃ W, (w.alloc (.cells #[.bool false] 4)).alloc (.cells #[.string s] 9) = W := ⟨_, rfl⟩
    have hA : Below w.heap.size w WA := by rw [← hWA]; exact ((Below.refl _ w).alloc (Nat.le_refl _) _).alloc (by simp) _
    have a2 : Blk WA w.heap.size 4 #[.bool false] := by rw [← hWA]; exact (Blk.new _ _ _).alloc _
    have at' : Blk WA (w.heap.size + 1) 9 #[.string s] := by rw [← hWA]; have := Blk.new (w.alloc (.cells #[.bool false] 4)) 9 #[.string s]; simpa using this
    rw [hWA]
    clear hWA
    refine (HSP.out WA hA).mono ?_
    rintro e w1 ⟨rfl, hb1⟩
    have H2 := Lib.hid (a2.below hb1 a2.lt)
    have HT := Lib.hid (at'.below hb1 at'.lt)
    have HB1 := Lib.hid (hA.trans (hb1.mono hA.size))
    have hs1 := HB1.out.size
    clear hA a2 at' hb1
    go_wp2_with fail
    refine (HRA2.out w1).mono ?_
    rintro e w2 ⟨hb2, vq, rfl, ho⟩
    have H2' := Lib.hid (H2.out.below hb2 H2.out.lt)
    have HT' := Lib.hid (HT.out.below hb2 HT.out.lt)
    have HB2 := Lib.hid (HB1.out.trans (hb2.mono hs1))
    have hs2 := HB2.out.size
    obtain ⟨Aq, cq, rfl⟩ := own_form ho
    rw [HLL.out] at ho ⊢
    have HO := Lib.hid ho
    clear ho hb2 H2 HT HB1
    go_wp2_with fail
    obtain ⟨V, hV⟩ : ∃ W, ((((w2.alloc (.cells #[.slice Aq L cq] 26)).alloc (.cells #[.int .i64 ap] 3)).alloc (.cells #[.int .i64 n] 3)).alloc (.cells #[.int .i64 ((L : Int) + 1)] 3)).alloc (.cells #[.int .i64 0] 3) = W := ⟨_, rfl⟩
    have hbV : Below w2.heap.size w2 V := by rw [← hV]; exact (((((Below.refl _ w2).alloc (Nat.le_refl _) _).alloc (by simp) _).alloc (by simp; omega) _).alloc (by simp; omega) _).alloc (by simp; omega) _
    have est : Value.int .i64 ((L : Int) + 1) = .int .i64 st := by rw [← HSTE.out]; go_num
    have hg : LS w s toks ap n st 0 w.heap.size (w.heap.size + 1) w2.heap.size (w2.heap.size + 1) (w2.heap.size + 1 + 1) (w2.heap.size + 1 + 1 + 1) (w2.heap.size + 1 + 1 + 1 + 1) w1.heap.size (.slice Aq L cq) [] V := by
      rw [est] at hV
      refine ⟨H2'.out.below hbV H2'.out.lt, HT'.out.below hbV HT'.out.lt, ?_, HO.out.below hbV, ?_, ?_, ?_, ?_, HB2.out.trans (hbV.mono hs2), fun D hD => by cases hD⟩
      · rw [← hV]; exact ((((Blk.new _ _ _).alloc _).alloc _).alloc _).alloc _
      · rw [← hV]; have := (((Blk.new (w2.alloc (.cells #[.slice Aq L cq] 26)) 3 #[.int .i64 ap]).alloc (.cells #[.int .i64 n] 3)).alloc (.cells #[.int .i64 st] 3)).alloc (.cells #[.int .i64 0] 3); simpa using this
      · rw [← hV]; have := ((Blk.new ((w2.alloc (.cells #[.slice Aq L cq] 26)).alloc (.cells #[.int .i64 ap] 3)) 3 #[.int .i64 n]).alloc (.cells #[.int .i64 st] 3)).alloc (.cells #[.int .i64 0] 3); simpa using this
      · rw [← hV]; have := (Blk.new (((w2.alloc (.cells #[.slice Aq L cq] 26)).alloc (.cells #[.int .i64 ap] 3)).alloc (.cells #[.int .i64 n] 3)) 3 #[.int .i64 st]).alloc (.cells #[.int .i64 0] 3); simpa using this
      · rw [← hV]; have := Blk.new ((((w2.alloc (.cells #[.slice Aq L cq] 26)).alloc (.cells #[.int .i64 ap] 3)).alloc (.cells #[.int .i64 n] 3)).alloc (.cells #[.int .i64 st] 3)) 3 #[.int .i64 0]; simpa using this
    rw [hV]
    have HG := Lib.hid hg
    clear hV hbV hg est H2' HT' HO HB2
    refine wp_loop_rounds 4 ?_
    rw [rounds_succ]
    have q8 := HG.out.c8.cell 0
    simp at q8
    go_wp2_with fail
    obtain ⟨V9, hV9⟩ : ∃ W, V.alloc (.cells #[.int .i64 0] 3) = W := ⟨_, rfl⟩
    have hb9 : Below V.heap.size V V9 := by rw [← hV9]; exact (Below.refl _ _).alloc (Nat.le_refl _) _
    have hc9 : Blk V9 V.heap.size 3 #[.int .i64 0] := by rw [← hV9]; exact Blk.new _ _ _
    have HG9 : Hid (LS w s toks ap n st 0 w.heap.size (w.heap.size + 1) w2.heap.size (w2.heap.size + 1) (w2.heap.size + 1 + 1) (w2.heap.size + 1 + 1 + 1) (w2.heap.size + 1 + 1 + 1 + 1) w1.heap.size (.slice Aq L cq) [] V9) := HG.out.same1 (n₁ := w.heap.size) (Same1.of_below hb9) (Nat.le_refl _)
    have HC9 := Lib.hid hc9
    have hz9 := hb9.size
    rw [hV9]
    clear hV9 hc9 hb9 q8
    refine (wpIn_wide (n := 9)).1 ?_
    refine' wp_iter_a 40 (gf := 14) (lb := #[.pointer (some ⟨w.heap.size + 1, 0, none⟩)]) rfl (enters_of Tryd.func14 (by kernel_rfl) rfl) (encs := lyEnc) (fun x => rfl) (Pre := fun _ _ _ => True) _ allW1 (fun x W => (Below.refl _ W).alloc (Nat.le_refl _) _) (fun _ _ _ _ _ _ _ _ => trivial)
      (fun W1 hb hn => HRI.out V9.heap.size (w.heap.size + 1) HG9.out.ct.lt W1 hn)
      (fun pre V' => LS w s toks ap n st 0 w.heap.size (w.heap.size + 1) w2.heap.size (w2.heap.size + 1) (w2.heap.size + 1 + 1) (w2.heap.size + 1 + 1 + 1) (w2.heap.size + 1 + 1 + 1 + 1) w1.heap.size (.slice Aq L cq) [] V' ∧ Blk V' V.heap.size 3 #[.int .i64 pre.length])
      (fun c V' => False)
      ?hI5 ?hIx5 ?hAux5 ⟨HG9.out, HC9.out⟩ ?assign5 ?body5 ?done5 ?stop5
    case assign5 =>
      intro l x V' K hK
      simp only [lyEnc, tokA]
      gi_wp2
      exact hK
    case hI5 =>
      rintro pre A B ⟨h1, h2⟩ hs
      exact ⟨h1.same1 hs (by have := HG9.out.below.size; omega), hs.blk h2 (by decide)⟩
    case hIx5 =>
      exact fun c A B h _ => h.elim
    case hAux5 =>
      rintro pre V' ⟨h1, _⟩
      exact ⟨h1.ct.cell 0, HLB.out _ h1.below⟩
    case body5 =>
      rintro l pre x W0 Va W ⟨hg, h9⟩ hs1 hs2 hblk hszW - hstep hl hn0
      have hsame := hs1.trans hs2
      have hg' := hg.same1 hsame (by have := HG9.out.below.size; omega)
      have h9' := hsame.blk h9 (show 3 ≠ 40 by decide)
      have hlt9 := h9.lt
      have gt := hblk Va.heap.size 30 #[.int .i64 (x.1.kind : Int), .string ⟨x.1.text.toArray⟩, .int .i64 x.1.num, .int .i64 (x.1.pos : Int)] (Blk.new _ _ _)
      obtain ⟨m0, m1, m2, m3, -, -, -, -⟩ := rtok_cells gt
      have q9 := h9'.cell 0
      have f9 := h9'.frozen 0
      have q4 := hg'.c4.cell 0
      have q5 := hg'.c5.cell 0
      have q6 := hg'.c6.cell 0
      have q7 := hg'.c7.cell 0
      have q8 := hg'.c8.cell 0
      simp at q4 q5 q6 q7 q8 q9
      have HG1 := Lib.hid hg'
      have H91 := Lib.hid h9'
      have hget := Lex.items_get (HSTP.out pre x hstep)
      obtain ⟨k, hk⟩ : ∃ k, pre.length = k := ⟨_, rfl⟩
      rw [hk] at q9 hget
      have HK := Lib.hid hk
      have hfl : w.heap.size ≤ W0.heap.size := by have := HG9.out.below.size; omega
      clear hg hg' h9 h9' hsame hs1 hs2 hblk hszW gt hstep hk
      rcases hget with ⟨t, ht, rfl⟩ | ⟨hkL, p, e, hpe, rfl⟩
      · have ht : toks[k]? = some t := ht
        have hkL : k < L := by have := (List.getElem?_eq_some_iff.1 ht).1; have := HLL.out; omega
        have hkL' : (k : Int) < L := by omega
        have hst0 := HST.out
        have hd1 : decide (st ≤ k) = false := decide_eq_false (by omega)
        have hd1' : decide ((st : Int) ≤ k) = false := decide_eq_false (by omega)
        have hd2 : decide (k < L) = true := decide_eq_true hkL
        have hd3 : ((k : Int) == L) = false := by rw [beq_eq_false_iff_ne]; omega
        have hkb : (k : Int) ≤ 16777217 := by omega
        obtain ⟨gq, rfl, -, -, z0, z1, z2, z3⟩ := HG1.out.own.at_ ht
        have hu := undef_no
        have hgn := (HG1.out.drewN)
        have HGN := Lib.hid (fun nq => (HG1.out.drewN nq).set9 HG.out (show Blk (W.drewN nq) _ _ _ from H91.out) (.int .i64 ((k : Int) + 1)))
        have HH9 := Lib.hid (fun nq => (show Blk (W.drewN nq) _ _ _ from H91.out).set_ 0 (.int .i64 ((k : Int) + 1)))
        have HR8 := Lib.hid (fun nq => (HGN.out nq).c8.cell 0)
        clear hgn ht hst0
        gi_wp2
        refine wpIn_region_round (by kernel_rfl) (by kernel_rfl) (by kernel_rfl) ?_
        repeat (gi_big_quiet_step (fail))
        refine wpQuietIn_nil ?_
        intro _ hw'
        obtain ⟨nq, hw''⟩ := hw'
        subst hw''
        clear hd1 hd1' hd2 hd3 hu z0 z1 z2 z3 m0 m1 m2 m3 q4 q5 q6 q7
        have r8 := HR8.out nq
        simp at r8
        gi_wp2
        exact ⟨((keepsOthers_drewN _ _).from _).trans ((KeepsOthers.setCell _ _ _).from _), keepT_drewN (keepT_set9 (show Blk (W.drewN nq) _ _ _ from H91.out) _), HGN.out nq, blk_count (HH9.out nq) HK.out⟩
      · obtain rfl : k = L := hkL.trans HLL.out
        obtain ⟨rfl, rfl⟩ : ap = p ∧ n = e := HPE.out p e hpe
        have hst0 := HST.out
        have hd1 : decide (st ≤ k) = false := decide_eq_false (by omega)
        have hd1' : decide ((st : Int) ≤ k) = false := decide_eq_false (by omega)
        have hd5 : ((n : Int) != 0) = true := by rw [bne_iff_ne]; have := HN.out; omega
        have hd4 : ((n : Int) != n) = false := by simp
        have hkb : (k : Int) ≤ 16777217 := by omega
        have hu := undef_no
        have HGN := Lib.hid (fun nq => (HG1.out.drewN nq).set9 HG.out (show Blk (W.drewN nq) _ _ _ from H91.out) (.int .i64 ((k : Int) + 1)))
        have HH9 := Lib.hid (fun nq => (show Blk (W.drewN nq) _ _ _ from H91.out).set_ 0 (.int .i64 ((k : Int) + 1)))
        have HR8 := Lib.hid (fun nq => (HGN.out nq).c8.cell 0)
        clear hst0 hkL hpe
        gi_wp2
        refine wpIn_region_round (by kernel_rfl) (by kernel_rfl) (by kernel_rfl) ?_
        repeat (gi_big_quiet_step (fail))
        refine wpQuietIn_nil ?_
        intro _ hw'
        obtain ⟨nq, hw''⟩ := hw'
        subst hw''
        clear hd1 hd1' hd4 hd5 hu m0 m1 m2 m3 q4 q5 q6 q7
        have r8 := HR8.out nq
        simp at r8
        gi_wp2
        exact ⟨((keepsOthers_drewN _ _).from _).trans ((KeepsOthers.setCell _ _ _).from _), keepT_drewN (keepT_set9 (show Blk (W.drewN nq) _ _ _ from H91.out) _), HGN.out nq, blk_count (HH9.out nq) HK.out⟩
    case done5 =>
      rintro D0 xs V' hD hend ⟨hg, h9⟩ hK
      have hxs : xs.length = st := by
        have h3 := HLL.out
        have h4 := HST.out
        have h5 := HEND.out _ hend
        rw [h5, Lex.items_length]
        show toks.length + (if (some (ap, n) : Option (Nat × Nat)).isSome then 1 else 0) = st
        simp
        omega
      clear hend
      have q9 := h9.cell 0
      have q7 := hg.c7.cell 0
      have q8 := hg.c8.cell 0
      simp at q7 q8 q9
      rw [hxs] at q9
      have hse : ((st : Int) != st) = false := by simp
      have hle0 : w.heap.size ≤ D0 := by have := HG9.out.below.size; omega
      have HGD := Lib.hid (hg.next hK 1)
      have hz := hg.below.size
      clear hg h9 hK hxs
      go_wp2
      clear q7 q8 q9
      obtain ⟨V10, hVn⟩ : ∃ W, V'.alloc (.cells #[.int .i64 1] 3) = W := ⟨_, rfl⟩
      have hg2 : LS w s toks ap n st 1 w.heap.size (w.heap.size + 1) w2.heap.size (w2.heap.size + 1) (w2.heap.size + 1 + 1) (w2.heap.size + 1 + 1 + 1) V'.heap.size w1.heap.size (.slice Aq L cq) [D0] V10 := by rw [← hVn]; exact HGD.out
      have hz2 : V'.heap.size < V10.heap.size := by rw [← hVn]; simp
      rw [hVn]
      clear hVn HGD HG HG9 HC9
      have HG := Lib.hid hg2
      clear hg2
      obtain ⟨B0, hB0⟩ : ∃ b, V'.heap.size = b := ⟨_, rfl⟩
      rw [hB0] at HG hz2 ⊢
      clear hB0
      rw [rounds_succ]
      have q8 := HG.out.c8.cell 0
      simp at q8
      go_wp2_with fail
      obtain ⟨V9, hV9⟩ : ∃ W, V10.alloc (.cells #[.int .i64 0] 3) = W := ⟨_, rfl⟩
      have hb9 : Below V10.heap.size V10 V9 := by rw [← hV9]; exact (Below.refl _ _).alloc (Nat.le_refl _) _
      have hc9 : Blk V9 V10.heap.size 3 #[.int .i64 0] := by rw [← hV9]; exact Blk.new _ _ _
      have HG9 : Hid (LS w s toks ap n st 1 w.heap.size (w.heap.size + 1) w2.heap.size (w2.heap.size + 1) (w2.heap.size + 1 + 1) (w2.heap.size + 1 + 1 + 1) B0 w1.heap.size (.slice Aq L cq) [D0] V9) := HG.out.same1 (n₁ := w.heap.size) (Same1.of_below hb9) (Nat.le_refl _)
      have HC9 := Lib.hid hc9
      have hz9 := hb9.size
      rw [hV9]
      clear hV9 hc9 hb9 q8
      refine (wpIn_wide (n := 9)).1 ?_
      refine' wp_iter_a 40 (gf := 14) (lb := #[.pointer (some ⟨w.heap.size + 1, 0, none⟩)]) rfl (enters_of Tryd.func14 (by kernel_rfl) rfl) (encs := lyEnc) (fun x => rfl) (Pre := fun _ _ _ => True) _ allW1 (fun x W => (Below.refl _ W).alloc (Nat.le_refl _) _) (fun _ _ _ _ _ _ _ _ => trivial)
        (fun W1 hb hn => HRI.out V9.heap.size (w.heap.size + 1) HG9.out.ct.lt W1 hn)
        (fun pre V' => LS w s toks ap n st 1 w.heap.size (w.heap.size + 1) w2.heap.size (w2.heap.size + 1) (w2.heap.size + 1 + 1) (w2.heap.size + 1 + 1 + 1) B0 w1.heap.size (.slice Aq L cq) [D0] V' ∧ Blk V' V10.heap.size 3 #[.int .i64 pre.length] ∧ pre = [])
        (fun c V' => c = .exit 2 ∧ LS w s toks ap n st 1 w.heap.size (w.heap.size + 1) w2.heap.size (w2.heap.size + 1) (w2.heap.size + 1 + 1) (w2.heap.size + 1 + 1 + 1) B0 w1.heap.size (.slice Aq L cq) [D0] V' ∧ Blk V' V10.heap.size 3 #[.int .i64 1] ∧ 1 ≤ st)
        ?hI6 ?hIx6 ?hAux6 ⟨HG9.out, HC9.out, rfl⟩ ?assign6 ?body6 ?done6 ?stop6
      case assign6 =>
        intro l x V' K hK
        simp only [lyEnc, tokA]
        gi_wp2
        exact hK
      case hI6 =>
        rintro pre A B ⟨h1, h2, h3⟩ hs
        exact ⟨h1.same1 hs (by have := HG9.out.below.size; omega), hs.blk h2 (by decide), h3⟩
      case hIx6 =>
        rintro c A B ⟨h0, h1, h2, h3⟩ hs
        exact ⟨h0, h1.same1 hs (by have := HG9.out.below.size; omega), hs.blk h2 (by decide), h3⟩
      case hAux6 =>
        rintro pre V' ⟨h1, _⟩
        exact ⟨h1.ct.cell 0, HLB.out _ h1.below⟩
      case body6 =>
        rintro l pre x W0 Va W ⟨hg, h9, hpn⟩ hs1 hs2 hblk hszW - hstep hl hn0
        have hsame := hs1.trans hs2
        have hg' := hg.same1 hsame (by have := HG9.out.below.size; omega)
        have h9' := hsame.blk h9 (show 3 ≠ 40 by decide)
        have hlt9 := h9.lt
        have gt := hblk Va.heap.size 30 #[.int .i64 (x.1.kind : Int), .string ⟨x.1.text.toArray⟩, .int .i64 x.1.num, .int .i64 (x.1.pos : Int)] (Blk.new _ _ _)
        obtain ⟨m0, m1, m2, m3, -, -, -, -⟩ := rtok_cells gt
        have q9 := h9'.cell 0
        have f9 := h9'.frozen 0
        have q4 := hg'.c4.cell 0
        have q5 := hg'.c5.cell 0
        have q6 := hg'.c6.cell 0
        have q7 := hg'.c7.cell 0
        have q8 := hg'.c8.cell 0
        simp at q4 q5 q6 q7 q8 q9
        have HG1 := Lib.hid hg'
        have H91 := Lib.hid h9'
        have hget := Lex.items_get (HSTP.out pre x hstep)
        obtain ⟨k, hk⟩ : ∃ k, pre.length = k := ⟨_, rfl⟩
        rw [hk] at q9 hget
        have HK := Lib.hid hk
        have hfl : w.heap.size ≤ W0.heap.size := by have := HG9.out.below.size; omega
        clear hg hg' h9 h9' hsame hs1 hs2 hblk hszW gt hstep hk
        rcases hget with ⟨t, ht, rfl⟩ | ⟨hkL, p, e, hpe, rfl⟩
        · have ht : toks[k]? = some t := ht
          have hkL : k < L := by have := (List.getElem?_eq_some_iff.1 ht).1; have := HLL.out; omega
          have hkL' : (k : Int) < L := by omega
          have hst0 := HST.out
          have hd1 : decide (st ≤ k) = false := decide_eq_false (by omega)
          have hd1' : decide ((st : Int) ≤ k) = false := decide_eq_false (by omega)
          have hd2 : decide (k < L) = true := decide_eq_true hkL
          have hd3 : ((k : Int) == L) = false := by rw [beq_eq_false_iff_ne]; omega
          have hkb : (k : Int) ≤ 16777217 := by omega
          obtain ⟨gq, rfl, -, -, z0, z1, z2, z3⟩ := HG1.out.own.at_ ht
          have hu := undef_no
          have hgn := (HG1.out.drewN)
          have HGN := Lib.hid (fun nq => (HG1.out.drewN nq).set9 HG.out (show Blk (W.drewN nq) _ _ _ from H91.out) (.int .i64 ((k : Int) + 1)))
          have HH9 := Lib.hid (fun nq => (show Blk (W.drewN nq) _ _ _ from H91.out).set_ 0 (.int .i64 ((k : Int) + 1)))
          have HR8 := Lib.hid (fun nq => (HGN.out nq).c8.cell 0)
          clear hgn ht hst0
          gi_wp2
          refine wpIn_region_round (by kernel_rfl) (by kernel_rfl) (by kernel_rfl) ?_
          repeat (gi_big_quiet_step (fail))
          refine wpQuietIn_nil ?_
          intro _ hw'
          obtain ⟨nq, hw''⟩ := hw'
          subst hw''
          clear hd1 hd1' hd2 hd3 hu z0 z1 z2 z3 m0 m1 m2 m3 q4 q5 q6 q7
          have r8 := HR8.out nq
          simp at r8
          gi_wp2
          obtain rfl : pre = [] := hpn
          have h9f := blk_count (x := (⟨0, [], 0, 0⟩, 0)) (HH9.out nq) HK.out
          have hst1 : 1 ≤ st := by have := HST.out; omega
          exact ⟨((keepsOthers_drewN _ _).from _).trans ((KeepsOthers.setCell _ _ _).from _), rfl, HGN.out nq, h9f, hst1⟩
        · obtain rfl : k = L := hkL.trans HLL.out
          obtain ⟨rfl, rfl⟩ : ap = p ∧ n = e := HPE.out p e hpe
          have hst0 := HST.out
          have hd1 : decide (st ≤ k) = false := decide_eq_false (by omega)
          have hd1' : decide ((st : Int) ≤ k) = false := decide_eq_false (by omega)
          have hd5 : ((n : Int) != 0) = true := by rw [bne_iff_ne]; have := HN.out; omega
          have hd4 : ((n : Int) != n) = false := by simp
          have hkb : (k : Int) ≤ 16777217 := by omega
          have hu := undef_no
          have HGN := Lib.hid (fun nq => (HG1.out.drewN nq).set9 HG.out (show Blk (W.drewN nq) _ _ _ from H91.out) (.int .i64 ((k : Int) + 1)))
          have HH9 := Lib.hid (fun nq => (show Blk (W.drewN nq) _ _ _ from H91.out).set_ 0 (.int .i64 ((k : Int) + 1)))
          have HR8 := Lib.hid (fun nq => (HGN.out nq).c8.cell 0)
          clear hst0 hkL hpe
          gi_wp2
          refine wpIn_region_round (by kernel_rfl) (by kernel_rfl) (by kernel_rfl) ?_
          repeat (gi_big_quiet_step (fail))
          refine wpQuietIn_nil ?_
          intro _ hw'
          obtain ⟨nq, hw''⟩ := hw'
          subst hw''
          clear hd1 hd1' hd4 hd5 hu m0 m1 m2 m3 q4 q5 q6 q7
          have r8 := HR8.out nq
          simp at r8
          gi_wp2
          obtain rfl : pre = [] := hpn
          have h9f := blk_count (x := (⟨0, [], 0, 0⟩, 0)) (HH9.out nq) HK.out
          have hst1 : 1 ≤ st := by have := HST.out; omega
          exact ⟨((keepsOthers_drewN _ _).from _).trans ((KeepsOthers.setCell _ _ _).from _), rfl, HGN.out nq, h9f, hst1⟩
      case done6 =>
        rintro D1 xs V' hD hend ⟨hg, h9, rfl⟩ hK
        have hxs : ([] : List LY).length = st := by
          have h3 := HLL.out
          have h4 := HST.out
          have h5 := HEND.out _ hend
          rw [h5, Lex.items_length]
          show toks.length + (if (some (ap, n) : Option (Nat × Nat)).isSome then 1 else 0) = st
          simp
          omega
        clear hend
        have h4 := HST.out
        simp at hxs
        omega
      case stop6 =>
        rintro D1 c V' hD ⟨rfl, hg, h9, hst1⟩ hK
        refine wpIn_wide.2 ?_
        have q9 := h9.cell 0
        have q7 := hg.c7.cell 0
        have q8 := hg.c8.cell 0
        simp at q7 q8 q9
        have hmin : min (1 : Int) (st : Int) = 1 := by omega
        have hlt1 : D0 < D1 := by have := (HG9.out.marks D0 (by simp)); have := (Array.getElem?_eq_some_iff.1 this).1; omega
        have hle1 : w.heap.size ≤ D1 := by have := HG9.out.below.size; omega
        have HGD := Lib.hid (hg.next hK 2)
        have hz := hg.below.size
        clear hg h9 hK
        go_wp2
        clear q7 q8 q9
        obtain ⟨V11, hVn⟩ : ∃ W, V'.alloc (.cells #[.int .i64 2] 3) = W := ⟨_, rfl⟩
        have hg2 : LS w s toks ap n st 2 w.heap.size (w.heap.size + 1) w2.heap.size (w2.heap.size + 1) (w2.heap.size + 1 + 1) (w2.heap.size + 1 + 1 + 1) V'.heap.size w1.heap.size (.slice Aq L cq) [D1, D0] V11 := by rw [← hVn]; exact HGD.out
        have hz2 : V'.heap.size < V11.heap.size := by rw [← hVn]; simp
        rw [hVn]
        clear hVn HGD HG HG9 HC9
        have HG := Lib.hid hg2
        clear hg2
        obtain ⟨B1, hB1⟩ : ∃ b, V'.heap.size = b := ⟨_, rfl⟩
        rw [hB1] at HG hz2 ⊢
        clear hB1
        rw [rounds_succ]
        have q8 := HG.out.c8.cell 0
        simp at q8
        go_wp2_with fail
        obtain ⟨V9, hV9⟩ : ∃ W, V11.alloc (.cells #[.int .i64 0] 3) = W := ⟨_, rfl⟩
        have hb9 : Below V11.heap.size V11 V9 := by rw [← hV9]; exact (Below.refl _ _).alloc (Nat.le_refl _) _
        have hc9 : Blk V9 V11.heap.size 3 #[.int .i64 0] := by rw [← hV9]; exact Blk.new _ _ _
        have HG9 : Hid (LS w s toks ap n st 2 w.heap.size (w.heap.size + 1) w2.heap.size (w2.heap.size + 1) (w2.heap.size + 1 + 1) (w2.heap.size + 1 + 1 + 1) B1 w1.heap.size (.slice Aq L cq) [D1, D0] V9) := HG.out.same1 (n₁ := w.heap.size) (Same1.of_below hb9) (Nat.le_refl _)
        have HC9 := Lib.hid hc9
        have hz9 := hb9.size
        rw [hV9]
        clear hV9 hc9 hb9 q8
        refine (wpIn_wide (n := 9)).1 ?_
        refine' wp_iter_a 40 (gf := 14) (lb := #[.pointer (some ⟨w.heap.size + 1, 0, none⟩)]) rfl (enters_of Tryd.func14 (by kernel_rfl) rfl) (encs := lyEnc) (fun x => rfl) (Pre := fun _ _ _ => True) _ allW1 (fun x W => (Below.refl _ W).alloc (Nat.le_refl _) _) (fun _ _ _ _ _ _ _ _ => trivial)
          (fun W1 hb hn => HRI.out V9.heap.size (w.heap.size + 1) HG9.out.ct.lt W1 hn)
          (fun pre V' => LS w s toks ap n st 2 w.heap.size (w.heap.size + 1) w2.heap.size (w2.heap.size + 1) (w2.heap.size + 1 + 1) (w2.heap.size + 1 + 1 + 1) B1 w1.heap.size (.slice Aq L cq) [D1, D0] V' ∧ Blk V' V11.heap.size 3 #[.int .i64 pre.length])
          (fun c V' => False)
          ?hI7 ?hIx7 ?hAux7 ⟨HG9.out, HC9.out⟩ ?assign7 ?body7 ?done7 ?stop7
        case assign7 =>
          intro l x V' K hK
          simp only [lyEnc, tokA]
          gi_wp2
          exact hK
        case hI7 =>
          rintro pre A B ⟨h1, h2⟩ hs
          exact ⟨h1.same1 hs (by have := HG9.out.below.size; omega), hs.blk h2 (by decide)⟩
        case hIx7 =>
          exact fun c A B h _ => h.elim
        case hAux7 =>
          rintro pre V' ⟨h1, _⟩
          exact ⟨h1.ct.cell 0, HLB.out _ h1.below⟩
        case body7 =>
          rintro l pre x W0 Va W ⟨hg, h9⟩ hs1 hs2 hblk hszW - hstep hl hn0
          have hsame := hs1.trans hs2
          have hg' := hg.same1 hsame (by have := HG9.out.below.size; omega)
          have h9' := hsame.blk h9 (show 3 ≠ 40 by decide)
          have hlt9 := h9.lt
          have gt := hblk Va.heap.size 30 #[.int .i64 (x.1.kind : Int), .string ⟨x.1.text.toArray⟩, .int .i64 x.1.num, .int .i64 (x.1.pos : Int)] (Blk.new _ _ _)
          obtain ⟨m0, m1, m2, m3, -, -, -, -⟩ := rtok_cells gt
          have q9 := h9'.cell 0
          have f9 := h9'.frozen 0
          have q4 := hg'.c4.cell 0
          have q5 := hg'.c5.cell 0
          have q6 := hg'.c6.cell 0
          have q7 := hg'.c7.cell 0
          have q8 := hg'.c8.cell 0
          simp at q4 q5 q6 q7 q8 q9
          have HG1 := Lib.hid hg'
          have H91 := Lib.hid h9'
          have hget := Lex.items_get (HSTP.out pre x hstep)
          obtain ⟨k, hk⟩ : ∃ k, pre.length = k := ⟨_, rfl⟩
          rw [hk] at q9 hget
          have HK := Lib.hid hk
          have hfl : w.heap.size ≤ W0.heap.size := by have := HG9.out.below.size; omega
          clear hg hg' h9 h9' hsame hs1 hs2 hblk hszW gt hstep hk
          rcases hget with ⟨t, ht, rfl⟩ | ⟨hkL, p, e, hpe, rfl⟩
          · have ht : toks[k]? = some t := ht
            have hkL : k < L := by have := (List.getElem?_eq_some_iff.1 ht).1; have := HLL.out; omega
            have hkL' : (k : Int) < L := by omega
            have hst0 := HST.out
            have hd1 : decide (st ≤ k) = false := decide_eq_false (by omega)
            have hd1' : decide ((st : Int) ≤ k) = false := decide_eq_false (by omega)
            have hd2 : decide (k < L) = true := decide_eq_true hkL
            have hd3 : ((k : Int) == L) = false := by rw [beq_eq_false_iff_ne]; omega
            have hkb : (k : Int) ≤ 16777217 := by omega
            obtain ⟨gq, rfl, -, -, z0, z1, z2, z3⟩ := HG1.out.own.at_ ht
            have hu := undef_no
            have hgn := (HG1.out.drewN)
            have HGN := Lib.hid (fun nq => (HG1.out.drewN nq).set9 HG.out (show Blk (W.drewN nq) _ _ _ from H91.out) (.int .i64 ((k : Int) + 1)))
            have HH9 := Lib.hid (fun nq => (show Blk (W.drewN nq) _ _ _ from H91.out).set_ 0 (.int .i64 ((k : Int) + 1)))
            have HR8 := Lib.hid (fun nq => (HGN.out nq).c8.cell 0)
            clear hgn ht hst0
            gi_wp2
            refine wpIn_region_round (by kernel_rfl) (by kernel_rfl) (by kernel_rfl) ?_
            repeat (gi_big_quiet_step (fail))
            refine wpQuietIn_nil ?_
            intro _ hw'
            obtain ⟨nq, hw''⟩ := hw'
            subst hw''
            clear hd1 hd1' hd2 hd3 hu z0 z1 z2 z3 m0 m1 m2 m3 q4 q5 q6 q7
            have r8 := HR8.out nq
            simp at r8
            gi_wp2
            exact ⟨((keepsOthers_drewN _ _).from _).trans ((KeepsOthers.setCell _ _ _).from _), keepT_drewN (keepT_set9 (show Blk (W.drewN nq) _ _ _ from H91.out) _), HGN.out nq, blk_count (HH9.out nq) HK.out⟩
          · obtain rfl : k = L := hkL.trans HLL.out
            obtain ⟨rfl, rfl⟩ : ap = p ∧ n = e := HPE.out p e hpe
            have hst0 := HST.out
            have hd1 : decide (st ≤ k) = false := decide_eq_false (by omega)
            have hd1' : decide ((st : Int) ≤ k) = false := decide_eq_false (by omega)
            have hd5 : ((n : Int) != 0) = true := by rw [bne_iff_ne]; have := HN.out; omega
            have hd4 : ((n : Int) != n) = false := by simp
            have hkb : (k : Int) ≤ 16777217 := by omega
            have hu := undef_no
            have HGN := Lib.hid (fun nq => (HG1.out.drewN nq).set9 HG.out (show Blk (W.drewN nq) _ _ _ from H91.out) (.int .i64 ((k : Int) + 1)))
            have HH9 := Lib.hid (fun nq => (show Blk (W.drewN nq) _ _ _ from H91.out).set_ 0 (.int .i64 ((k : Int) + 1)))
            have HR8 := Lib.hid (fun nq => (HGN.out nq).c8.cell 0)
            clear hst0 hkL hpe
            gi_wp2
            refine wpIn_region_round (by kernel_rfl) (by kernel_rfl) (by kernel_rfl) ?_
            repeat (gi_big_quiet_step (fail))
            refine wpQuietIn_nil ?_
            intro _ hw'
            obtain ⟨nq, hw''⟩ := hw'
            subst hw''
            clear hd1 hd1' hd4 hd5 hu m0 m1 m2 m3 q4 q5 q6 q7
            have r8 := HR8.out nq
            simp at r8
            gi_wp2
            exact ⟨((keepsOthers_drewN _ _).from _).trans ((KeepsOthers.setCell _ _ _).from _), keepT_drewN (keepT_set9 (show Blk (W.drewN nq) _ _ _ from H91.out) _), HGN.out nq, blk_count (HH9.out nq) HK.out⟩
        case done7 =>
          rintro D2 xs V' hD hend ⟨hg, h9⟩ hK
          have hxs : xs.length = st := by
            have h3 := HLL.out
            have h4 := HST.out
            have h5 := HEND.out _ hend
            rw [h5, Lex.items_length]
            show toks.length + (if (some (ap, n) : Option (Nat × Nat)).isSome then 1 else 0) = st
            simp
            omega
          clear hend
          have q9 := h9.cell 0
          have q7 := hg.c7.cell 0
          have q8 := hg.c8.cell 0
          simp at q7 q8 q9
          rw [hxs] at q9
          have hse : ((st : Int) != st) = false := by simp
          have hlt2 : D1 < D2 := by have := (HG9.out.marks D1 (by simp)); have := (Array.getElem?_eq_some_iff.1 this).1; omega
          have hle2 : w.heap.size ≤ D2 := by have := HG9.out.below.size; omega
          have HGD := Lib.hid (hg.next hK 3)
          have hz := hg.below.size
          clear hg h9 hK hxs
          go_wp2
          clear q7 q8 q9
          obtain ⟨V12, hVn⟩ : ∃ W, V'.alloc (.cells #[.int .i64 3] 3) = W := ⟨_, rfl⟩
          have hg2 : LS w s toks ap n st 3 w.heap.size (w.heap.size + 1) w2.heap.size (w2.heap.size + 1) (w2.heap.size + 1 + 1) (w2.heap.size + 1 + 1 + 1) V'.heap.size w1.heap.size (.slice Aq L cq) [D2, D1, D0] V12 := by rw [← hVn]; exact HGD.out
          have hz2 : V'.heap.size < V12.heap.size := by rw [← hVn]; simp
          rw [hVn]
          clear hVn HGD HG HG9 HC9
          have HG := Lib.hid hg2
          clear hg2
          obtain ⟨B2, hB2⟩ : ∃ b, V'.heap.size = b := ⟨_, rfl⟩
          rw [hB2] at HG hz2 ⊢
          clear hB2
          rw [rounds_succ]
          have q8 := HG.out.c8.cell 0
          have q2 := HG.out.c2.cell 0
          have f2 := HG.out.c2.frozen 0
          simp at q8 q2
          go_wp2
          have hne2 : ∀ D ∈ [D2, D1, D0], D ≠ w.heap.size := fun D hD e => by
            subst e
            have h1 := HG.out.marks _ hD
            have h2 := HG.out.c2
            unfold Blk at h2
            rw [h2] at h1
            cases h1
          have mk : ∀ D ∈ [D2, D1, D0], (V12.setCell ⟨w.heap.size, 0, none⟩ (.bool true)).heap[D]? = some (.deferred (some [])) := fun D hD => by
            rw [Below.heap_setCell _ _ _ _ (hne2 D hD)]
            exact HG.out.marks D hD
          have m2 := mk D2 (by simp)
          have m1 := mk D1 (by simp)
          have m0 := mk D0 (by simp)
          have e1 := blk_putObj (o := .deferred none) m2 (HG.out.c2.set_ 0 (.bool true))
          have m1' : ((V12.setCell ⟨w.heap.size, 0, none⟩ (.bool true)).putObj D2 (.deferred none)).heap[D1]? = some (.deferred (some [])) := (World.putObj_heap_other (by omega)).trans m1
          have e2 := blk_putObj (o := .deferred none) m1' e1
          have m0' : (((V12.setCell ⟨w.heap.size, 0, none⟩ (.bool true)).putObj D2 (.deferred none)).putObj D1 (.deferred none)).heap[D0]? = some (.deferred (some [])) := (World.putObj_heap_other (by omega)).trans ((World.putObj_heap_other (by omega)).trans m0)
          have e3 := blk_putObj (o := .deferred none) m0' e2
          have q3 := e3.cell 0
          simp at q3
          refine ret_marks3 (v := .bool true) m2 m1 m0 hlt2 hlt1 (by simp [results, Tryd.results4, go_sem, q3]) ?_
          exact ⟨rfl, below_putObj (below_putObj (below_putObj (HG.out.below.setCell (p := ⟨w.heap.size, 0, none⟩) (Nat.le_refl _) _) hle2) hle1) hle0⟩
        case stop7 =>
          exact fun D c V' hD h hK => h.elim
    case stop5 =>
      exact fun D c V' hD h hK => h.elim
end Go.Proofs.YthnaiiejjdmnaaaDoor
