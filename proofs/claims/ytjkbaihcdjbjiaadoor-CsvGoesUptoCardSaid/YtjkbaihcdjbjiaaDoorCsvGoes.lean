/- Layer 21 (csv): CsvGoes: Rows goes over the rows up to the first error, twice, and ended early. -/
import Derived.Test.YtjkbaihcdjbjiaaDoorCsvLaws
namespace Go.Proofs.YtjkbaihcdjbjiaaDoor
open Go.RowKit
attribute [local go_sem] Oper.semAt_some

theorem seq_not_nil (w : World) (a : Addr) : (binOp .eql 38 (.func (.func 25) #[] #[.pointer (some a)]) .nilFunc).run Tryd.prog w = .ok (.bool false) w := by kernel_rfl

/-- the law's own cells -/
structure GS (w : World) (s : ByteArray) (rows : List (List Csv.F)) (n steps r b2 bt b4 b5 b6 b7 base : Nat) (vq : Value) (Ds : List Nat) (V : World) : Prop where
  c2 : Blk V b2 4 #[.bool false]
  ct : Blk V bt 9 #[.string s]
  c4 : Blk V b4 22 #[vq]
  own : OwnRows V base vq rows
  c5 : Blk V b5 3 #[.int .i64 n]
  c6 : Blk V b6 3 #[.int .i64 steps]
  c7 : Blk V b7 3 #[.int .i64 r]
  below : Below w.heap.size w V
  marks : ∀ D ∈ Ds, V.heap[D]? = some (.deferred (some []))
theorem OwnRows.shape' {w : World} {b : Nat} {v : Value} {rows : List (List Csv.F)} (h : OwnRows w b v rows) : ∃ A c, v = .slice A rows.length c := by
  obtain ⟨us, h1, h2, _⟩ := h
  rw [← h1]
  exact own_form h2
theorem GS.same1 {w : World} {s : ByteArray} {rows : List (List Csv.F)} {n steps r b2 bt b4 b5 b6 b7 base n₁ : Nat} {vq : Value} {Ds : List Nat} {V V' : World} (h : GS w s rows n steps r b2 bt b4 b5 b6 b7 base vq Ds V)
    (hs : Same1 57 n₁ V V') (hn : w.heap.size ≤ n₁) : GS w s rows n steps r b2 bt b4 b5 b6 b7 base vq Ds V' :=
  ⟨hs.blk h.c2 (by decide), hs.blk h.ct (by decide), hs.blk h.c4 (by decide), h.own.same1 hs, hs.blk h.c5 (by decide), hs.blk h.c6 (by decide), hs.blk h.c7 (by decide), h.below.trans (hs.below hn h.below.size), fun D hD => hs.block D _ (h.marks D hD) (fun r e => by cases e) (fun c fz e => by cases e)⟩
theorem Same1.thenBelow {T n₁ : Nat} {A B C : World} (h : Same1 T n₁ A B) (k : Below A.heap.size B C) : Same1 T n₁ A C :=
  ⟨k.os.trans h.os, k.tape.trans h.tape, k.output.trans h.output, Nat.le_trans h.size k.size, fun i hi hA => (k.block i hA).trans (h.low i hi hA), fun i o ho h1 h2 => (k.block i (Array.getElem?_eq_some_iff.1 ho).1).trans (h.block i o ho h1 h2)⟩

theorem own_place' {W : World} {base e n n' c : Nat} {A : Option Addr} {us : List Value} (ho : W.ownsRow base e 1 (.slice A n c) n' us) {i : Nat} (hi : i < n') :
    ∃ ga u, A = some ⟨ga, 0, none⟩ ∧ W.cell? ⟨ga, i, none⟩ = some u ∧ W.frozen? ⟨ga, i, none⟩ = false := by
  have hl : i < us.length := by have := ho.1; omega
  rcases ho.2 with ⟨hv, hn⟩ | ⟨g, cap, cur, hv, _⟩
  · omega
  · injection hv with e1 e2 e3
    subst e1 e2 e3
    exact ⟨g, us[i], rfl, (ho.cellAt i (by omega)).trans (List.getElem?_eq_getElem hl), ho.frozenAt i⟩
section
variable {w : World} {s : ByteArray} {rows : List (List Csv.F)} {n steps r r' b2 bt b4 b5 b6 b7 base : Nat} {vq : Value} {Ds : List Nat} {V V' : World}
theorem GS.lts (h : GS w s rows n steps r b2 bt b4 b5 b6 b7 base vq Ds V) : b2 < V.heap.size ∧ bt < V.heap.size ∧ b4 < V.heap.size ∧ b5 < V.heap.size ∧ b6 < V.heap.size ∧ b7 < V.heap.size ∧ ∀ D ∈ Ds, D < V.heap.size :=
  ⟨h.c2.lt, h.ct.lt, h.c4.lt, h.c5.lt, h.c6.lt, h.c7.lt, fun D hD => (Array.getElem?_eq_some_iff.1 (h.marks D hD)).1⟩
/-- the count's cell turns -/
theorem GS.set8 (h : GS w s rows n steps r b2 bt b4 b5 b6 b7 base vq Ds V') (hV : GS w s rows n steps r b2 bt b4 b5 b6 b7 base vq Ds V) {cs : Array Value} (h8 : Blk V' V.heap.size 3 cs) (v : Value) :
    GS w s rows n steps r b2 bt b4 b5 b6 b7 base vq Ds (V'.setCell ⟨V.heap.size, 0, none⟩ v) := by
  obtain ⟨l2, lt, l4, l5, l6, l7, lD⟩ := hV.lts
  have far : ∀ {b : Nat} {t : TypeId} {c : Array Value}, Blk V' b t c → b < V.heap.size → Blk (V'.setCell ⟨V.heap.size, 0, none⟩ v) b t c := fun hb hl => hb.far (p := ⟨V.heap.size, 0, none⟩) (by simp; omega) v
  have hg := grownBy_set V' ⟨V.heap.size, 0, none⟩ v
  have own : ∀ {B e n : Nat} {u : Value} {xs : List Value}, e ≠ 3 → V'.ownsRow B e 1 u n xs → (V'.setCell ⟨V.heap.size, 0, none⟩ v).ownsRow B e 1 u n xs := fun he ho =>
    own_kept_ty ho hg (fun g c t fz e hc => by
      cases e
      unfold Blk at h8
      rw [show V'.heap[V.heap.size]? = some (.cells c t fz) from hc] at h8
      cases h8
      exact Ne.symm he)
  obtain ⟨us, o1, o2, o3, o4⟩ := h.own
  refine ⟨far h.c2 l2, far h.ct lt, far h.c4 l4, ⟨us, o1, own (by decide) o2, fun k u r hu hr => own (by decide) (o3 k u r hu hr), o4⟩, far h.c5 l5, far h.c6 l6, far h.c7 l7, h.below.setCell (p := ⟨V.heap.size, 0, none⟩) hV.below.size v, fun D hD => ?_⟩
  rw [Below.heap_setCell _ _ _ _ (by have := lD D hD; show D ≠ V.heap.size; omega)]
  exact h.marks D hD
/-- the next round's counter -/
theorem GS.next (h : GS w s rows n steps r b2 bt b4 b5 b6 b7 base vq Ds V) {D : Nat} (hK : V.heap[D]? = some (.deferred (some []))) (r' : Nat) :
    GS w s rows n steps r' b2 bt b4 b5 b6 V.heap.size base vq (D :: Ds) (V.alloc (.cells #[.int .i64 r'] 3)) := by
  have hb : Below V.heap.size V (V.alloc (.cells #[.int .i64 r'] 3)) := (Below.refl _ _).alloc (Nat.le_refl _) _
  have h' := h.same1 (n₁ := w.heap.size) (Same1.of_below hb) (Nat.le_refl _)
  refine ⟨h'.c2, h'.ct, h'.c4, h'.own, h'.c5, h'.c6, Blk.new _ _ _, h'.below, fun D' hD' => ?_⟩
  rcases List.mem_cons.1 hD' with rfl | hm
  · exact (hb.block _ (Array.getElem?_eq_some_iff.1 hK).1).trans hK
  · exact h'.marks D' hm
end
theorem keepT_set8 {V' : World} {g : Nat} {cs : Array Value} (h8 : Blk V' g 3 cs) (v : Value) : KeepT 57 V' (V'.setCell ⟨g, 0, none⟩ v) :=
  KeepT.of_grown (grownBy_set V' ⟨g, 0, none⟩ v) (fun g' c fz e hc => by
    cases e
    unfold Blk at h8
    rw [h8] at hc
    cases hc)
theorem blk_count {V' : World} {g k : Nat} {pre : List Yld} {x : Yld} {c0 : Value} (h : Blk V' g 3 ((#[c0] : Array Value).setIfInBounds 0 (.int .i64 ((k : Int) + 1)))) (hk : pre.length = k) : Blk V' g 3 #[.int .i64 ((pre ++ [x]).length : Nat)] := by
  rw [List.length_append, hk]
  exact h
theorem undef_no (b : Bool) : (some undef = some (Value.bool b)) = False := by simp [undef]
/-- a return behind three loops over a function -/
theorem ret_marks3 {P : Program} {fn : Func} {tmps : Array Value} {R : Ending → World → Prop} {V : World} {D2 D1 D0 : Nat} {v : Value} (h2 : V.heap[D2]? = some (.deferred (some []))) (h1 : V.heap[D1]? = some (.deferred (some []))) (h0 : V.heap[D0]? = some (.deferred (some [])))
    (h21 : D1 < D2) (h10 : D0 < D1)
    (hr : (results fn tmps).run P (((V.putObj D2 (.deferred none)).putObj D1 (.deferred none)).putObj D0 (.deferred none)) = .ok v (((V.putObj D2 (.deferred none)).putObj D1 (.deferred none)).putObj D0 (.deferred none)))
    (hR : R (.returned v) (((V.putObj D2 (.deferred none)).putObj D1 (.deferred none)).putObj D0 (.deferred none))) :
    bodyPostM Fence.wide 9 P fn R .ret { tmps := tmps, defers := [{ target := .collected D2, args := #[] }, { target := .collected D1, args := #[] }, { target := .collected D0, args := #[] }] } V := by
  have h1' : (V.putObj D2 (.deferred none)).heap[D1]? = some (.deferred (some [])) := (World.putObj_heap_other (by omega)).trans h1
  have h0' : ((V.putObj D2 (.deferred none)).putObj D1 (.deferred none)).heap[D0]? = some (.deferred (some [])) := (World.putObj_heap_other (by omega)).trans ((World.putObj_heap_other (by omega)).trans h0)
  exact ⟨by simp, .inl ⟨_, _, rfl, run_takeDeferred h2, ⟨by simp, .inl ⟨_, _, rfl, run_takeDeferred h1', ⟨by simp, .inl ⟨_, _, rfl, run_takeDeferred h0', ⟨_, hr, hR⟩⟩⟩⟩⟩⟩⟩

set_option maxHeartbeats 8000000 in
set_option maxRecDepth 100000 in
theorem csvGoes_any (s : ByteArray) (w : World) (m : Int) (hm : w.cell? ⟨0, 0, none⟩ = some (.int .i64 m)) (hs : s.size ≤ 4194304) :
    Calls Tryd.prog 5 #[.string s] w fun e w' => e = .returned (.bool true) ∧ Below w.heap.size w w' := by
  have hw0 := cell0_lt hm
  have HC := Lib.hid hm
  have hl := Csv.rowsOf_length s.data.toList
  have hlr := rowsOf_rows_len s.data.toList
  rw [← Lib.size_eq] at hl hlr
  have hra := fun wx => refRead_any s (by omega) wx
  have hri := fun n₁ Bt hBt W1 hn hc => rows_iter s (by omega) n₁ Bt hBt W1 hn hc
  unfold ReadRes at hra
  unfold Yld.Step Yld.End at hri
  obtain ⟨R, hR⟩ : ∃ R, Csv.rowsOf s.data.toList = R := ⟨_, rfl⟩
  rw [hR] at hl hlr hra hri
  obtain ⟨rows, n⟩ := R
  have hl : rows.length ≤ s.size := hl
  have HL : Hid (∀ r ∈ rows, r.length ≤ 1073741824) := fun r hr => by have := hlr r hr; omega
  have HRA : Hid (∀ wx : World, Calls Tryd.prog 18 #[.string s] wx fun e w' => ∃ v, e = .returned (.tuple #[v, .int .i64 n]) ∧ OwnRows w' wx.heap.size v rows ∧ Below wx.heap.size wx w') := hra
  have HRI := Lib.hid hri
  have hsn := seq_not_nil
  clear hm hra hri hlr hR
  obtain ⟨L, hL⟩ : ∃ n, rows.length = n := ⟨_, rfl⟩
  rw [hL] at hl
  have HLL := Lib.hid hL
  clear hL
  by_cases hn : n = 0
  · have hnb : ((n : Int) != 0) = false := by simp [hn]
    obtain ⟨st, hst⟩ : ∃ st, L = st := ⟨_, rfl⟩
    have hst2 : st = L + if n = 0 then 0 else 1 := by rw [← hst]; simp [hn]
    have HST := Lib.hid hst2
    clear hst2
    have HN := Lib.hid hn
    clear hn
    refine calls_of_wp_marks Tryd.func5 rfl ?_
    simp only [Tryd.ntmps5, List.size_toArray, List.length_cons, List.length_nil, Nat.reduceAdd, Nat.reduceSub, Array.replicate_succ, Array.replicate_zero, List.push_toArray, List.append_toArray, List.nil_append, List.cons_append]
    go_wp2_with (go_at_call 17; refine (rows_any _ _).mono ?_; rintro e w' ⟨rfl, rfl⟩)
    obtain ⟨WA, hWA⟩ : ∃ W, (w.alloc (.cells #[.bool false] 4)).alloc (.cells #[.string s] 9) = W := ⟨_, rfl⟩
    have hA : Below w.heap.size w WA := by rw [← hWA]; exact ((Below.refl _ w).alloc (Nat.le_refl _) _).alloc (by simp) _
    have a2 : Blk WA w.heap.size 4 #[.bool false] := by rw [← hWA]; exact (Blk.new _ _ _).alloc _
    have at' : Blk WA (w.heap.size + 1) 9 #[.string s] := by rw [← hWA]; have := Blk.new (w.alloc (.cells #[.bool false] 4)) 9 #[.string s]; simpa using this
    rw [hWA]
    clear hWA
    refine (speaks_any WA m ((hA.cell hw0).trans HC.out)).mono ?_
    rintro e w1 ⟨rfl, hb1⟩
    have H2 := Lib.hid (a2.below hb1 a2.lt)
    have HT := Lib.hid (at'.below hb1 at'.lt)
    have HB1 := Lib.hid (hA.trans (hb1.mono hA.size))
    have hs1 := HB1.out.size
    clear hA a2 at' hb1
    have HSTE := Lib.hid hst
    clear hst
    go_wp2_with fail
    refine (HRA.out w1).mono ?_
    rintro e w2 ⟨vq, rfl, ho, hb2⟩
    have H2' := Lib.hid (H2.out.below hb2 H2.out.lt)
    have HT' := Lib.hid (HT.out.below hb2 HT.out.lt)
    have HB2 := Lib.hid (HB1.out.trans (hb2.mono hs1))
    have hs2 := HB2.out.size
    have HO := Lib.hid ho
    obtain ⟨Aq, cq, rfl⟩ : ∃ A c, vq = .slice A L c := by rw [← HLL.out]; exact ho.shape'
    clear ho hb2 H2 HT HB1
    go_wp2_with fail
    obtain ⟨V, hV⟩ : ∃ W, (((w2.alloc (.cells #[.slice Aq L cq] 22)).alloc (.cells #[.int .i64 n] 3)).alloc (.cells #[.int .i64 L] 3)).alloc (.cells #[.int .i64 0] 3) = W := ⟨_, rfl⟩
    have hbV : Below w2.heap.size w2 V := by rw [← hV]; exact ((((Below.refl _ w2).alloc (Nat.le_refl _) _).alloc (by simp) _).alloc (by simp; omega) _).alloc (by simp; omega) _
    have est : Value.int .i64 L = .int .i64 st := by rw [← HSTE.out]
    have hg : GS w s rows n st 0 w.heap.size (w.heap.size + 1) w2.heap.size (w2.heap.size + 1) (w2.heap.size + 1 + 1) (w2.heap.size + 1 + 1 + 1) w1.heap.size (.slice Aq L cq) [] V := by
      rw [est] at hV
      refine ⟨H2'.out.below hbV H2'.out.lt, HT'.out.below hbV HT'.out.lt, ?_, HO.out.same1 (Same1.of_below (n₁ := 0) hbV), ?_, ?_, ?_, HB2.out.trans (hbV.mono hs2), fun D hD => by cases hD⟩
      · rw [← hV]; exact (((Blk.new _ _ _).alloc _).alloc _).alloc _
      · rw [← hV]; have := ((Blk.new (w2.alloc (.cells #[.slice Aq L cq] 22)) 3 #[.int .i64 n]).alloc (.cells #[.int .i64 st] 3)).alloc (.cells #[.int .i64 0] 3); simpa using this
      · rw [← hV]; have := (Blk.new ((w2.alloc (.cells #[.slice Aq L cq] 22)).alloc (.cells #[.int .i64 n] 3)) 3 #[.int .i64 st]).alloc (.cells #[.int .i64 0] 3); simpa using this
      · rw [← hV]; have := Blk.new (((w2.alloc (.cells #[.slice Aq L cq] 22)).alloc (.cells #[.int .i64 n] 3)).alloc (.cells #[.int .i64 st] 3)) 3 #[.int .i64 0]; simpa using this
    rw [hV]
    have HG := Lib.hid hg
    clear hV hbV hg est H2' HT' HO HB2
    refine wp_loop_rounds 4 ?_
    rw [rounds_succ]
    have q7 := HG.out.c7.cell 0
    simp at q7
    go_wp2_with fail
    obtain ⟨V8, hV8⟩ : ∃ W, V.alloc (.cells #[.int .i64 0] 3) = W := ⟨_, rfl⟩
    have hb8 : Below V.heap.size V V8 := by rw [← hV8]; exact (Below.refl _ _).alloc (Nat.le_refl _) _
    have hc8 : Blk V8 V.heap.size 3 #[.int .i64 0] := by rw [← hV8]; exact Blk.new _ _ _
    have HG8 : Hid (GS w s rows n st 0 w.heap.size (w.heap.size + 1) w2.heap.size (w2.heap.size + 1) (w2.heap.size + 1 + 1) (w2.heap.size + 1 + 1 + 1) w1.heap.size (.slice Aq L cq) [] V8) := HG.out.same1 (n₁ := w.heap.size) (Same1.of_below hb8) (Nat.le_refl _)
    have HC8 := Lib.hid hc8
    have hz8 := hb8.size
    rw [hV8]
    clear hV8 hc8 hb8 q7
    refine (wpIn_wide (n := 9)).1 ?_
    refine' wp_iter 57 (gf := 25) (lb := #[.pointer (some ⟨w.heap.size + 1, 0, none⟩)]) rfl (enters_of Tryd.func25 (by kernel_rfl) rfl) (encs := Yld.enc) (fun x => rfl) (Pre := Yld.Pre) ?hPre1
      (fun W1 hb hn => HRI.out V8.heap.size (w.heap.size + 1) HG8.out.ct.lt W1 hn ((hb.cell (p := ⟨w.heap.size + 1, 0, none⟩) HG8.out.ct.lt).trans (HG8.out.ct.cell 0)))
      (fun pre V' => GS w s rows n st 0 w.heap.size (w.heap.size + 1) w2.heap.size (w2.heap.size + 1) (w2.heap.size + 1 + 1) (w2.heap.size + 1 + 1 + 1) w1.heap.size (.slice Aq L cq) [] V' ∧ Blk V' V.heap.size 3 #[.int .i64 pre.length])
      (fun c V' => False)
      ?hI1 ?hIx1 ?hAux1 ⟨HG8.out, HC8.out⟩ _ ?assign1 ?body1 ?done1 ?stop1
    case assign1 =>
      intro l x V' K hK
      simp only [Yld.enc]
      gi_wp2
      exact hK
    case hPre1 =>
      intro x W0 W l r r' h hl
      unfold Yld.Pre at h ⊢
      split
      · rename_i h0
        rw [if_pos h0] at h
        exact (Same1.putObj (T := 0) (n₁ := 0) r' hl (by omega)).own h (by decide)
      · rename_i h0
        rw [if_neg h0] at h
        exact h
    case hI1 =>
      rintro pre A B ⟨h1, h2⟩ hs
      exact ⟨h1.same1 hs (by have := HG8.out.below.size; omega), hs.blk h2 (by decide)⟩
    case hIx1 =>
      exact fun c A B h _ => h.elim
    case hAux1 =>
      rintro pre V' ⟨h1, _⟩
      exact h1.ct.cell 0
    case body1 =>
      rintro l pre x W0 W ⟨hg, h8⟩ hsame hpre hstep hl hn0
      have hg' := hg.same1 hsame (by have := HG8.out.below.size; omega)
      have h8' := hsame.blk h8 (show 3 ≠ 57 by decide)
      have hlt8 := h8.lt
      have hown0 := hg.own
      have HG0 := Lib.hid hg
      have H80 := Lib.hid h8
      have HS := Lib.hid hsame
      have q8 := h8'.cell 0
      have f8 := h8'.frozen 0
      have q4 := hg'.c4.cell 0
      have q5 := hg'.c5.cell 0
      have q6 := hg'.c6.cell 0
      have q7 := hg'.c7.cell 0
      simp at q4 q5 q6 q7 q8
      have HG1 := Lib.hid hg'
      have H81 := Lib.hid h8'
      have HO0 := Lib.hid hown0
      obtain ⟨v, fs, e⟩ := x
      obtain ⟨hs1, hs2, hs3, hs4⟩ := hstep
      dsimp only at hs4
      obtain ⟨k, hk⟩ : ∃ k, pre.length = k := ⟨_, rfl⟩
      rw [hk] at hs2 hs4 q8
      have HK := Lib.hid hk
      clear hg hg' h8 h8' hown0 hsame hs1 hs3 hk
      have hfl : w.heap.size ≤ W0.heap.size := by have := HG8.out.below.size; omega
      by_cases he : e = 0
      · subst he
        rw [if_pos rfl] at hs4
        unfold Yld.Pre at hpre
        rw [if_pos rfl] at hpre
        dsimp only at hpre
        have hkL : k < L := by have := (List.getElem?_eq_some_iff.1 hs4).1; have := HLL.out; omega
        have hkL' : (k : Int) < L := by omega
        have hst0 := HST.out
        have hd1 : decide (st ≤ k) = false := decide_eq_false (by split at hst0 <;> omega)
        have hd2 : decide (k < L) = true := decide_eq_true hkL
        have hd3 : ((k : Int) == L) = false := by rw [beq_eq_false_iff_ne]; omega
        have hfsl := HL.out fs (List.mem_of_getElem? hs4)
        have hr2 := Rows2.of_own HG1.out.own
        obtain ⟨Ar, cr, usr, er, _, _, hulr, hRr, hRrr⟩ := hr2
        obtain ⟨rfl, _, rfl⟩ : Aq = Ar ∧ True ∧ cq = cr := by injection er with q1 q2 q3; exact ⟨q1, trivial, q3⟩
        rw [HLL.out] at hRr hulr
        obtain ⟨b1, o1, u1, rfl, hb1, hx1, hc1⟩ := hRr.at_ hkL
        have hr1 := hRrr k u1 fs hx1 hs4
        have hrv := Row1.of_own hpre
        obtain ⟨A1, c1, e1, _⟩ := hr1
        obtain ⟨Av, cv, ev⟩ := own_form hpre
        obtain ⟨m1, hm1⟩ : ∃ n, fs.length = n := ⟨_, rfl⟩
        have hcall := sameRow_any v u1 fs fs W hrv (hRrr k u1 fs hx1 hs4) hfsl hfsl
        have hcall' : Calls Tryd.prog 19 #[v, u1] W fun e w' => e = .returned (.bool true) ∧ Below W.heap.size W w' := hcall.mono fun e w' ⟨h1, h2⟩ => ⟨by rw [h1]; simp, h2⟩
        have HPRE := Lib.hid hpre
        have HS4 := Lib.hid hs4
        rw [hm1] at e1 ev
        subst e1 ev
        have HCALL := Lib.hid hcall'
        have hm1b : m1 ≤ 1073741824 := by rw [← hm1]; exact hfsl
        have HM1 := Lib.hid hm1
        clear hcall hcall' hrv er hulr hRr hRrr hx1 hpre hs4 hm1 hst0 hb1
        gi_wp2_with fail
        refine ⟨trivial, (CallsIn.inRound l (callsIn_wide.2 HCALL.out)).mono ?_⟩
        rintro e W1 ⟨rfl, hbc⟩
        have hown1 := own_grown_none HPRE.out (only_of_below hbc none)
        rw [HM1.out] at hown1
        have hz0 := HS.out.size
        have HO1 := Lib.hid hown1
        have HBC : Hid (Below W0.heap.size W W1) := hbc.mono hz0
        have HKF : Hid (KeepsFrom V8.heap.size W W1) := KeepsFrom.of_grownBy (only_of_below hbc none) (fun j e => by cases e)
        have HKT : Hid (KeepT 57 W W1) := KeepT.of_grown (only_of_below hbc none) (fun g c fz e => by cases e)
        have p8 := (H81.out.below hbc H81.out.lt).cell 0
        have p4 := (HG1.out.c4.below hbc HG1.out.c4.lt).cell 0
        rw [HK.out] at p8
        simp at p4 p8
        clear q4 q5 q6 q7 q8 f8 hc1 hbc hown1 hd1 hd2
        have hu := undef_no
        gi_wp2
        clear p4 p8 hd3 hu
        gi_loopw [78] (fun i wr => ∃ (j : Nat) (cells : List Value), j ≤ m1 ∧ i = .int .i64 j ∧ wr.ownsRow W0.heap.size 9 1 (.slice Av m1 cv) m1 cells ∧ Below W0.heap.size W wr ∧ KeepsFrom V8.heap.size W wr ∧ KeepT 57 W wr) (fun i _ => m1 - (intOf i).toNat)
        case atStart => exact ⟨0, _, by omega, rfl, HO1.out, HBC.out, HKF.out, HKT.out⟩
        case round =>
          obtain ⟨j, cells, hj, rfl, hown, hbw, hkf, hkt⟩ := hrel
          have HOW := Lib.hid hown
          have HBW := Lib.hid hbw
          have HKF' := Lib.hid hkf
          have HKT' := Lib.hid hkt
          clear hown hbw hkf hkt
          by_cases hjl : j < m1
          · have hjl' : (j : Int) < m1 := by omega
            obtain ⟨g, u, rfl, hcell, hfz⟩ := own_place' HOW.out hjl
            have hst := HOW.out.stored j (.string ⟨#[42]⟩)
            have HST2 := Lib.hid hst
            have hgb := (own_blocks HOW.out g rfl)
            have HGB := Lib.hid hgb
            clear hst hgb
            gi_wp2
            refine ⟨⟨j + 1, _, by omega, by go_num, HST2.out.1, ?_, ?_, ?_⟩, by simp [intOf]; omega⟩
            · exact HBW.out.setCell (p := ⟨g, j, none⟩) HGB.out.1 _
            · exact HKF'.out.trans ((KeepsOthers.setCell _ _ _).from _)
            · exact HKT'.out.trans (KeepT.of_grown HST2.out.2 (fun g' c fz e hc => by
                cases e
                obtain ⟨_, c', hc'⟩ := HGB.out
                rw [hc'] at hc
                cases hc))
          · obtain rfl : m1 = j := by omega
            have hs3 := HS.out.thenBelow HBW.out
            have hgr := HG0.out.same1 hs3 (by have := HG8.out.below.size; omega)
            have h8r := hs3.blk H80.out (show 3 ≠ 57 by decide)
            have r8 := h8r.cell 0
            have rf8 := h8r.frozen 0
            have hgn := hgr.set8 HG.out h8r (.int .i64 ((k : Int) + 1))
            have h8n := h8r.set_ 0 (.int .i64 ((k : Int) + 1))
            have r7 := hgn.c7.cell 0
            rw [HK.out] at r8
            simp at r7 r8
            have HGN := Lib.hid hgn
            have H8N := Lib.hid h8n
            clear hs3 hgr h8r hgn h8n
            gi_wp2
            exact ⟨HKF'.out.trans ((KeepsOthers.setCell _ _ _).from _), HKT'.out.trans (keepT_set8 (HS.out.thenBelow HBW.out |>.blk H80.out (by decide)) _), HGN.out, blk_count H8N.out HK.out⟩
      · rw [if_neg he] at hs4
        exact absurd (hs4.2.symm.trans HN.out) he
    case done1 =>
      rintro D0 xs V' hD hend ⟨hg, h8⟩ hK
      have hxs : xs.length = st := by
        have h3 := HLL.out
        have h4 := HST.out
        rcases hend with ⟨h0, _, h1⟩ | ⟨q, x, h2, hx, h0, _, h1⟩
        · have h0 : n = 0 := h0
          have h5 := congrArg List.length h1
          rw [List.length_map] at h5
          rw [if_pos h0] at h4
          omega
        · have h0 : n = x.e := h0
          have h5 := congrArg List.length h1
          have h6 := congrArg List.length h2
          rw [List.length_map] at h5
          rw [List.length_append, List.length_singleton] at h6
          rw [if_neg (by omega)] at h4
          omega
      clear hend
      have q8 := h8.cell 0
      have q6 := hg.c6.cell 0
      have q7 := hg.c7.cell 0
      simp at q6 q7 q8
      rw [hxs] at q8
      have hse : ((st : Int) != st) = false := by simp
      have hle0 : w.heap.size ≤ D0 := by have := HG8.out.below.size; omega
      have HGD := Lib.hid (hg.next hK 1)
      have hz := hg.below.size
      clear hg h8 hK hxs
      go_wp2
      clear q6 q7 q8
      obtain ⟨V10, hVn⟩ : ∃ W, V'.alloc (.cells #[.int .i64 1] 3) = W := ⟨_, rfl⟩
      have hg2 : GS w s rows n st 1 w.heap.size (w.heap.size + 1) w2.heap.size (w2.heap.size + 1) (w2.heap.size + 1 + 1) V'.heap.size w1.heap.size (.slice Aq L cq) [D0] V10 := by rw [← hVn]; exact HGD.out
      have hz2 : V'.heap.size < V10.heap.size := by rw [← hVn]; simp
      rw [hVn]
      clear hVn HGD HG HG8 HC8
      have HG := Lib.hid hg2
      clear hg2
      obtain ⟨B0, hB0⟩ : ∃ b, V'.heap.size = b := ⟨_, rfl⟩
      rw [hB0] at HG hz2 ⊢
      clear hB0
      rw [rounds_succ]
      have q7 := HG.out.c7.cell 0
      simp at q7
      go_wp2_with fail
      obtain ⟨V8, hV8⟩ : ∃ W, V10.alloc (.cells #[.int .i64 0] 3) = W := ⟨_, rfl⟩
      have hb8 : Below V10.heap.size V10 V8 := by rw [← hV8]; exact (Below.refl _ _).alloc (Nat.le_refl _) _
      have hc8 : Blk V8 V10.heap.size 3 #[.int .i64 0] := by rw [← hV8]; exact Blk.new _ _ _
      have HG8 : Hid (GS w s rows n st 1 w.heap.size (w.heap.size + 1) w2.heap.size (w2.heap.size + 1) (w2.heap.size + 1 + 1) B0 w1.heap.size (.slice Aq L cq) [D0] V8) := HG.out.same1 (n₁ := w.heap.size) (Same1.of_below hb8) (Nat.le_refl _)
      have HC8 := Lib.hid hc8
      have hz8 := hb8.size
      rw [hV8]
      clear hV8 hc8 hb8 q7
      refine (wpIn_wide (n := 9)).1 ?_
      refine' wp_iter 57 (gf := 25) (lb := #[.pointer (some ⟨w.heap.size + 1, 0, none⟩)]) rfl (enters_of Tryd.func25 (by kernel_rfl) rfl) (encs := Yld.enc) (fun x => rfl) (Pre := Yld.Pre) ?hPre2
        (fun W1 hb hn => HRI.out V8.heap.size (w.heap.size + 1) HG8.out.ct.lt W1 hn ((hb.cell (p := ⟨w.heap.size + 1, 0, none⟩) HG8.out.ct.lt).trans (HG8.out.ct.cell 0)))
        (fun pre V' => GS w s rows n st 1 w.heap.size (w.heap.size + 1) w2.heap.size (w2.heap.size + 1) (w2.heap.size + 1 + 1) B0 w1.heap.size (.slice Aq L cq) [D0] V' ∧ Blk V' V10.heap.size 3 #[.int .i64 pre.length] ∧ pre = [])
        (fun c V' => c = .exit 2 ∧ GS w s rows n st 1 w.heap.size (w.heap.size + 1) w2.heap.size (w2.heap.size + 1) (w2.heap.size + 1 + 1) B0 w1.heap.size (.slice Aq L cq) [D0] V' ∧ Blk V' V10.heap.size 3 #[.int .i64 1] ∧ 1 ≤ st)
        ?hI2 ?hIx2 ?hAux2 ⟨HG8.out, HC8.out, rfl⟩ _ ?assign2 ?body2 ?done2 ?stop2
      case assign2 =>
        intro l x V' K hK
        simp only [Yld.enc]
        gi_wp2
        exact hK
      case hPre2 =>
        intro x W0 W l r r' h hl
        unfold Yld.Pre at h ⊢
        split
        · rename_i h0
          rw [if_pos h0] at h
          exact (Same1.putObj (T := 0) (n₁ := 0) r' hl (by omega)).own h (by decide)
        · rename_i h0
          rw [if_neg h0] at h
          exact h
      case hI2 =>
        rintro pre A B ⟨h1, h2, h3⟩ hs
        exact ⟨h1.same1 hs (by have := HG8.out.below.size; omega), hs.blk h2 (by decide), h3⟩
      case hIx2 =>
        rintro c A B ⟨h0, h1, h2, h3⟩ hs
        exact ⟨h0, h1.same1 hs (by have := HG8.out.below.size; omega), hs.blk h2 (by decide), h3⟩
      case hAux2 =>
        rintro pre V' ⟨h1, _⟩
        exact h1.ct.cell 0
      case body2 =>
        rintro l pre x W0 W ⟨hg, h8, hpn⟩ hsame hpre hstep hl hn0
        have hg' := hg.same1 hsame (by have := HG8.out.below.size; omega)
        have h8' := hsame.blk h8 (show 3 ≠ 57 by decide)
        have hlt8 := h8.lt
        have hown0 := hg.own
        have HG0 := Lib.hid hg
        have H80 := Lib.hid h8
        have HS := Lib.hid hsame
        have q8 := h8'.cell 0
        have f8 := h8'.frozen 0
        have q4 := hg'.c4.cell 0
        have q5 := hg'.c5.cell 0
        have q6 := hg'.c6.cell 0
        have q7 := hg'.c7.cell 0
        simp at q4 q5 q6 q7 q8
        have HG1 := Lib.hid hg'
        have H81 := Lib.hid h8'
        have HO0 := Lib.hid hown0
        obtain ⟨v, fs, e⟩ := x
        obtain ⟨hs1, hs2, hs3, hs4⟩ := hstep
        dsimp only at hs4
        obtain ⟨k, hk⟩ : ∃ k, pre.length = k := ⟨_, rfl⟩
        rw [hk] at hs2 hs4 q8
        have HK := Lib.hid hk
        clear hg hg' h8 h8' hown0 hsame hs1 hs3 hk
        have hfl : w.heap.size ≤ W0.heap.size := by have := HG8.out.below.size; omega
        by_cases he : e = 0
        · subst he
          rw [if_pos rfl] at hs4
          unfold Yld.Pre at hpre
          rw [if_pos rfl] at hpre
          dsimp only at hpre
          have hkL : k < L := by have := (List.getElem?_eq_some_iff.1 hs4).1; have := HLL.out; omega
          have hkL' : (k : Int) < L := by omega
          have hst0 := HST.out
          have hd1 : decide (st ≤ k) = false := decide_eq_false (by split at hst0 <;> omega)
          have hd2 : decide (k < L) = true := decide_eq_true hkL
          have hd3 : ((k : Int) == L) = false := by rw [beq_eq_false_iff_ne]; omega
          have hfsl := HL.out fs (List.mem_of_getElem? hs4)
          have hr2 := Rows2.of_own HG1.out.own
          obtain ⟨Ar, cr, usr, er, _, _, hulr, hRr, hRrr⟩ := hr2
          obtain ⟨rfl, _, rfl⟩ : Aq = Ar ∧ True ∧ cq = cr := by injection er with q1 q2 q3; exact ⟨q1, trivial, q3⟩
          rw [HLL.out] at hRr hulr
          obtain ⟨b1, o1, u1, rfl, hb1, hx1, hc1⟩ := hRr.at_ hkL
          have hr1 := hRrr k u1 fs hx1 hs4
          have hrv := Row1.of_own hpre
          obtain ⟨A1, c1, e1, _⟩ := hr1
          obtain ⟨Av, cv, ev⟩ := own_form hpre
          obtain ⟨m1, hm1⟩ : ∃ n, fs.length = n := ⟨_, rfl⟩
          have hcall := sameRow_any v u1 fs fs W hrv (hRrr k u1 fs hx1 hs4) hfsl hfsl
          have hcall' : Calls Tryd.prog 19 #[v, u1] W fun e w' => e = .returned (.bool true) ∧ Below W.heap.size W w' := hcall.mono fun e w' ⟨h1, h2⟩ => ⟨by rw [h1]; simp, h2⟩
          have HPRE := Lib.hid hpre
          have HS4 := Lib.hid hs4
          rw [hm1] at e1 ev
          subst e1 ev
          have HCALL := Lib.hid hcall'
          have hm1b : m1 ≤ 1073741824 := by rw [← hm1]; exact hfsl
          have HM1 := Lib.hid hm1
          clear hcall hcall' hrv er hulr hRr hRrr hx1 hpre hs4 hm1 hst0 hb1
          gi_wp2_with fail
          refine ⟨trivial, (CallsIn.inRound l (callsIn_wide.2 HCALL.out)).mono ?_⟩
          rintro e W1 ⟨rfl, hbc⟩
          have hown1 := own_grown_none HPRE.out (only_of_below hbc none)
          rw [HM1.out] at hown1
          have hz0 := HS.out.size
          have HO1 := Lib.hid hown1
          have HBC : Hid (Below W0.heap.size W W1) := hbc.mono hz0
          have HKF : Hid (KeepsFrom V8.heap.size W W1) := KeepsFrom.of_grownBy (only_of_below hbc none) (fun j e => by cases e)
          have HKT : Hid (KeepT 57 W W1) := KeepT.of_grown (only_of_below hbc none) (fun g c fz e => by cases e)
          have p8 := (H81.out.below hbc H81.out.lt).cell 0
          have p4 := (HG1.out.c4.below hbc HG1.out.c4.lt).cell 0
          rw [HK.out] at p8
          simp at p4 p8
          clear q4 q5 q6 q7 q8 f8 hc1 hbc hown1 hd1 hd2
          have hu := undef_no
          gi_wp2
          clear p4 p8 hd3 hu
          gi_loopw [78] (fun i wr => ∃ (j : Nat) (cells : List Value), j ≤ m1 ∧ i = .int .i64 j ∧ wr.ownsRow W0.heap.size 9 1 (.slice Av m1 cv) m1 cells ∧ Below W0.heap.size W wr ∧ KeepsFrom V8.heap.size W wr ∧ KeepT 57 W wr) (fun i _ => m1 - (intOf i).toNat)
          case atStart => exact ⟨0, _, by omega, rfl, HO1.out, HBC.out, HKF.out, HKT.out⟩
          case round =>
            obtain ⟨j, cells, hj, rfl, hown, hbw, hkf, hkt⟩ := hrel
            have HOW := Lib.hid hown
            have HBW := Lib.hid hbw
            have HKF' := Lib.hid hkf
            have HKT' := Lib.hid hkt
            clear hown hbw hkf hkt
            by_cases hjl : j < m1
            · have hjl' : (j : Int) < m1 := by omega
              obtain ⟨g, u, rfl, hcell, hfz⟩ := own_place' HOW.out hjl
              have hst := HOW.out.stored j (.string ⟨#[42]⟩)
              have HST2 := Lib.hid hst
              have hgb := (own_blocks HOW.out g rfl)
              have HGB := Lib.hid hgb
              clear hst hgb
              gi_wp2
              refine ⟨⟨j + 1, _, by omega, by go_num, HST2.out.1, ?_, ?_, ?_⟩, by simp [intOf]; omega⟩
              · exact HBW.out.setCell (p := ⟨g, j, none⟩) HGB.out.1 _
              · exact HKF'.out.trans ((KeepsOthers.setCell _ _ _).from _)
              · exact HKT'.out.trans (KeepT.of_grown HST2.out.2 (fun g' c fz e hc => by
                  cases e
                  obtain ⟨_, c', hc'⟩ := HGB.out
                  rw [hc'] at hc
                  cases hc))
            · obtain rfl : m1 = j := by omega
              have hs3 := HS.out.thenBelow HBW.out
              have hgr := HG0.out.same1 hs3 (by have := HG8.out.below.size; omega)
              have h8r := hs3.blk H80.out (show 3 ≠ 57 by decide)
              have r8 := h8r.cell 0
              have rf8 := h8r.frozen 0
              have hgn := hgr.set8 HG.out h8r (.int .i64 ((k : Int) + 1))
              have h8n := h8r.set_ 0 (.int .i64 ((k : Int) + 1))
              have r7 := hgn.c7.cell 0
              rw [HK.out] at r8
              simp at r7 r8
              have HGN := Lib.hid hgn
              have H8N := Lib.hid h8n
              clear hs3 hgr h8r hgn h8n
              gi_wp2
              obtain rfl : pre = [] := hpn
              have hk0 : k = 0 := HK.out.symm
              have h8f := blk_count (x := ⟨.slice none 0 0, [], 0⟩) H8N.out HK.out
              have hst1 : 1 ≤ st := by have := HST.out; split at this <;> omega
              exact ⟨HKF'.out.trans ((KeepsOthers.setCell _ _ _).from _), rfl, HGN.out, h8f, hst1⟩
        · rw [if_neg he] at hs4
          exact absurd (hs4.2.symm.trans HN.out) he
      case done2 =>
        rintro D1 xs V' hD hend ⟨hg, h8, rfl⟩ hK
        have hxs : ([] : List Yld).length = st := by
          have h3 := HLL.out
          have h4 := HST.out
          rcases hend with ⟨h0, _, h1⟩ | ⟨q, x, h2, hx, h0, _, h1⟩
          · have h0 : n = 0 := h0
            have h5 := congrArg List.length h1
            rw [List.length_map] at h5
            rw [if_pos h0] at h4
            omega
          · have h0 : n = x.e := h0
            have h5 := congrArg List.length h1
            have h6 := congrArg List.length h2
            rw [List.length_map] at h5
            rw [List.length_append, List.length_singleton] at h6
            rw [if_neg (by omega)] at h4
            omega
        clear hend
        have q8 := h8.cell 0
        have q6 := hg.c6.cell 0
        have q7 := hg.c7.cell 0
        simp at q6 q7 q8
        have hst00 : st = 0 := hxs.symm
        rw [hst00] at q6
        have hlt1 : D0 < D1 := by have := (HG8.out.marks D0 (by simp)); have := (Array.getElem?_eq_some_iff.1 this).1; omega
        have hle1 : w.heap.size ≤ D1 := by have := HG8.out.below.size; omega
        have HGD := Lib.hid (hg.next hK 2)
        have hz := hg.below.size
        clear hg h8 hK hxs hst00
        go_wp2
        clear q6 q7 q8
        obtain ⟨V11, hVn⟩ : ∃ W, V'.alloc (.cells #[.int .i64 2] 3) = W := ⟨_, rfl⟩
        have hg2 : GS w s rows n st 2 w.heap.size (w.heap.size + 1) w2.heap.size (w2.heap.size + 1) (w2.heap.size + 1 + 1) V'.heap.size w1.heap.size (.slice Aq L cq) [D1, D0] V11 := by rw [← hVn]; exact HGD.out
        have hz2 : V'.heap.size < V11.heap.size := by rw [← hVn]; simp
        rw [hVn]
        clear hVn HGD HG HG8 HC8
        have HG := Lib.hid hg2
        clear hg2
        obtain ⟨B1, hB1⟩ : ∃ b, V'.heap.size = b := ⟨_, rfl⟩
        rw [hB1] at HG hz2 ⊢
        clear hB1
        rw [rounds_succ]
        have q7 := HG.out.c7.cell 0
        simp at q7
        go_wp2_with fail
        obtain ⟨V8, hV8⟩ : ∃ W, V11.alloc (.cells #[.int .i64 0] 3) = W := ⟨_, rfl⟩
        have hb8 : Below V11.heap.size V11 V8 := by rw [← hV8]; exact (Below.refl _ _).alloc (Nat.le_refl _) _
        have hc8 : Blk V8 V11.heap.size 3 #[.int .i64 0] := by rw [← hV8]; exact Blk.new _ _ _
        have HG8 : Hid (GS w s rows n st 2 w.heap.size (w.heap.size + 1) w2.heap.size (w2.heap.size + 1) (w2.heap.size + 1 + 1) B1 w1.heap.size (.slice Aq L cq) [D1, D0] V8) := HG.out.same1 (n₁ := w.heap.size) (Same1.of_below hb8) (Nat.le_refl _)
        have HC8 := Lib.hid hc8
        have hz8 := hb8.size
        rw [hV8]
        clear hV8 hc8 hb8 q7
        refine (wpIn_wide (n := 9)).1 ?_
        refine' wp_iter 57 (gf := 25) (lb := #[.pointer (some ⟨w.heap.size + 1, 0, none⟩)]) rfl (enters_of Tryd.func25 (by kernel_rfl) rfl) (encs := Yld.enc) (fun x => rfl) (Pre := Yld.Pre) ?hPre3
          (fun W1 hb hn => HRI.out V8.heap.size (w.heap.size + 1) HG8.out.ct.lt W1 hn ((hb.cell (p := ⟨w.heap.size + 1, 0, none⟩) HG8.out.ct.lt).trans (HG8.out.ct.cell 0)))
          (fun pre V' => GS w s rows n st 2 w.heap.size (w.heap.size + 1) w2.heap.size (w2.heap.size + 1) (w2.heap.size + 1 + 1) B1 w1.heap.size (.slice Aq L cq) [D1, D0] V' ∧ Blk V' V11.heap.size 3 #[.int .i64 pre.length])
          (fun c V' => False)
          ?hI3 ?hIx3 ?hAux3 ⟨HG8.out, HC8.out⟩ _ ?assign3 ?body3 ?done3 ?stop3
        case assign3 =>
          intro l x V' K hK
          simp only [Yld.enc]
          gi_wp2
          exact hK
        case hPre3 =>
          intro x W0 W l r r' h hl
          unfold Yld.Pre at h ⊢
          split
          · rename_i h0
            rw [if_pos h0] at h
            exact (Same1.putObj (T := 0) (n₁ := 0) r' hl (by omega)).own h (by decide)
          · rename_i h0
            rw [if_neg h0] at h
            exact h
        case hI3 =>
          rintro pre A B ⟨h1, h2⟩ hs
          exact ⟨h1.same1 hs (by have := HG8.out.below.size; omega), hs.blk h2 (by decide)⟩
        case hIx3 =>
          exact fun c A B h _ => h.elim
        case hAux3 =>
          rintro pre V' ⟨h1, _⟩
          exact h1.ct.cell 0
        case body3 =>
          rintro l pre x W0 W ⟨hg, h8⟩ hsame hpre hstep hl hn0
          have hg' := hg.same1 hsame (by have := HG8.out.below.size; omega)
          have h8' := hsame.blk h8 (show 3 ≠ 57 by decide)
          have hlt8 := h8.lt
          have hown0 := hg.own
          have HG0 := Lib.hid hg
          have H80 := Lib.hid h8
          have HS := Lib.hid hsame
          have q8 := h8'.cell 0
          have f8 := h8'.frozen 0
          have q4 := hg'.c4.cell 0
          have q5 := hg'.c5.cell 0
          have q6 := hg'.c6.cell 0
          have q7 := hg'.c7.cell 0
          simp at q4 q5 q6 q7 q8
          have HG1 := Lib.hid hg'
          have H81 := Lib.hid h8'
          have HO0 := Lib.hid hown0
          obtain ⟨v, fs, e⟩ := x
          obtain ⟨hs1, hs2, hs3, hs4⟩ := hstep
          dsimp only at hs4
          obtain ⟨k, hk⟩ : ∃ k, pre.length = k := ⟨_, rfl⟩
          rw [hk] at hs2 hs4 q8
          have HK := Lib.hid hk
          clear hg hg' h8 h8' hown0 hsame hs1 hs3 hk
          have hfl : w.heap.size ≤ W0.heap.size := by have := HG8.out.below.size; omega
          by_cases he : e = 0
          · subst he
            rw [if_pos rfl] at hs4
            unfold Yld.Pre at hpre
            rw [if_pos rfl] at hpre
            dsimp only at hpre
            have hkL : k < L := by have := (List.getElem?_eq_some_iff.1 hs4).1; have := HLL.out; omega
            have hkL' : (k : Int) < L := by omega
            have hst0 := HST.out
            have hd1 : decide (st ≤ k) = false := decide_eq_false (by split at hst0 <;> omega)
            have hd2 : decide (k < L) = true := decide_eq_true hkL
            have hd3 : ((k : Int) == L) = false := by rw [beq_eq_false_iff_ne]; omega
            have hfsl := HL.out fs (List.mem_of_getElem? hs4)
            have hr2 := Rows2.of_own HG1.out.own
            obtain ⟨Ar, cr, usr, er, _, _, hulr, hRr, hRrr⟩ := hr2
            obtain ⟨rfl, _, rfl⟩ : Aq = Ar ∧ True ∧ cq = cr := by injection er with q1 q2 q3; exact ⟨q1, trivial, q3⟩
            rw [HLL.out] at hRr hulr
            obtain ⟨b1, o1, u1, rfl, hb1, hx1, hc1⟩ := hRr.at_ hkL
            have hr1 := hRrr k u1 fs hx1 hs4
            have hrv := Row1.of_own hpre
            obtain ⟨A1, c1, e1, _⟩ := hr1
            obtain ⟨Av, cv, ev⟩ := own_form hpre
            obtain ⟨m1, hm1⟩ : ∃ n, fs.length = n := ⟨_, rfl⟩
            have hcall := sameRow_any v u1 fs fs W hrv (hRrr k u1 fs hx1 hs4) hfsl hfsl
            have hcall' : Calls Tryd.prog 19 #[v, u1] W fun e w' => e = .returned (.bool true) ∧ Below W.heap.size W w' := hcall.mono fun e w' ⟨h1, h2⟩ => ⟨by rw [h1]; simp, h2⟩
            have HPRE := Lib.hid hpre
            have HS4 := Lib.hid hs4
            rw [hm1] at e1 ev
            subst e1 ev
            have HCALL := Lib.hid hcall'
            have hm1b : m1 ≤ 1073741824 := by rw [← hm1]; exact hfsl
            have HM1 := Lib.hid hm1
            clear hcall hcall' hrv er hulr hRr hRrr hx1 hpre hs4 hm1 hst0 hb1
            gi_wp2_with fail
            refine ⟨trivial, (CallsIn.inRound l (callsIn_wide.2 HCALL.out)).mono ?_⟩
            rintro e W1 ⟨rfl, hbc⟩
            have hown1 := own_grown_none HPRE.out (only_of_below hbc none)
            rw [HM1.out] at hown1
            have hz0 := HS.out.size
            have HO1 := Lib.hid hown1
            have HBC : Hid (Below W0.heap.size W W1) := hbc.mono hz0
            have HKF : Hid (KeepsFrom V8.heap.size W W1) := KeepsFrom.of_grownBy (only_of_below hbc none) (fun j e => by cases e)
            have HKT : Hid (KeepT 57 W W1) := KeepT.of_grown (only_of_below hbc none) (fun g c fz e => by cases e)
            have p8 := (H81.out.below hbc H81.out.lt).cell 0
            have p4 := (HG1.out.c4.below hbc HG1.out.c4.lt).cell 0
            rw [HK.out] at p8
            simp at p4 p8
            clear q4 q5 q6 q7 q8 f8 hc1 hbc hown1 hd1 hd2
            have hu := undef_no
            gi_wp2
            clear p4 p8 hd3 hu
            gi_loopw [78] (fun i wr => ∃ (j : Nat) (cells : List Value), j ≤ m1 ∧ i = .int .i64 j ∧ wr.ownsRow W0.heap.size 9 1 (.slice Av m1 cv) m1 cells ∧ Below W0.heap.size W wr ∧ KeepsFrom V8.heap.size W wr ∧ KeepT 57 W wr) (fun i _ => m1 - (intOf i).toNat)
            case atStart => exact ⟨0, _, by omega, rfl, HO1.out, HBC.out, HKF.out, HKT.out⟩
            case round =>
              obtain ⟨j, cells, hj, rfl, hown, hbw, hkf, hkt⟩ := hrel
              have HOW := Lib.hid hown
              have HBW := Lib.hid hbw
              have HKF' := Lib.hid hkf
              have HKT' := Lib.hid hkt
              clear hown hbw hkf hkt
              by_cases hjl : j < m1
              · have hjl' : (j : Int) < m1 := by omega
                obtain ⟨g, u, rfl, hcell, hfz⟩ := own_place' HOW.out hjl
                have hst := HOW.out.stored j (.string ⟨#[42]⟩)
                have HST2 := Lib.hid hst
                have hgb := (own_blocks HOW.out g rfl)
                have HGB := Lib.hid hgb
                clear hst hgb
                gi_wp2
                refine ⟨⟨j + 1, _, by omega, by go_num, HST2.out.1, ?_, ?_, ?_⟩, by simp [intOf]; omega⟩
                · exact HBW.out.setCell (p := ⟨g, j, none⟩) HGB.out.1 _
                · exact HKF'.out.trans ((KeepsOthers.setCell _ _ _).from _)
                · exact HKT'.out.trans (KeepT.of_grown HST2.out.2 (fun g' c fz e hc => by
                    cases e
                    obtain ⟨_, c', hc'⟩ := HGB.out
                    rw [hc'] at hc
                    cases hc))
              · obtain rfl : m1 = j := by omega
                have hs3 := HS.out.thenBelow HBW.out
                have hgr := HG0.out.same1 hs3 (by have := HG8.out.below.size; omega)
                have h8r := hs3.blk H80.out (show 3 ≠ 57 by decide)
                have r8 := h8r.cell 0
                have rf8 := h8r.frozen 0
                have hgn := hgr.set8 HG.out h8r (.int .i64 ((k : Int) + 1))
                have h8n := h8r.set_ 0 (.int .i64 ((k : Int) + 1))
                have r7 := hgn.c7.cell 0
                rw [HK.out] at r8
                simp at r7 r8
                have HGN := Lib.hid hgn
                have H8N := Lib.hid h8n
                clear hs3 hgr h8r hgn h8n
                gi_wp2
                exact ⟨HKF'.out.trans ((KeepsOthers.setCell _ _ _).from _), HKT'.out.trans (keepT_set8 (HS.out.thenBelow HBW.out |>.blk H80.out (by decide)) _), HGN.out, blk_count H8N.out HK.out⟩
          · rw [if_neg he] at hs4
            exact absurd (hs4.2.symm.trans HN.out) he
        case done3 =>
          rintro D2 xs V' hD hend ⟨hg, h8⟩ hK
          have hxs : xs.length = st := by
            have h3 := HLL.out
            have h4 := HST.out
            rcases hend with ⟨h0, _, h1⟩ | ⟨q, x, h2, hx, h0, _, h1⟩
            · have h0 : n = 0 := h0
              have h5 := congrArg List.length h1
              rw [List.length_map] at h5
              rw [if_pos h0] at h4
              omega
            · have h0 : n = x.e := h0
              have h5 := congrArg List.length h1
              have h6 := congrArg List.length h2
              rw [List.length_map] at h5
              rw [List.length_append, List.length_singleton] at h6
              rw [if_neg (by omega)] at h4
              omega
          clear hend
          have q8 := h8.cell 0
          have q6 := hg.c6.cell 0
          have q7 := hg.c7.cell 0
          simp at q6 q7 q8
          rw [hxs] at q8
          have hse : ((st : Int) != st) = false := by simp
          have hlt2 : D1 < D2 := by have := (HG8.out.marks D1 (by simp)); have := (Array.getElem?_eq_some_iff.1 this).1; omega
          have hle2 : w.heap.size ≤ D2 := by have := HG8.out.below.size; omega
          have HGD := Lib.hid (hg.next hK 3)
          have hz := hg.below.size
          clear hg h8 hK hxs
          go_wp2
          clear q6 q7 q8
          obtain ⟨V12, hVn⟩ : ∃ W, V'.alloc (.cells #[.int .i64 3] 3) = W := ⟨_, rfl⟩
          have hg2 : GS w s rows n st 3 w.heap.size (w.heap.size + 1) w2.heap.size (w2.heap.size + 1) (w2.heap.size + 1 + 1) V'.heap.size w1.heap.size (.slice Aq L cq) [D2, D1, D0] V12 := by rw [← hVn]; exact HGD.out
          have hz2 : V'.heap.size < V12.heap.size := by rw [← hVn]; simp
          rw [hVn]
          clear hVn HGD HG HG8 HC8
          have HG := Lib.hid hg2
          clear hg2
          obtain ⟨B2, hB2⟩ : ∃ b, V'.heap.size = b := ⟨_, rfl⟩
          rw [hB2] at HG hz2 ⊢
          clear hB2
          rw [rounds_succ]
          have q7 := HG.out.c7.cell 0
          have q2 := HG.out.c2.cell 0
          have f2 := HG.out.c2.frozen 0
          simp at q7 q2
          go_wp2
          have hne2 : ∀ D ∈ [D2, D1, D0], D ≠ w.heap.size := fun D hD e => by
            subst e
            have h1 := HG.out.marks _ hD
            have h2 := HG.out.c2
            unfold Blk at h2
            rw [h2] at h1
            cases h1
          have mk : ∀ D ∈ [D2, D1, D0], (V12.setCell ⟨w.heap.size, 0, none⟩ (.bool true)).heap[D]? = some (.deferred (some [])) := fun D hD => by
            rw [Below.heap_setCell _ _ _ _ (hne2 D hD)]
            exact HG.out.marks D hD
          have m2 := mk D2 (by simp)
          have m1 := mk D1 (by simp)
          have m0 := mk D0 (by simp)
          have e1 := blk_putObj (o := .deferred none) m2 (HG.out.c2.set_ 0 (.bool true))
          have m1' : ((V12.setCell ⟨w.heap.size, 0, none⟩ (.bool true)).putObj D2 (.deferred none)).heap[D1]? = some (.deferred (some [])) := (World.putObj_heap_other (by omega)).trans m1
          have e2 := blk_putObj (o := .deferred none) m1' e1
          have m0' : (((V12.setCell ⟨w.heap.size, 0, none⟩ (.bool true)).putObj D2 (.deferred none)).putObj D1 (.deferred none)).heap[D0]? = some (.deferred (some [])) := (World.putObj_heap_other (by omega)).trans ((World.putObj_heap_other (by omega)).trans m0)
          have e3 := blk_putObj (o := .deferred none) m0' e2
          have q3 := e3.cell 0
          simp at q3
          refine ret_marks3 (v := .bool true) m2 m1 m0 hlt2 hlt1 (by simp [results, Tryd.results5, go_sem, q3]) ?_
          exact ⟨rfl, below_putObj (below_putObj (below_putObj (HG.out.below.setCell (p := ⟨w.heap.size, 0, none⟩) (Nat.le_refl _) _) hle2) hle1) hle0⟩
        case stop3 =>
          exact fun D c V' hD h hK => h.elim
      case stop2 =>
        rintro D1 c V' hD ⟨rfl, hg, h8, hst1⟩ hK
        refine wpIn_wide.2 ?_
        have q8 := h8.cell 0
        have q6 := hg.c6.cell 0
        have q7 := hg.c7.cell 0
        simp at q6 q7 q8
        have hmin : min (1 : Int) (st : Int) = 1 := by omega
        have hlt1 : D0 < D1 := by have := (HG8.out.marks D0 (by simp)); have := (Array.getElem?_eq_some_iff.1 this).1; omega
        have hle1 : w.heap.size ≤ D1 := by have := HG8.out.below.size; omega
        have HGD := Lib.hid (hg.next hK 2)
        have hz := hg.below.size
        clear hg h8 hK
        go_wp2
        clear q6 q7 q8
        obtain ⟨V11, hVn⟩ : ∃ W, V'.alloc (.cells #[.int .i64 2] 3) = W := ⟨_, rfl⟩
        have hg2 : GS w s rows n st 2 w.heap.size (w.heap.size + 1) w2.heap.size (w2.heap.size + 1) (w2.heap.size + 1 + 1) V'.heap.size w1.heap.size (.slice Aq L cq) [D1, D0] V11 := by rw [← hVn]; exact HGD.out
        have hz2 : V'.heap.size < V11.heap.size := by rw [← hVn]; simp
        rw [hVn]
        clear hVn HGD HG HG8 HC8
        have HG := Lib.hid hg2
        clear hg2
        obtain ⟨B1, hB1⟩ : ∃ b, V'.heap.size = b := ⟨_, rfl⟩
        rw [hB1] at HG hz2 ⊢
        clear hB1
        rw [rounds_succ]
        have q7 := HG.out.c7.cell 0
        simp at q7
        go_wp2_with fail
        obtain ⟨V8, hV8⟩ : ∃ W, V11.alloc (.cells #[.int .i64 0] 3) = W := ⟨_, rfl⟩
        have hb8 : Below V11.heap.size V11 V8 := by rw [← hV8]; exact (Below.refl _ _).alloc (Nat.le_refl _) _
        have hc8 : Blk V8 V11.heap.size 3 #[.int .i64 0] := by rw [← hV8]; exact Blk.new _ _ _
        have HG8 : Hid (GS w s rows n st 2 w.heap.size (w.heap.size + 1) w2.heap.size (w2.heap.size + 1) (w2.heap.size + 1 + 1) B1 w1.heap.size (.slice Aq L cq) [D1, D0] V8) := HG.out.same1 (n₁ := w.heap.size) (Same1.of_below hb8) (Nat.le_refl _)
        have HC8 := Lib.hid hc8
        have hz8 := hb8.size
        rw [hV8]
        clear hV8 hc8 hb8 q7
        refine (wpIn_wide (n := 9)).1 ?_
        refine' wp_iter 57 (gf := 25) (lb := #[.pointer (some ⟨w.heap.size + 1, 0, none⟩)]) rfl (enters_of Tryd.func25 (by kernel_rfl) rfl) (encs := Yld.enc) (fun x => rfl) (Pre := Yld.Pre) ?hPre4
          (fun W1 hb hn => HRI.out V8.heap.size (w.heap.size + 1) HG8.out.ct.lt W1 hn ((hb.cell (p := ⟨w.heap.size + 1, 0, none⟩) HG8.out.ct.lt).trans (HG8.out.ct.cell 0)))
          (fun pre V' => GS w s rows n st 2 w.heap.size (w.heap.size + 1) w2.heap.size (w2.heap.size + 1) (w2.heap.size + 1 + 1) B1 w1.heap.size (.slice Aq L cq) [D1, D0] V' ∧ Blk V' V11.heap.size 3 #[.int .i64 pre.length])
          (fun c V' => False)
          ?hI4 ?hIx4 ?hAux4 ⟨HG8.out, HC8.out⟩ _ ?assign4 ?body4 ?done4 ?stop4
        case assign4 =>
          intro l x V' K hK
          simp only [Yld.enc]
          gi_wp2
          exact hK
        case hPre4 =>
          intro x W0 W l r r' h hl
          unfold Yld.Pre at h ⊢
          split
          · rename_i h0
            rw [if_pos h0] at h
            exact (Same1.putObj (T := 0) (n₁ := 0) r' hl (by omega)).own h (by decide)
          · rename_i h0
            rw [if_neg h0] at h
            exact h
        case hI4 =>
          rintro pre A B ⟨h1, h2⟩ hs
          exact ⟨h1.same1 hs (by have := HG8.out.below.size; omega), hs.blk h2 (by decide)⟩
        case hIx4 =>
          exact fun c A B h _ => h.elim
        case hAux4 =>
          rintro pre V' ⟨h1, _⟩
          exact h1.ct.cell 0
        case body4 =>
          rintro l pre x W0 W ⟨hg, h8⟩ hsame hpre hstep hl hn0
          have hg' := hg.same1 hsame (by have := HG8.out.below.size; omega)
          have h8' := hsame.blk h8 (show 3 ≠ 57 by decide)
          have hlt8 := h8.lt
          have hown0 := hg.own
          have HG0 := Lib.hid hg
          have H80 := Lib.hid h8
          have HS := Lib.hid hsame
          have q8 := h8'.cell 0
          have f8 := h8'.frozen 0
          have q4 := hg'.c4.cell 0
          have q5 := hg'.c5.cell 0
          have q6 := hg'.c6.cell 0
          have q7 := hg'.c7.cell 0
          simp at q4 q5 q6 q7 q8
          have HG1 := Lib.hid hg'
          have H81 := Lib.hid h8'
          have HO0 := Lib.hid hown0
          obtain ⟨v, fs, e⟩ := x
          obtain ⟨hs1, hs2, hs3, hs4⟩ := hstep
          dsimp only at hs4
          obtain ⟨k, hk⟩ : ∃ k, pre.length = k := ⟨_, rfl⟩
          rw [hk] at hs2 hs4 q8
          have HK := Lib.hid hk
          clear hg hg' h8 h8' hown0 hsame hs1 hs3 hk
          have hfl : w.heap.size ≤ W0.heap.size := by have := HG8.out.below.size; omega
          by_cases he : e = 0
          · subst he
            rw [if_pos rfl] at hs4
            unfold Yld.Pre at hpre
            rw [if_pos rfl] at hpre
            dsimp only at hpre
            have hkL : k < L := by have := (List.getElem?_eq_some_iff.1 hs4).1; have := HLL.out; omega
            have hkL' : (k : Int) < L := by omega
            have hst0 := HST.out
            have hd1 : decide (st ≤ k) = false := decide_eq_false (by split at hst0 <;> omega)
            have hd2 : decide (k < L) = true := decide_eq_true hkL
            have hd3 : ((k : Int) == L) = false := by rw [beq_eq_false_iff_ne]; omega
            have hfsl := HL.out fs (List.mem_of_getElem? hs4)
            have hr2 := Rows2.of_own HG1.out.own
            obtain ⟨Ar, cr, usr, er, _, _, hulr, hRr, hRrr⟩ := hr2
            obtain ⟨rfl, _, rfl⟩ : Aq = Ar ∧ True ∧ cq = cr := by injection er with q1 q2 q3; exact ⟨q1, trivial, q3⟩
            rw [HLL.out] at hRr hulr
            obtain ⟨b1, o1, u1, rfl, hb1, hx1, hc1⟩ := hRr.at_ hkL
            have hr1 := hRrr k u1 fs hx1 hs4
            have hrv := Row1.of_own hpre
            obtain ⟨A1, c1, e1, _⟩ := hr1
            obtain ⟨Av, cv, ev⟩ := own_form hpre
            obtain ⟨m1, hm1⟩ : ∃ n, fs.length = n := ⟨_, rfl⟩
            have hcall := sameRow_any v u1 fs fs W hrv (hRrr k u1 fs hx1 hs4) hfsl hfsl
            have hcall' : Calls Tryd.prog 19 #[v, u1] W fun e w' => e = .returned (.bool true) ∧ Below W.heap.size W w' := hcall.mono fun e w' ⟨h1, h2⟩ => ⟨by rw [h1]; simp, h2⟩
            have HPRE := Lib.hid hpre
            have HS4 := Lib.hid hs4
            rw [hm1] at e1 ev
            subst e1 ev
            have HCALL := Lib.hid hcall'
            have hm1b : m1 ≤ 1073741824 := by rw [← hm1]; exact hfsl
            have HM1 := Lib.hid hm1
            clear hcall hcall' hrv er hulr hRr hRrr hx1 hpre hs4 hm1 hst0 hb1
            gi_wp2_with fail
            refine ⟨trivial, (CallsIn.inRound l (callsIn_wide.2 HCALL.out)).mono ?_⟩
            rintro e W1 ⟨rfl, hbc⟩
            have hown1 := own_grown_none HPRE.out (only_of_below hbc none)
            rw [HM1.out] at hown1
            have hz0 := HS.out.size
            have HO1 := Lib.hid hown1
            have HBC : Hid (Below W0.heap.size W W1) := hbc.mono hz0
            have HKF : Hid (KeepsFrom V8.heap.size W W1) := KeepsFrom.of_grownBy (only_of_below hbc none) (fun j e => by cases e)
            have HKT : Hid (KeepT 57 W W1) := KeepT.of_grown (only_of_below hbc none) (fun g c fz e => by cases e)
            have p8 := (H81.out.below hbc H81.out.lt).cell 0
            have p4 := (HG1.out.c4.below hbc HG1.out.c4.lt).cell 0
            rw [HK.out] at p8
            simp at p4 p8
            clear q4 q5 q6 q7 q8 f8 hc1 hbc hown1 hd1 hd2
            have hu := undef_no
            gi_wp2
            clear p4 p8 hd3 hu
            gi_loopw [78] (fun i wr => ∃ (j : Nat) (cells : List Value), j ≤ m1 ∧ i = .int .i64 j ∧ wr.ownsRow W0.heap.size 9 1 (.slice Av m1 cv) m1 cells ∧ Below W0.heap.size W wr ∧ KeepsFrom V8.heap.size W wr ∧ KeepT 57 W wr) (fun i _ => m1 - (intOf i).toNat)
            case atStart => exact ⟨0, _, by omega, rfl, HO1.out, HBC.out, HKF.out, HKT.out⟩
            case round =>
              obtain ⟨j, cells, hj, rfl, hown, hbw, hkf, hkt⟩ := hrel
              have HOW := Lib.hid hown
              have HBW := Lib.hid hbw
              have HKF' := Lib.hid hkf
              have HKT' := Lib.hid hkt
              clear hown hbw hkf hkt
              by_cases hjl : j < m1
              · have hjl' : (j : Int) < m1 := by omega
                obtain ⟨g, u, rfl, hcell, hfz⟩ := own_place' HOW.out hjl
                have hst := HOW.out.stored j (.string ⟨#[42]⟩)
                have HST2 := Lib.hid hst
                have hgb := (own_blocks HOW.out g rfl)
                have HGB := Lib.hid hgb
                clear hst hgb
                gi_wp2
                refine ⟨⟨j + 1, _, by omega, by go_num, HST2.out.1, ?_, ?_, ?_⟩, by simp [intOf]; omega⟩
                · exact HBW.out.setCell (p := ⟨g, j, none⟩) HGB.out.1 _
                · exact HKF'.out.trans ((KeepsOthers.setCell _ _ _).from _)
                · exact HKT'.out.trans (KeepT.of_grown HST2.out.2 (fun g' c fz e hc => by
                    cases e
                    obtain ⟨_, c', hc'⟩ := HGB.out
                    rw [hc'] at hc
                    cases hc))
              · obtain rfl : m1 = j := by omega
                have hs3 := HS.out.thenBelow HBW.out
                have hgr := HG0.out.same1 hs3 (by have := HG8.out.below.size; omega)
                have h8r := hs3.blk H80.out (show 3 ≠ 57 by decide)
                have r8 := h8r.cell 0
                have rf8 := h8r.frozen 0
                have hgn := hgr.set8 HG.out h8r (.int .i64 ((k : Int) + 1))
                have h8n := h8r.set_ 0 (.int .i64 ((k : Int) + 1))
                have r7 := hgn.c7.cell 0
                rw [HK.out] at r8
                simp at r7 r8
                have HGN := Lib.hid hgn
                have H8N := Lib.hid h8n
                clear hs3 hgr h8r hgn h8n
                gi_wp2
                exact ⟨HKF'.out.trans ((KeepsOthers.setCell _ _ _).from _), HKT'.out.trans (keepT_set8 (HS.out.thenBelow HBW.out |>.blk H80.out (by decide)) _), HGN.out, blk_count H8N.out HK.out⟩
          · rw [if_neg he] at hs4
            exact absurd (hs4.2.symm.trans HN.out) he
        case done4 =>
          rintro D2 xs V' hD hend ⟨hg, h8⟩ hK
          have hxs : xs.length = st := by
            have h3 := HLL.out
            have h4 := HST.out
            rcases hend with ⟨h0, _, h1⟩ | ⟨q, x, h2, hx, h0, _, h1⟩
            · have h0 : n = 0 := h0
              have h5 := congrArg List.length h1
              rw [List.length_map] at h5
              rw [if_pos h0] at h4
              omega
            · have h0 : n = x.e := h0
              have h5 := congrArg List.length h1
              have h6 := congrArg List.length h2
              rw [List.length_map] at h5
              rw [List.length_append, List.length_singleton] at h6
              rw [if_neg (by omega)] at h4
              omega
          clear hend
          have q8 := h8.cell 0
          have q6 := hg.c6.cell 0
          have q7 := hg.c7.cell 0
          simp at q6 q7 q8
          rw [hxs] at q8
          have hse : ((st : Int) != st) = false := by simp
          have hlt2 : D1 < D2 := by have := (HG8.out.marks D1 (by simp)); have := (Array.getElem?_eq_some_iff.1 this).1; omega
          have hle2 : w.heap.size ≤ D2 := by have := HG8.out.below.size; omega
          have HGD := Lib.hid (hg.next hK 3)
          have hz := hg.below.size
          clear hg h8 hK hxs
          go_wp2
          clear q6 q7 q8
          obtain ⟨V12, hVn⟩ : ∃ W, V'.alloc (.cells #[.int .i64 3] 3) = W := ⟨_, rfl⟩
          have hg2 : GS w s rows n st 3 w.heap.size (w.heap.size + 1) w2.heap.size (w2.heap.size + 1) (w2.heap.size + 1 + 1) V'.heap.size w1.heap.size (.slice Aq L cq) [D2, D1, D0] V12 := by rw [← hVn]; exact HGD.out
          have hz2 : V'.heap.size < V12.heap.size := by rw [← hVn]; simp
          rw [hVn]
          clear hVn HGD HG HG8 HC8
          have HG := Lib.hid hg2
          clear hg2
          obtain ⟨B2, hB2⟩ : ∃ b, V'.heap.size = b := ⟨_, rfl⟩
          rw [hB2] at HG hz2 ⊢
          clear hB2
          rw [rounds_succ]
          have q7 := HG.out.c7.cell 0
          have q2 := HG.out.c2.cell 0
          have f2 := HG.out.c2.frozen 0
          simp at q7 q2
          go_wp2
          have hne2 : ∀ D ∈ [D2, D1, D0], D ≠ w.heap.size := fun D hD e => by
            subst e
            have h1 := HG.out.marks _ hD
            have h2 := HG.out.c2
            unfold Blk at h2
            rw [h2] at h1
            cases h1
          have mk : ∀ D ∈ [D2, D1, D0], (V12.setCell ⟨w.heap.size, 0, none⟩ (.bool true)).heap[D]? = some (.deferred (some [])) := fun D hD => by
            rw [Below.heap_setCell _ _ _ _ (hne2 D hD)]
            exact HG.out.marks D hD
          have m2 := mk D2 (by simp)
          have m1 := mk D1 (by simp)
          have m0 := mk D0 (by simp)
          have e1 := blk_putObj (o := .deferred none) m2 (HG.out.c2.set_ 0 (.bool true))
          have m1' : ((V12.setCell ⟨w.heap.size, 0, none⟩ (.bool true)).putObj D2 (.deferred none)).heap[D1]? = some (.deferred (some [])) := (World.putObj_heap_other (by omega)).trans m1
          have e2 := blk_putObj (o := .deferred none) m1' e1
          have m0' : (((V12.setCell ⟨w.heap.size, 0, none⟩ (.bool true)).putObj D2 (.deferred none)).putObj D1 (.deferred none)).heap[D0]? = some (.deferred (some [])) := (World.putObj_heap_other (by omega)).trans ((World.putObj_heap_other (by omega)).trans m0)
          have e3 := blk_putObj (o := .deferred none) m0' e2
          have q3 := e3.cell 0
          simp at q3
          refine ret_marks3 (v := .bool true) m2 m1 m0 hlt2 hlt1 (by simp [results, Tryd.results5, go_sem, q3]) ?_
          exact ⟨rfl, below_putObj (below_putObj (below_putObj (HG.out.below.setCell (p := ⟨w.heap.size, 0, none⟩) (Nat.le_refl _) _) hle2) hle1) hle0⟩
        case stop4 =>
          exact fun D c V' hD h hK => h.elim
    case stop1 =>
      exact fun D c V' hD h hK => h.elim
  · have hnb : ((n : Int) != 0) = true := by rw [bne_iff_ne]; omega
    obtain ⟨st, hst⟩ : ∃ st, (L + 1) = st := ⟨_, rfl⟩
    have hst2 : st = L + if n = 0 then 0 else 1 := by rw [← hst]; simp [hn]
    have HST := Lib.hid hst2
    clear hst2
    have HN := Lib.hid hn
    clear hn
    refine calls_of_wp_marks Tryd.func5 rfl ?_
    simp only [Tryd.ntmps5, List.size_toArray, List.length_cons, List.length_nil, Nat.reduceAdd, Nat.reduceSub, Array.replicate_succ, Array.replicate_zero, List.push_toArray, List.append_toArray, List.nil_append, List.cons_append]
    go_wp2_with (go_at_call 17; refine (rows_any _ _).mono ?_; rintro e w' ⟨rfl, rfl⟩)
    obtain ⟨WA, hWA⟩ : ∃ W, (w.alloc (.cells #[.bool false] 4)).alloc (.cells #[.string s] 9) = W := ⟨_, rfl⟩
    have hA : Below w.heap.size w WA := by rw [← hWA]; exact ((Below.refl _ w).alloc (Nat.le_refl _) _).alloc (by simp) _
    have a2 : Blk WA w.heap.size 4 #[.bool false] := by rw [← hWA]; exact (Blk.new _ _ _).alloc _
    have at' : Blk WA (w.heap.size + 1) 9 #[.string s] := by rw [← hWA]; have := Blk.new (w.alloc (.cells #[.bool false] 4)) 9 #[.string s]; simpa using this
    rw [hWA]
    clear hWA
    refine (speaks_any WA m ((hA.cell hw0).trans HC.out)).mono ?_
    rintro e w1 ⟨rfl, hb1⟩
    have H2 := Lib.hid (a2.below hb1 a2.lt)
    have HT := Lib.hid (at'.below hb1 at'.lt)
    have HB1 := Lib.hid (hA.trans (hb1.mono hA.size))
    have hs1 := HB1.out.size
    clear hA a2 at' hb1
    have HSTE := Lib.hid hst
    clear hst
    go_wp2_with fail
    refine (HRA.out w1).mono ?_
    rintro e w2 ⟨vq, rfl, ho, hb2⟩
    have H2' := Lib.hid (H2.out.below hb2 H2.out.lt)
    have HT' := Lib.hid (HT.out.below hb2 HT.out.lt)
    have HB2 := Lib.hid (HB1.out.trans (hb2.mono hs1))
    have hs2 := HB2.out.size
    have HO := Lib.hid ho
    obtain ⟨Aq, cq, rfl⟩ : ∃ A c, vq = .slice A L c := by rw [← HLL.out]; exact ho.shape'
    clear ho hb2 H2 HT HB1
    go_wp2_with fail
    obtain ⟨V, hV⟩ : ∃ W, (((w2.alloc (.cells #[.slice Aq L cq] 22)).alloc (.cells #[.int .i64 n] 3)).alloc (.cells #[.int .i64 ((L : Int) + 1)] 3)).alloc (.cells #[.int .i64 0] 3) = W := ⟨_, rfl⟩
    have hbV : Below w2.heap.size w2 V := by rw [← hV]; exact ((((Below.refl _ w2).alloc (Nat.le_refl _) _).alloc (by simp) _).alloc (by simp; omega) _).alloc (by simp; omega) _
    have est : Value.int .i64 ((L : Int) + 1) = .int .i64 st := by rw [← HSTE.out]; go_num
    have hg : GS w s rows n st 0 w.heap.size (w.heap.size + 1) w2.heap.size (w2.heap.size + 1) (w2.heap.size + 1 + 1) (w2.heap.size + 1 + 1 + 1) w1.heap.size (.slice Aq L cq) [] V := by
      rw [est] at hV
      refine ⟨H2'.out.below hbV H2'.out.lt, HT'.out.below hbV HT'.out.lt, ?_, HO.out.same1 (Same1.of_below (n₁ := 0) hbV), ?_, ?_, ?_, HB2.out.trans (hbV.mono hs2), fun D hD => by cases hD⟩
      · rw [← hV]; exact (((Blk.new _ _ _).alloc _).alloc _).alloc _
      · rw [← hV]; have := ((Blk.new (w2.alloc (.cells #[.slice Aq L cq] 22)) 3 #[.int .i64 n]).alloc (.cells #[.int .i64 st] 3)).alloc (.cells #[.int .i64 0] 3); simpa using this
      · rw [← hV]; have := (Blk.new ((w2.alloc (.cells #[.slice Aq L cq] 22)).alloc (.cells #[.int .i64 n] 3)) 3 #[.int .i64 st]).alloc (.cells #[.int .i64 0] 3); simpa using this
      · rw [← hV]; have := Blk.new (((w2.alloc (.cells #[.slice Aq L cq] 22)).alloc (.cells #[.int .i64 n] 3)).alloc (.cells #[.int .i64 st] 3)) 3 #[.int .i64 0]; simpa using this
    rw [hV]
    have HG := Lib.hid hg
    clear hV hbV hg est H2' HT' HO HB2
    refine wp_loop_rounds 4 ?_
    rw [rounds_succ]
    have q7 := HG.out.c7.cell 0
    simp at q7
    go_wp2_with fail
    obtain ⟨V8, hV8⟩ : ∃ W, V.alloc (.cells #[.int .i64 0] 3) = W := ⟨_, rfl⟩
    have hb8 : Below V.heap.size V V8 := by rw [← hV8]; exact (Below.refl _ _).alloc (Nat.le_refl _) _
    have hc8 : Blk V8 V.heap.size 3 #[.int .i64 0] := by rw [← hV8]; exact Blk.new _ _ _
    have HG8 : Hid (GS w s rows n st 0 w.heap.size (w.heap.size + 1) w2.heap.size (w2.heap.size + 1) (w2.heap.size + 1 + 1) (w2.heap.size + 1 + 1 + 1) w1.heap.size (.slice Aq L cq) [] V8) := HG.out.same1 (n₁ := w.heap.size) (Same1.of_below hb8) (Nat.le_refl _)
    have HC8 := Lib.hid hc8
    have hz8 := hb8.size
    rw [hV8]
    clear hV8 hc8 hb8 q7
    refine (wpIn_wide (n := 9)).1 ?_
    refine' wp_iter 57 (gf := 25) (lb := #[.pointer (some ⟨w.heap.size + 1, 0, none⟩)]) rfl (enters_of Tryd.func25 (by kernel_rfl) rfl) (encs := Yld.enc) (fun x => rfl) (Pre := Yld.Pre) ?hPre5
      (fun W1 hb hn => HRI.out V8.heap.size (w.heap.size + 1) HG8.out.ct.lt W1 hn ((hb.cell (p := ⟨w.heap.size + 1, 0, none⟩) HG8.out.ct.lt).trans (HG8.out.ct.cell 0)))
      (fun pre V' => GS w s rows n st 0 w.heap.size (w.heap.size + 1) w2.heap.size (w2.heap.size + 1) (w2.heap.size + 1 + 1) (w2.heap.size + 1 + 1 + 1) w1.heap.size (.slice Aq L cq) [] V' ∧ Blk V' V.heap.size 3 #[.int .i64 pre.length])
      (fun c V' => False)
      ?hI5 ?hIx5 ?hAux5 ⟨HG8.out, HC8.out⟩ _ ?assign5 ?body5 ?done5 ?stop5
    case assign5 =>
      intro l x V' K hK
      simp only [Yld.enc]
      gi_wp2
      exact hK
    case hPre5 =>
      intro x W0 W l r r' h hl
      unfold Yld.Pre at h ⊢
      split
      · rename_i h0
        rw [if_pos h0] at h
        exact (Same1.putObj (T := 0) (n₁ := 0) r' hl (by omega)).own h (by decide)
      · rename_i h0
        rw [if_neg h0] at h
        exact h
    case hI5 =>
      rintro pre A B ⟨h1, h2⟩ hs
      exact ⟨h1.same1 hs (by have := HG8.out.below.size; omega), hs.blk h2 (by decide)⟩
    case hIx5 =>
      exact fun c A B h _ => h.elim
    case hAux5 =>
      rintro pre V' ⟨h1, _⟩
      exact h1.ct.cell 0
    case body5 =>
      rintro l pre x W0 W ⟨hg, h8⟩ hsame hpre hstep hl hn0
      have hg' := hg.same1 hsame (by have := HG8.out.below.size; omega)
      have h8' := hsame.blk h8 (show 3 ≠ 57 by decide)
      have hlt8 := h8.lt
      have hown0 := hg.own
      have HG0 := Lib.hid hg
      have H80 := Lib.hid h8
      have HS := Lib.hid hsame
      have q8 := h8'.cell 0
      have f8 := h8'.frozen 0
      have q4 := hg'.c4.cell 0
      have q5 := hg'.c5.cell 0
      have q6 := hg'.c6.cell 0
      have q7 := hg'.c7.cell 0
      simp at q4 q5 q6 q7 q8
      have HG1 := Lib.hid hg'
      have H81 := Lib.hid h8'
      have HO0 := Lib.hid hown0
      obtain ⟨v, fs, e⟩ := x
      obtain ⟨hs1, hs2, hs3, hs4⟩ := hstep
      dsimp only at hs4
      obtain ⟨k, hk⟩ : ∃ k, pre.length = k := ⟨_, rfl⟩
      rw [hk] at hs2 hs4 q8
      have HK := Lib.hid hk
      clear hg hg' h8 h8' hown0 hsame hs1 hs3 hk
      have hfl : w.heap.size ≤ W0.heap.size := by have := HG8.out.below.size; omega
      by_cases he : e = 0
      · subst he
        rw [if_pos rfl] at hs4
        unfold Yld.Pre at hpre
        rw [if_pos rfl] at hpre
        dsimp only at hpre
        have hkL : k < L := by have := (List.getElem?_eq_some_iff.1 hs4).1; have := HLL.out; omega
        have hkL' : (k : Int) < L := by omega
        have hst0 := HST.out
        have hd1 : decide (st ≤ k) = false := decide_eq_false (by split at hst0 <;> omega)
        have hd2 : decide (k < L) = true := decide_eq_true hkL
        have hd3 : ((k : Int) == L) = false := by rw [beq_eq_false_iff_ne]; omega
        have hfsl := HL.out fs (List.mem_of_getElem? hs4)
        have hr2 := Rows2.of_own HG1.out.own
        obtain ⟨Ar, cr, usr, er, _, _, hulr, hRr, hRrr⟩ := hr2
        obtain ⟨rfl, _, rfl⟩ : Aq = Ar ∧ True ∧ cq = cr := by injection er with q1 q2 q3; exact ⟨q1, trivial, q3⟩
        rw [HLL.out] at hRr hulr
        obtain ⟨b1, o1, u1, rfl, hb1, hx1, hc1⟩ := hRr.at_ hkL
        have hr1 := hRrr k u1 fs hx1 hs4
        have hrv := Row1.of_own hpre
        obtain ⟨A1, c1, e1, _⟩ := hr1
        obtain ⟨Av, cv, ev⟩ := own_form hpre
        obtain ⟨m1, hm1⟩ : ∃ n, fs.length = n := ⟨_, rfl⟩
        have hcall := sameRow_any v u1 fs fs W hrv (hRrr k u1 fs hx1 hs4) hfsl hfsl
        have hcall' : Calls Tryd.prog 19 #[v, u1] W fun e w' => e = .returned (.bool true) ∧ Below W.heap.size W w' := hcall.mono fun e w' ⟨h1, h2⟩ => ⟨by rw [h1]; simp, h2⟩
        have HPRE := Lib.hid hpre
        have HS4 := Lib.hid hs4
        rw [hm1] at e1 ev
        subst e1 ev
        have HCALL := Lib.hid hcall'
        have hm1b : m1 ≤ 1073741824 := by rw [← hm1]; exact hfsl
        have HM1 := Lib.hid hm1
        clear hcall hcall' hrv er hulr hRr hRrr hx1 hpre hs4 hm1 hst0 hb1
        gi_wp2_with fail
        refine ⟨trivial, (CallsIn.inRound l (callsIn_wide.2 HCALL.out)).mono ?_⟩
        rintro e W1 ⟨rfl, hbc⟩
        have hown1 := own_grown_none HPRE.out (only_of_below hbc none)
        rw [HM1.out] at hown1
        have hz0 := HS.out.size
        have HO1 := Lib.hid hown1
        have HBC : Hid (Below W0.heap.size W W1) := hbc.mono hz0
        have HKF : Hid (KeepsFrom V8.heap.size W W1) := KeepsFrom.of_grownBy (only_of_below hbc none) (fun j e => by cases e)
        have HKT : Hid (KeepT 57 W W1) := KeepT.of_grown (only_of_below hbc none) (fun g c fz e => by cases e)
        have p8 := (H81.out.below hbc H81.out.lt).cell 0
        have p4 := (HG1.out.c4.below hbc HG1.out.c4.lt).cell 0
        rw [HK.out] at p8
        simp at p4 p8
        clear q4 q5 q6 q7 q8 f8 hc1 hbc hown1 hd1 hd2
        have hu := undef_no
        gi_wp2
        clear p4 p8 hd3 hu
        gi_loopw [78] (fun i wr => ∃ (j : Nat) (cells : List Value), j ≤ m1 ∧ i = .int .i64 j ∧ wr.ownsRow W0.heap.size 9 1 (.slice Av m1 cv) m1 cells ∧ Below W0.heap.size W wr ∧ KeepsFrom V8.heap.size W wr ∧ KeepT 57 W wr) (fun i _ => m1 - (intOf i).toNat)
        case atStart => exact ⟨0, _, by omega, rfl, HO1.out, HBC.out, HKF.out, HKT.out⟩
        case round =>
          obtain ⟨j, cells, hj, rfl, hown, hbw, hkf, hkt⟩ := hrel
          have HOW := Lib.hid hown
          have HBW := Lib.hid hbw
          have HKF' := Lib.hid hkf
          have HKT' := Lib.hid hkt
          clear hown hbw hkf hkt
          by_cases hjl : j < m1
          · have hjl' : (j : Int) < m1 := by omega
            obtain ⟨g, u, rfl, hcell, hfz⟩ := own_place' HOW.out hjl
            have hst := HOW.out.stored j (.string ⟨#[42]⟩)
            have HST2 := Lib.hid hst
            have hgb := (own_blocks HOW.out g rfl)
            have HGB := Lib.hid hgb
            clear hst hgb
            gi_wp2
            refine ⟨⟨j + 1, _, by omega, by go_num, HST2.out.1, ?_, ?_, ?_⟩, by simp [intOf]; omega⟩
            · exact HBW.out.setCell (p := ⟨g, j, none⟩) HGB.out.1 _
            · exact HKF'.out.trans ((KeepsOthers.setCell _ _ _).from _)
            · exact HKT'.out.trans (KeepT.of_grown HST2.out.2 (fun g' c fz e hc => by
                cases e
                obtain ⟨_, c', hc'⟩ := HGB.out
                rw [hc'] at hc
                cases hc))
          · obtain rfl : m1 = j := by omega
            have hs3 := HS.out.thenBelow HBW.out
            have hgr := HG0.out.same1 hs3 (by have := HG8.out.below.size; omega)
            have h8r := hs3.blk H80.out (show 3 ≠ 57 by decide)
            have r8 := h8r.cell 0
            have rf8 := h8r.frozen 0
            have hgn := hgr.set8 HG.out h8r (.int .i64 ((k : Int) + 1))
            have h8n := h8r.set_ 0 (.int .i64 ((k : Int) + 1))
            have r7 := hgn.c7.cell 0
            rw [HK.out] at r8
            simp at r7 r8
            have HGN := Lib.hid hgn
            have H8N := Lib.hid h8n
            clear hs3 hgr h8r hgn h8n
            gi_wp2
            exact ⟨HKF'.out.trans ((KeepsOthers.setCell _ _ _).from _), HKT'.out.trans (keepT_set8 (HS.out.thenBelow HBW.out |>.blk H80.out (by decide)) _), HGN.out, blk_count H8N.out HK.out⟩
      · unfold Yld.Pre at hpre
        rw [if_neg he] at hpre
        rw [if_neg he] at hs4
        obtain ⟨rfl, rfl⟩ := hpre
        have hk2 : k = L := by have := HLL.out; have := hs4.1; omega
        obtain ⟨-, hne⟩ := hs4
        have hne : n = e := hne
        subst hne
        have hst0 := HST.out
        rw [if_neg he] at hst0
        have hd1 : decide (st ≤ k) = false := decide_eq_false (by omega)
        have hd2 : decide (k < L) = false := decide_eq_false (by omega)
        have hd3 : ((k : Int) == L) = true := by rw [beq_iff_eq]; omega
        have hd4 : ((n : Int) != n) = false := by simp
        have hd5 : ((n : Int) != 0) = true := by rw [bne_iff_ne]; omega
        have hkb : (k : Int) ≤ 4194304 := by omega
        have hu := undef_no
        have hgn := HG1.out.set8 HG.out H81.out (.int .i64 ((k : Int) + 1))
        have h8n := H81.out.set_ 0 (.int .i64 ((k : Int) + 1))
        have r7 := hgn.c7.cell 0
        simp at r7
        have HGN := Lib.hid hgn
        have H8N := Lib.hid h8n
        have HK2 := Lib.hid hk2
        have HST0 := Lib.hid hst0
        clear hgn h8n hk2 hst0
        gi_wp2
        refine ⟨trivial, ?_⟩
        gi_wp2
        clear q4 q5 q6 hd1 hd2 hd3 hd4 hu
        gi_loopw [78] (fun i wr => i = .int .i64 0 ∧ W = wr) (fun _ _ => 0)
        case atStart => exact ⟨rfl, rfl⟩
        case round =>
          obtain ⟨rfl, rfl⟩ := hrel
          gi_wp2
          exact ⟨((KeepsOthers.setCell _ _ _).from _), keepT_set8 H81.out _, HGN.out, blk_count H8N.out HK.out⟩
    case done5 =>
      rintro D0 xs V' hD hend ⟨hg, h8⟩ hK
      have hxs : xs.length = st := by
        have h3 := HLL.out
        have h4 := HST.out
        rcases hend with ⟨h0, _, h1⟩ | ⟨q, x, h2, hx, h0, _, h1⟩
        · have h0 : n = 0 := h0
          have h5 := congrArg List.length h1
          rw [List.length_map] at h5
          rw [if_pos h0] at h4
          omega
        · have h0 : n = x.e := h0
          have h5 := congrArg List.length h1
          have h6 := congrArg List.length h2
          rw [List.length_map] at h5
          rw [List.length_append, List.length_singleton] at h6
          rw [if_neg (by omega)] at h4
          omega
      clear hend
      have q8 := h8.cell 0
      have q6 := hg.c6.cell 0
      have q7 := hg.c7.cell 0
      simp at q6 q7 q8
      rw [hxs] at q8
      have hse : ((st : Int) != st) = false := by simp
      have hle0 : w.heap.size ≤ D0 := by have := HG8.out.below.size; omega
      have HGD := Lib.hid (hg.next hK 1)
      have hz := hg.below.size
      clear hg h8 hK hxs
      go_wp2
      clear q6 q7 q8
      obtain ⟨V10, hVn⟩ : ∃ W, V'.alloc (.cells #[.int .i64 1] 3) = W := ⟨_, rfl⟩
      have hg2 : GS w s rows n st 1 w.heap.size (w.heap.size + 1) w2.heap.size (w2.heap.size + 1) (w2.heap.size + 1 + 1) V'.heap.size w1.heap.size (.slice Aq L cq) [D0] V10 := by rw [← hVn]; exact HGD.out
      have hz2 : V'.heap.size < V10.heap.size := by rw [← hVn]; simp
      rw [hVn]
      clear hVn HGD HG HG8 HC8
      have HG := Lib.hid hg2
      clear hg2
      obtain ⟨B0, hB0⟩ : ∃ b, V'.heap.size = b := ⟨_, rfl⟩
      rw [hB0] at HG hz2 ⊢
      clear hB0
      rw [rounds_succ]
      have q7 := HG.out.c7.cell 0
      simp at q7
      go_wp2_with fail
      obtain ⟨V8, hV8⟩ : ∃ W, V10.alloc (.cells #[.int .i64 0] 3) = W := ⟨_, rfl⟩
      have hb8 : Below V10.heap.size V10 V8 := by rw [← hV8]; exact (Below.refl _ _).alloc (Nat.le_refl _) _
      have hc8 : Blk V8 V10.heap.size 3 #[.int .i64 0] := by rw [← hV8]; exact Blk.new _ _ _
      have HG8 : Hid (GS w s rows n st 1 w.heap.size (w.heap.size + 1) w2.heap.size (w2.heap.size + 1) (w2.heap.size + 1 + 1) B0 w1.heap.size (.slice Aq L cq) [D0] V8) := HG.out.same1 (n₁ := w.heap.size) (Same1.of_below hb8) (Nat.le_refl _)
      have HC8 := Lib.hid hc8
      have hz8 := hb8.size
      rw [hV8]
      clear hV8 hc8 hb8 q7
      refine (wpIn_wide (n := 9)).1 ?_
      refine' wp_iter 57 (gf := 25) (lb := #[.pointer (some ⟨w.heap.size + 1, 0, none⟩)]) rfl (enters_of Tryd.func25 (by kernel_rfl) rfl) (encs := Yld.enc) (fun x => rfl) (Pre := Yld.Pre) ?hPre6
        (fun W1 hb hn => HRI.out V8.heap.size (w.heap.size + 1) HG8.out.ct.lt W1 hn ((hb.cell (p := ⟨w.heap.size + 1, 0, none⟩) HG8.out.ct.lt).trans (HG8.out.ct.cell 0)))
        (fun pre V' => GS w s rows n st 1 w.heap.size (w.heap.size + 1) w2.heap.size (w2.heap.size + 1) (w2.heap.size + 1 + 1) B0 w1.heap.size (.slice Aq L cq) [D0] V' ∧ Blk V' V10.heap.size 3 #[.int .i64 pre.length] ∧ pre = [])
        (fun c V' => c = .exit 2 ∧ GS w s rows n st 1 w.heap.size (w.heap.size + 1) w2.heap.size (w2.heap.size + 1) (w2.heap.size + 1 + 1) B0 w1.heap.size (.slice Aq L cq) [D0] V' ∧ Blk V' V10.heap.size 3 #[.int .i64 1] ∧ 1 ≤ st)
        ?hI6 ?hIx6 ?hAux6 ⟨HG8.out, HC8.out, rfl⟩ _ ?assign6 ?body6 ?done6 ?stop6
      case assign6 =>
        intro l x V' K hK
        simp only [Yld.enc]
        gi_wp2
        exact hK
      case hPre6 =>
        intro x W0 W l r r' h hl
        unfold Yld.Pre at h ⊢
        split
        · rename_i h0
          rw [if_pos h0] at h
          exact (Same1.putObj (T := 0) (n₁ := 0) r' hl (by omega)).own h (by decide)
        · rename_i h0
          rw [if_neg h0] at h
          exact h
      case hI6 =>
        rintro pre A B ⟨h1, h2, h3⟩ hs
        exact ⟨h1.same1 hs (by have := HG8.out.below.size; omega), hs.blk h2 (by decide), h3⟩
      case hIx6 =>
        rintro c A B ⟨h0, h1, h2, h3⟩ hs
        exact ⟨h0, h1.same1 hs (by have := HG8.out.below.size; omega), hs.blk h2 (by decide), h3⟩
      case hAux6 =>
        rintro pre V' ⟨h1, _⟩
        exact h1.ct.cell 0
      case body6 =>
        rintro l pre x W0 W ⟨hg, h8, hpn⟩ hsame hpre hstep hl hn0
        have hg' := hg.same1 hsame (by have := HG8.out.below.size; omega)
        have h8' := hsame.blk h8 (show 3 ≠ 57 by decide)
        have hlt8 := h8.lt
        have hown0 := hg.own
        have HG0 := Lib.hid hg
        have H80 := Lib.hid h8
        have HS := Lib.hid hsame
        have q8 := h8'.cell 0
        have f8 := h8'.frozen 0
        have q4 := hg'.c4.cell 0
        have q5 := hg'.c5.cell 0
        have q6 := hg'.c6.cell 0
        have q7 := hg'.c7.cell 0
        simp at q4 q5 q6 q7 q8
        have HG1 := Lib.hid hg'
        have H81 := Lib.hid h8'
        have HO0 := Lib.hid hown0
        obtain ⟨v, fs, e⟩ := x
        obtain ⟨hs1, hs2, hs3, hs4⟩ := hstep
        dsimp only at hs4
        obtain ⟨k, hk⟩ : ∃ k, pre.length = k := ⟨_, rfl⟩
        rw [hk] at hs2 hs4 q8
        have HK := Lib.hid hk
        clear hg hg' h8 h8' hown0 hsame hs1 hs3 hk
        have hfl : w.heap.size ≤ W0.heap.size := by have := HG8.out.below.size; omega
        by_cases he : e = 0
        · subst he
          rw [if_pos rfl] at hs4
          unfold Yld.Pre at hpre
          rw [if_pos rfl] at hpre
          dsimp only at hpre
          have hkL : k < L := by have := (List.getElem?_eq_some_iff.1 hs4).1; have := HLL.out; omega
          have hkL' : (k : Int) < L := by omega
          have hst0 := HST.out
          have hd1 : decide (st ≤ k) = false := decide_eq_false (by split at hst0 <;> omega)
          have hd2 : decide (k < L) = true := decide_eq_true hkL
          have hd3 : ((k : Int) == L) = false := by rw [beq_eq_false_iff_ne]; omega
          have hfsl := HL.out fs (List.mem_of_getElem? hs4)
          have hr2 := Rows2.of_own HG1.out.own
          obtain ⟨Ar, cr, usr, er, _, _, hulr, hRr, hRrr⟩ := hr2
          obtain ⟨rfl, _, rfl⟩ : Aq = Ar ∧ True ∧ cq = cr := by injection er with q1 q2 q3; exact ⟨q1, trivial, q3⟩
          rw [HLL.out] at hRr hulr
          obtain ⟨b1, o1, u1, rfl, hb1, hx1, hc1⟩ := hRr.at_ hkL
          have hr1 := hRrr k u1 fs hx1 hs4
          have hrv := Row1.of_own hpre
          obtain ⟨A1, c1, e1, _⟩ := hr1
          obtain ⟨Av, cv, ev⟩ := own_form hpre
          obtain ⟨m1, hm1⟩ : ∃ n, fs.length = n := ⟨_, rfl⟩
          have hcall := sameRow_any v u1 fs fs W hrv (hRrr k u1 fs hx1 hs4) hfsl hfsl
          have hcall' : Calls Tryd.prog 19 #[v, u1] W fun e w' => e = .returned (.bool true) ∧ Below W.heap.size W w' := hcall.mono fun e w' ⟨h1, h2⟩ => ⟨by rw [h1]; simp, h2⟩
          have HPRE := Lib.hid hpre
          have HS4 := Lib.hid hs4
          rw [hm1] at e1 ev
          subst e1 ev
          have HCALL := Lib.hid hcall'
          have hm1b : m1 ≤ 1073741824 := by rw [← hm1]; exact hfsl
          have HM1 := Lib.hid hm1
          clear hcall hcall' hrv er hulr hRr hRrr hx1 hpre hs4 hm1 hst0 hb1
          gi_wp2_with fail
          refine ⟨trivial, (CallsIn.inRound l (callsIn_wide.2 HCALL.out)).mono ?_⟩
          rintro e W1 ⟨rfl, hbc⟩
          have hown1 := own_grown_none HPRE.out (only_of_below hbc none)
          rw [HM1.out] at hown1
          have hz0 := HS.out.size
          have HO1 := Lib.hid hown1
          have HBC : Hid (Below W0.heap.size W W1) := hbc.mono hz0
          have HKF : Hid (KeepsFrom V8.heap.size W W1) := KeepsFrom.of_grownBy (only_of_below hbc none) (fun j e => by cases e)
          have HKT : Hid (KeepT 57 W W1) := KeepT.of_grown (only_of_below hbc none) (fun g c fz e => by cases e)
          have p8 := (H81.out.below hbc H81.out.lt).cell 0
          have p4 := (HG1.out.c4.below hbc HG1.out.c4.lt).cell 0
          rw [HK.out] at p8
          simp at p4 p8
          clear q4 q5 q6 q7 q8 f8 hc1 hbc hown1 hd1 hd2
          have hu := undef_no
          gi_wp2
          clear p4 p8 hd3 hu
          gi_loopw [78] (fun i wr => ∃ (j : Nat) (cells : List Value), j ≤ m1 ∧ i = .int .i64 j ∧ wr.ownsRow W0.heap.size 9 1 (.slice Av m1 cv) m1 cells ∧ Below W0.heap.size W wr ∧ KeepsFrom V8.heap.size W wr ∧ KeepT 57 W wr) (fun i _ => m1 - (intOf i).toNat)
          case atStart => exact ⟨0, _, by omega, rfl, HO1.out, HBC.out, HKF.out, HKT.out⟩
          case round =>
            obtain ⟨j, cells, hj, rfl, hown, hbw, hkf, hkt⟩ := hrel
            have HOW := Lib.hid hown
            have HBW := Lib.hid hbw
            have HKF' := Lib.hid hkf
            have HKT' := Lib.hid hkt
            clear hown hbw hkf hkt
            by_cases hjl : j < m1
            · have hjl' : (j : Int) < m1 := by omega
              obtain ⟨g, u, rfl, hcell, hfz⟩ := own_place' HOW.out hjl
              have hst := HOW.out.stored j (.string ⟨#[42]⟩)
              have HST2 := Lib.hid hst
              have hgb := (own_blocks HOW.out g rfl)
              have HGB := Lib.hid hgb
              clear hst hgb
              gi_wp2
              refine ⟨⟨j + 1, _, by omega, by go_num, HST2.out.1, ?_, ?_, ?_⟩, by simp [intOf]; omega⟩
              · exact HBW.out.setCell (p := ⟨g, j, none⟩) HGB.out.1 _
              · exact HKF'.out.trans ((KeepsOthers.setCell _ _ _).from _)
              · exact HKT'.out.trans (KeepT.of_grown HST2.out.2 (fun g' c fz e hc => by
                  cases e
                  obtain ⟨_, c', hc'⟩ := HGB.out
                  rw [hc'] at hc
                  cases hc))
            · obtain rfl : m1 = j := by omega
              have hs3 := HS.out.thenBelow HBW.out
              have hgr := HG0.out.same1 hs3 (by have := HG8.out.below.size; omega)
              have h8r := hs3.blk H80.out (show 3 ≠ 57 by decide)
              have r8 := h8r.cell 0
              have rf8 := h8r.frozen 0
              have hgn := hgr.set8 HG.out h8r (.int .i64 ((k : Int) + 1))
              have h8n := h8r.set_ 0 (.int .i64 ((k : Int) + 1))
              have r7 := hgn.c7.cell 0
              rw [HK.out] at r8
              simp at r7 r8
              have HGN := Lib.hid hgn
              have H8N := Lib.hid h8n
              clear hs3 hgr h8r hgn h8n
              gi_wp2
              obtain rfl : pre = [] := hpn
              have hk0 : k = 0 := HK.out.symm
              have h8f := blk_count (x := ⟨.slice none 0 0, [], 0⟩) H8N.out HK.out
              have hst1 : 1 ≤ st := by have := HST.out; split at this <;> omega
              exact ⟨HKF'.out.trans ((KeepsOthers.setCell _ _ _).from _), rfl, HGN.out, h8f, hst1⟩
        · unfold Yld.Pre at hpre
          rw [if_neg he] at hpre
          rw [if_neg he] at hs4
          obtain ⟨rfl, rfl⟩ := hpre
          have hk2 : k = L := by have := HLL.out; have := hs4.1; omega
          obtain ⟨-, hne⟩ := hs4
          have hne : n = e := hne
          subst hne
          have hst0 := HST.out
          rw [if_neg he] at hst0
          have hd1 : decide (st ≤ k) = false := decide_eq_false (by omega)
          have hd2 : decide (k < L) = false := decide_eq_false (by omega)
          have hd3 : ((k : Int) == L) = true := by rw [beq_iff_eq]; omega
          have hd4 : ((n : Int) != n) = false := by simp
          have hd5 : ((n : Int) != 0) = true := by rw [bne_iff_ne]; omega
          have hkb : (k : Int) ≤ 4194304 := by omega
          have hu := undef_no
          have hgn := HG1.out.set8 HG.out H81.out (.int .i64 ((k : Int) + 1))
          have h8n := H81.out.set_ 0 (.int .i64 ((k : Int) + 1))
          have r7 := hgn.c7.cell 0
          simp at r7
          have HGN := Lib.hid hgn
          have H8N := Lib.hid h8n
          have HK2 := Lib.hid hk2
          have HST0 := Lib.hid hst0
          clear hgn h8n hk2 hst0
          gi_wp2
          refine ⟨trivial, ?_⟩
          gi_wp2
          clear q4 q5 q6 hd1 hd2 hd3 hd4 hu
          gi_loopw [78] (fun i wr => i = .int .i64 0 ∧ W = wr) (fun _ _ => 0)
          case atStart => exact ⟨rfl, rfl⟩
          case round =>
            obtain ⟨rfl, rfl⟩ := hrel
            gi_wp2
            obtain rfl : pre = [] := hpn
            have h8f := blk_count (x := ⟨.slice none 0 0, [], 0⟩) H8N.out HK.out
            have hst1 : 1 ≤ st := by have := HST0.out; omega
            exact ⟨((KeepsOthers.setCell _ _ _).from _), rfl, HGN.out, h8f, hst1⟩
      case done6 =>
        rintro D1 xs V' hD hend ⟨hg, h8, rfl⟩ hK
        have hxs : ([] : List Yld).length = st := by
          have h3 := HLL.out
          have h4 := HST.out
          rcases hend with ⟨h0, _, h1⟩ | ⟨q, x, h2, hx, h0, _, h1⟩
          · have h0 : n = 0 := h0
            have h5 := congrArg List.length h1
            rw [List.length_map] at h5
            rw [if_pos h0] at h4
            omega
          · have h0 : n = x.e := h0
            have h5 := congrArg List.length h1
            have h6 := congrArg List.length h2
            rw [List.length_map] at h5
            rw [List.length_append, List.length_singleton] at h6
            rw [if_neg (by omega)] at h4
            omega
        clear hend
        have h4 := HST.out
        rw [if_neg HN.out] at h4
        simp at hxs
        omega
      case stop6 =>
        rintro D1 c V' hD ⟨rfl, hg, h8, hst1⟩ hK
        refine wpIn_wide.2 ?_
        have q8 := h8.cell 0
        have q6 := hg.c6.cell 0
        have q7 := hg.c7.cell 0
        simp at q6 q7 q8
        have hmin : min (1 : Int) (st : Int) = 1 := by omega
        have hlt1 : D0 < D1 := by have := (HG8.out.marks D0 (by simp)); have := (Array.getElem?_eq_some_iff.1 this).1; omega
        have hle1 : w.heap.size ≤ D1 := by have := HG8.out.below.size; omega
        have HGD := Lib.hid (hg.next hK 2)
        have hz := hg.below.size
        clear hg h8 hK
        go_wp2
        clear q6 q7 q8
        obtain ⟨V11, hVn⟩ : ∃ W, V'.alloc (.cells #[.int .i64 2] 3) = W := ⟨_, rfl⟩
        have hg2 : GS w s rows n st 2 w.heap.size (w.heap.size + 1) w2.heap.size (w2.heap.size + 1) (w2.heap.size + 1 + 1) V'.heap.size w1.heap.size (.slice Aq L cq) [D1, D0] V11 := by rw [← hVn]; exact HGD.out
        have hz2 : V'.heap.size < V11.heap.size := by rw [← hVn]; simp
        rw [hVn]
        clear hVn HGD HG HG8 HC8
        have HG := Lib.hid hg2
        clear hg2
        obtain ⟨B1, hB1⟩ : ∃ b, V'.heap.size = b := ⟨_, rfl⟩
        rw [hB1] at HG hz2 ⊢
        clear hB1
        rw [rounds_succ]
        have q7 := HG.out.c7.cell 0
        simp at q7
        go_wp2_with fail
        obtain ⟨V8, hV8⟩ : ∃ W, V11.alloc (.cells #[.int .i64 0] 3) = W := ⟨_, rfl⟩
        have hb8 : Below V11.heap.size V11 V8 := by rw [← hV8]; exact (Below.refl _ _).alloc (Nat.le_refl _) _
        have hc8 : Blk V8 V11.heap.size 3 #[.int .i64 0] := by rw [← hV8]; exact Blk.new _ _ _
        have HG8 : Hid (GS w s rows n st 2 w.heap.size (w.heap.size + 1) w2.heap.size (w2.heap.size + 1) (w2.heap.size + 1 + 1) B1 w1.heap.size (.slice Aq L cq) [D1, D0] V8) := HG.out.same1 (n₁ := w.heap.size) (Same1.of_below hb8) (Nat.le_refl _)
        have HC8 := Lib.hid hc8
        have hz8 := hb8.size
        rw [hV8]
        clear hV8 hc8 hb8 q7
        refine (wpIn_wide (n := 9)).1 ?_
        refine' wp_iter 57 (gf := 25) (lb := #[.pointer (some ⟨w.heap.size + 1, 0, none⟩)]) rfl (enters_of Tryd.func25 (by kernel_rfl) rfl) (encs := Yld.enc) (fun x => rfl) (Pre := Yld.Pre) ?hPre7
          (fun W1 hb hn => HRI.out V8.heap.size (w.heap.size + 1) HG8.out.ct.lt W1 hn ((hb.cell (p := ⟨w.heap.size + 1, 0, none⟩) HG8.out.ct.lt).trans (HG8.out.ct.cell 0)))
          (fun pre V' => GS w s rows n st 2 w.heap.size (w.heap.size + 1) w2.heap.size (w2.heap.size + 1) (w2.heap.size + 1 + 1) B1 w1.heap.size (.slice Aq L cq) [D1, D0] V' ∧ Blk V' V11.heap.size 3 #[.int .i64 pre.length])
          (fun c V' => False)
          ?hI7 ?hIx7 ?hAux7 ⟨HG8.out, HC8.out⟩ _ ?assign7 ?body7 ?done7 ?stop7
        case assign7 =>
          intro l x V' K hK
          simp only [Yld.enc]
          gi_wp2
          exact hK
        case hPre7 =>
          intro x W0 W l r r' h hl
          unfold Yld.Pre at h ⊢
          split
          · rename_i h0
            rw [if_pos h0] at h
            exact (Same1.putObj (T := 0) (n₁ := 0) r' hl (by omega)).own h (by decide)
          · rename_i h0
            rw [if_neg h0] at h
            exact h
        case hI7 =>
          rintro pre A B ⟨h1, h2⟩ hs
          exact ⟨h1.same1 hs (by have := HG8.out.below.size; omega), hs.blk h2 (by decide)⟩
        case hIx7 =>
          exact fun c A B h _ => h.elim
        case hAux7 =>
          rintro pre V' ⟨h1, _⟩
          exact h1.ct.cell 0
        case body7 =>
          rintro l pre x W0 W ⟨hg, h8⟩ hsame hpre hstep hl hn0
          have hg' := hg.same1 hsame (by have := HG8.out.below.size; omega)
          have h8' := hsame.blk h8 (show 3 ≠ 57 by decide)
          have hlt8 := h8.lt
          have hown0 := hg.own
          have HG0 := Lib.hid hg
          have H80 := Lib.hid h8
          have HS := Lib.hid hsame
          have q8 := h8'.cell 0
          have f8 := h8'.frozen 0
          have q4 := hg'.c4.cell 0
          have q5 := hg'.c5.cell 0
          have q6 := hg'.c6.cell 0
          have q7 := hg'.c7.cell 0
          simp at q4 q5 q6 q7 q8
          have HG1 := Lib.hid hg'
          have H81 := Lib.hid h8'
          have HO0 := Lib.hid hown0
          obtain ⟨v, fs, e⟩ := x
          obtain ⟨hs1, hs2, hs3, hs4⟩ := hstep
          dsimp only at hs4
          obtain ⟨k, hk⟩ : ∃ k, pre.length = k := ⟨_, rfl⟩
          rw [hk] at hs2 hs4 q8
          have HK := Lib.hid hk
          clear hg hg' h8 h8' hown0 hsame hs1 hs3 hk
          have hfl : w.heap.size ≤ W0.heap.size := by have := HG8.out.below.size; omega
          by_cases he : e = 0
          · subst he
            rw [if_pos rfl] at hs4
            unfold Yld.Pre at hpre
            rw [if_pos rfl] at hpre
            dsimp only at hpre
            have hkL : k < L := by have := (List.getElem?_eq_some_iff.1 hs4).1; have := HLL.out; omega
            have hkL' : (k : Int) < L := by omega
            have hst0 := HST.out
            have hd1 : decide (st ≤ k) = false := decide_eq_false (by split at hst0 <;> omega)
            have hd2 : decide (k < L) = true := decide_eq_true hkL
            have hd3 : ((k : Int) == L) = false := by rw [beq_eq_false_iff_ne]; omega
            have hfsl := HL.out fs (List.mem_of_getElem? hs4)
            have hr2 := Rows2.of_own HG1.out.own
            obtain ⟨Ar, cr, usr, er, _, _, hulr, hRr, hRrr⟩ := hr2
            obtain ⟨rfl, _, rfl⟩ : Aq = Ar ∧ True ∧ cq = cr := by injection er with q1 q2 q3; exact ⟨q1, trivial, q3⟩
            rw [HLL.out] at hRr hulr
            obtain ⟨b1, o1, u1, rfl, hb1, hx1, hc1⟩ := hRr.at_ hkL
            have hr1 := hRrr k u1 fs hx1 hs4
            have hrv := Row1.of_own hpre
            obtain ⟨A1, c1, e1, _⟩ := hr1
            obtain ⟨Av, cv, ev⟩ := own_form hpre
            obtain ⟨m1, hm1⟩ : ∃ n, fs.length = n := ⟨_, rfl⟩
            have hcall := sameRow_any v u1 fs fs W hrv (hRrr k u1 fs hx1 hs4) hfsl hfsl
            have hcall' : Calls Tryd.prog 19 #[v, u1] W fun e w' => e = .returned (.bool true) ∧ Below W.heap.size W w' := hcall.mono fun e w' ⟨h1, h2⟩ => ⟨by rw [h1]; simp, h2⟩
            have HPRE := Lib.hid hpre
            have HS4 := Lib.hid hs4
            rw [hm1] at e1 ev
            subst e1 ev
            have HCALL := Lib.hid hcall'
            have hm1b : m1 ≤ 1073741824 := by rw [← hm1]; exact hfsl
            have HM1 := Lib.hid hm1
            clear hcall hcall' hrv er hulr hRr hRrr hx1 hpre hs4 hm1 hst0 hb1
            gi_wp2_with fail
            refine ⟨trivial, (CallsIn.inRound l (callsIn_wide.2 HCALL.out)).mono ?_⟩
            rintro e W1 ⟨rfl, hbc⟩
            have hown1 := own_grown_none HPRE.out (only_of_below hbc none)
            rw [HM1.out] at hown1
            have hz0 := HS.out.size
            have HO1 := Lib.hid hown1
            have HBC : Hid (Below W0.heap.size W W1) := hbc.mono hz0
            have HKF : Hid (KeepsFrom V8.heap.size W W1) := KeepsFrom.of_grownBy (only_of_below hbc none) (fun j e => by cases e)
            have HKT : Hid (KeepT 57 W W1) := KeepT.of_grown (only_of_below hbc none) (fun g c fz e => by cases e)
            have p8 := (H81.out.below hbc H81.out.lt).cell 0
            have p4 := (HG1.out.c4.below hbc HG1.out.c4.lt).cell 0
            rw [HK.out] at p8
            simp at p4 p8
            clear q4 q5 q6 q7 q8 f8 hc1 hbc hown1 hd1 hd2
            have hu := undef_no
            gi_wp2
            clear p4 p8 hd3 hu
            gi_loopw [78] (fun i wr => ∃ (j : Nat) (cells : List Value), j ≤ m1 ∧ i = .int .i64 j ∧ wr.ownsRow W0.heap.size 9 1 (.slice Av m1 cv) m1 cells ∧ Below W0.heap.size W wr ∧ KeepsFrom V8.heap.size W wr ∧ KeepT 57 W wr) (fun i _ => m1 - (intOf i).toNat)
            case atStart => exact ⟨0, _, by omega, rfl, HO1.out, HBC.out, HKF.out, HKT.out⟩
            case round =>
              obtain ⟨j, cells, hj, rfl, hown, hbw, hkf, hkt⟩ := hrel
              have HOW := Lib.hid hown
              have HBW := Lib.hid hbw
              have HKF' := Lib.hid hkf
              have HKT' := Lib.hid hkt
              clear hown hbw hkf hkt
              by_cases hjl : j < m1
              · have hjl' : (j : Int) < m1 := by omega
                obtain ⟨g, u, rfl, hcell, hfz⟩ := own_place' HOW.out hjl
                have hst := HOW.out.stored j (.string ⟨#[42]⟩)
                have HST2 := Lib.hid hst
                have hgb := (own_blocks HOW.out g rfl)
                have HGB := Lib.hid hgb
                clear hst hgb
                gi_wp2
                refine ⟨⟨j + 1, _, by omega, by go_num, HST2.out.1, ?_, ?_, ?_⟩, by simp [intOf]; omega⟩
                · exact HBW.out.setCell (p := ⟨g, j, none⟩) HGB.out.1 _
                · exact HKF'.out.trans ((KeepsOthers.setCell _ _ _).from _)
                · exact HKT'.out.trans (KeepT.of_grown HST2.out.2 (fun g' c fz e hc => by
                    cases e
                    obtain ⟨_, c', hc'⟩ := HGB.out
                    rw [hc'] at hc
                    cases hc))
              · obtain rfl : m1 = j := by omega
                have hs3 := HS.out.thenBelow HBW.out
                have hgr := HG0.out.same1 hs3 (by have := HG8.out.below.size; omega)
                have h8r := hs3.blk H80.out (show 3 ≠ 57 by decide)
                have r8 := h8r.cell 0
                have rf8 := h8r.frozen 0
                have hgn := hgr.set8 HG.out h8r (.int .i64 ((k : Int) + 1))
                have h8n := h8r.set_ 0 (.int .i64 ((k : Int) + 1))
                have r7 := hgn.c7.cell 0
                rw [HK.out] at r8
                simp at r7 r8
                have HGN := Lib.hid hgn
                have H8N := Lib.hid h8n
                clear hs3 hgr h8r hgn h8n
                gi_wp2
                exact ⟨HKF'.out.trans ((KeepsOthers.setCell _ _ _).from _), HKT'.out.trans (keepT_set8 (HS.out.thenBelow HBW.out |>.blk H80.out (by decide)) _), HGN.out, blk_count H8N.out HK.out⟩
          · unfold Yld.Pre at hpre
            rw [if_neg he] at hpre
            rw [if_neg he] at hs4
            obtain ⟨rfl, rfl⟩ := hpre
            have hk2 : k = L := by have := HLL.out; have := hs4.1; omega
            obtain ⟨-, hne⟩ := hs4
            have hne : n = e := hne
            subst hne
            have hst0 := HST.out
            rw [if_neg he] at hst0
            have hd1 : decide (st ≤ k) = false := decide_eq_false (by omega)
            have hd2 : decide (k < L) = false := decide_eq_false (by omega)
            have hd3 : ((k : Int) == L) = true := by rw [beq_iff_eq]; omega
            have hd4 : ((n : Int) != n) = false := by simp
            have hd5 : ((n : Int) != 0) = true := by rw [bne_iff_ne]; omega
            have hkb : (k : Int) ≤ 4194304 := by omega
            have hu := undef_no
            have hgn := HG1.out.set8 HG.out H81.out (.int .i64 ((k : Int) + 1))
            have h8n := H81.out.set_ 0 (.int .i64 ((k : Int) + 1))
            have r7 := hgn.c7.cell 0
            simp at r7
            have HGN := Lib.hid hgn
            have H8N := Lib.hid h8n
            have HK2 := Lib.hid hk2
            have HST0 := Lib.hid hst0
            clear hgn h8n hk2 hst0
            gi_wp2
            refine ⟨trivial, ?_⟩
            gi_wp2
            clear q4 q5 q6 hd1 hd2 hd3 hd4 hu
            gi_loopw [78] (fun i wr => i = .int .i64 0 ∧ W = wr) (fun _ _ => 0)
            case atStart => exact ⟨rfl, rfl⟩
            case round =>
              obtain ⟨rfl, rfl⟩ := hrel
              gi_wp2
              exact ⟨((KeepsOthers.setCell _ _ _).from _), keepT_set8 H81.out _, HGN.out, blk_count H8N.out HK.out⟩
        case done7 =>
          rintro D2 xs V' hD hend ⟨hg, h8⟩ hK
          have hxs : xs.length = st := by
            have h3 := HLL.out
            have h4 := HST.out
            rcases hend with ⟨h0, _, h1⟩ | ⟨q, x, h2, hx, h0, _, h1⟩
            · have h0 : n = 0 := h0
              have h5 := congrArg List.length h1
              rw [List.length_map] at h5
              rw [if_pos h0] at h4
              omega
            · have h0 : n = x.e := h0
              have h5 := congrArg List.length h1
              have h6 := congrArg List.length h2
              rw [List.length_map] at h5
              rw [List.length_append, List.length_singleton] at h6
              rw [if_neg (by omega)] at h4
              omega
          clear hend
          have q8 := h8.cell 0
          have q6 := hg.c6.cell 0
          have q7 := hg.c7.cell 0
          simp at q6 q7 q8
          rw [hxs] at q8
          have hse : ((st : Int) != st) = false := by simp
          have hlt2 : D1 < D2 := by have := (HG8.out.marks D1 (by simp)); have := (Array.getElem?_eq_some_iff.1 this).1; omega
          have hle2 : w.heap.size ≤ D2 := by have := HG8.out.below.size; omega
          have HGD := Lib.hid (hg.next hK 3)
          have hz := hg.below.size
          clear hg h8 hK hxs
          go_wp2
          clear q6 q7 q8
          obtain ⟨V12, hVn⟩ : ∃ W, V'.alloc (.cells #[.int .i64 3] 3) = W := ⟨_, rfl⟩
          have hg2 : GS w s rows n st 3 w.heap.size (w.heap.size + 1) w2.heap.size (w2.heap.size + 1) (w2.heap.size + 1 + 1) V'.heap.size w1.heap.size (.slice Aq L cq) [D2, D1, D0] V12 := by rw [← hVn]; exact HGD.out
          have hz2 : V'.heap.size < V12.heap.size := by rw [← hVn]; simp
          rw [hVn]
          clear hVn HGD HG HG8 HC8
          have HG := Lib.hid hg2
          clear hg2
          obtain ⟨B2, hB2⟩ : ∃ b, V'.heap.size = b := ⟨_, rfl⟩
          rw [hB2] at HG hz2 ⊢
          clear hB2
          rw [rounds_succ]
          have q7 := HG.out.c7.cell 0
          have q2 := HG.out.c2.cell 0
          have f2 := HG.out.c2.frozen 0
          simp at q7 q2
          go_wp2
          have hne2 : ∀ D ∈ [D2, D1, D0], D ≠ w.heap.size := fun D hD e => by
            subst e
            have h1 := HG.out.marks _ hD
            have h2 := HG.out.c2
            unfold Blk at h2
            rw [h2] at h1
            cases h1
          have mk : ∀ D ∈ [D2, D1, D0], (V12.setCell ⟨w.heap.size, 0, none⟩ (.bool true)).heap[D]? = some (.deferred (some [])) := fun D hD => by
            rw [Below.heap_setCell _ _ _ _ (hne2 D hD)]
            exact HG.out.marks D hD
          have m2 := mk D2 (by simp)
          have m1 := mk D1 (by simp)
          have m0 := mk D0 (by simp)
          have e1 := blk_putObj (o := .deferred none) m2 (HG.out.c2.set_ 0 (.bool true))
          have m1' : ((V12.setCell ⟨w.heap.size, 0, none⟩ (.bool true)).putObj D2 (.deferred none)).heap[D1]? = some (.deferred (some [])) := (World.putObj_heap_other (by omega)).trans m1
          have e2 := blk_putObj (o := .deferred none) m1' e1
          have m0' : (((V12.setCell ⟨w.heap.size, 0, none⟩ (.bool true)).putObj D2 (.deferred none)).putObj D1 (.deferred none)).heap[D0]? = some (.deferred (some [])) := (World.putObj_heap_other (by omega)).trans ((World.putObj_heap_other (by omega)).trans m0)
          have e3 := blk_putObj (o := .deferred none) m0' e2
          have q3 := e3.cell 0
          simp at q3
          refine ret_marks3 (v := .bool true) m2 m1 m0 hlt2 hlt1 (by simp [results, Tryd.results5, go_sem, q3]) ?_
          exact ⟨rfl, below_putObj (below_putObj (below_putObj (HG.out.below.setCell (p := ⟨w.heap.size, 0, none⟩) (Nat.le_refl _) _) hle2) hle1) hle0⟩
        case stop7 =>
          exact fun D c V' hD h hK => h.elim
    case stop5 =>
      exact fun D c V' hD h hK => h.elim
end Go.Proofs.YtjkbaihcdjbjiaaDoor
