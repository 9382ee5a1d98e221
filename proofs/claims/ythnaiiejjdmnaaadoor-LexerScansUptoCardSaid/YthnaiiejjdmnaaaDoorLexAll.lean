/- Layer 24 (lexer): All. -/
import Derived.Test.YthnaiiejjdmnaaaDoorLexScan
import Derived.Test.YthnaiiejjdmnaaaDoorRangeA
import Derived.RegionIn
namespace Go.Proofs.YthnaiiejjdmnaaaDoor
open Go.RowKit
attribute [local go_sem] Oper.semAt_some

namespace Lex
theorem scan_len : ∀ (k : Nat) (l : List UInt8) (i : Nat), (scan k l i).1.length ≤ l.length
  | 0, l, i => by simp [scan]
  | k + 1, [], i => by simp [scan]
  | k + 1, c :: r, i => by
    cases ht : tok1 (c :: r) with
    | err o e => rw [scan_err (by simp) ht]; simp
    | tok kd tx nm n =>
      obtain ⟨t1, t2⟩ := tok1_len ht
      have ih := scan_len k ((c :: r).drop (n + gap false ((c :: r).drop n))) (i + n + gap false ((c :: r).drop n))
      rw [scan_tok ht rfl, List.length_cons]
      rw [List.length_drop] at ih
      omega
theorem scan_err_ne : ∀ (k : Nat) (l : List UInt8) (i : Nat) {p e : Nat}, (scan k l i).2 = some (p, e) → e ≠ 0
  | 0, l, i, p, e, h => by simp [scan] at h
  | k + 1, [], i, p, e, h => by simp [scan] at h
  | k + 1, c :: r, i, p, e, h => by
    cases ht : tok1 (c :: r) with
    | err o e' =>
      rw [scan_err (by simp) ht] at h
      have := (tok1_err (by simp) ht).1
      cases h
      exact this
    | tok kd tx nm n =>
      rw [scan_tok ht rfl] at h
      exact scan_err_ne k _ _ h
theorem read_len (l : List UInt8) : (read l).1.length ≤ 16777216 := by
  unfold read
  split
  · simp
  · have := scan_len (l.length + 1) (l.drop (gap false l)) (0 + gap false l)
    unfold body
    rw [List.length_drop] at this
    omega
theorem read_len' (l : List UInt8) : (read l).1.length ≤ l.length := by
  unfold read
  split
  · simp
  · have := scan_len (l.length + 1) (l.drop (gap false l)) (0 + gap false l)
    unfold body
    rw [List.length_drop] at this
    omega
theorem read_err_ne {l : List UInt8} {p e : Nat} (h : (read l).2 = some (p, e)) : e ≠ 0 := by
  unfold read at h
  split at h
  · cases h; decide
  · exact scan_err_ne _ _ _ h
theorem items_len (x : List Tok × Option (Nat × Nat)) : (items x).length ≤ x.1.length + 1 := by
  unfold items
  rw [List.length_append, List.length_map]
  cases x.2 <;> simp
/-- an item with an error is the error -/
theorem items_mem_err {x : List Tok × Option (Nat × Nat)} {t : Tok} {e : Nat} (h : (t, e) ∈ items x) (he : e ≠ 0) : x.2 = some (t.pos, e) ∧ t = ⟨0, [], 0, t.pos⟩ := by
  unfold items at h
  rcases List.mem_append.1 h with h | h
  · obtain ⟨u, _, hu⟩ := List.mem_map.1 h
    cases hu
    exact absurd rfl he
  · cases hx : x.2 with
    | none => rw [hx] at h; cases h
    | some y =>
      obtain ⟨p, e'⟩ := y
      rw [hx] at h
      obtain h := List.mem_singleton.1 h
      cases h
      exact ⟨rfl, rfl⟩
/-- all without an error -/
theorem items_all {x : List Tok × Option (Nat × Nat)} (hx : ∀ p e, x.2 = some (p, e) → e ≠ 0) (h : ∀ y ∈ items x, y.2 = 0) : x.2 = none ∧ items x = x.1.map (fun t => (t, 0)) := by
  cases h2 : x.2 with
  | none =>
    refine ⟨rfl, ?_⟩
    unfold items
    rw [h2, List.append_nil]
  | some y =>
    obtain ⟨p, e⟩ := y
    exact absurd (h (⟨0, [], 0, p⟩, e) (by unfold items; rw [h2]; simp)) (hx p e h2)
end Lex

theorem blk_drew {V : World} {b : Nat} {t : TypeId} {c : Array Value} (h : Blk V b t c) : Blk V.drew b t c := h
/-- a token's cells -/
def tokC (t : Lex.Tok) : List Value := [.int .i64 (t.kind : Int), .string ⟨t.text.toArray⟩, .int .i64 t.num, .int .i64 (t.pos : Int)]
def toksC (l : List Lex.Tok) : List Value := l.flatMap tokC
theorem toksC_snoc (l : List Lex.Tok) (t : Lex.Tok) : toksC (l ++ [t]) = toksC l ++ tokC t := by simp [toksC]
theorem toksC_len (l : List Lex.Tok) : (toksC l).length = l.length * 4 := by
  induction l with
  | nil => rfl
  | cons t r ih => rw [toksC, List.flatMap_cons, List.length_append, List.length_cons, ← toksC, ih]; simp [tokC]; omega
/-- v is a slice of these tokens, in memory of the call's own -/
def OwnToks (w : World) (B : Nat) (v : Value) (l : List Lex.Tok) : Prop := w.ownsRow B 30 4 v l.length (toksC l)
theorem info_token : (Tryd.prog.info? 30).map (fun i => (i.zero, i.size, i.bytes)) = some (some (.agg #[.int .i64 0, .string ⟨#[]⟩, .int .i64 0, .int .i64 0]), 4, 40) := by kernel_rfl

theorem scanf_any (s : ByteArray) (w : World) :
    Calls Tryd.prog 9 #[.string s] w fun e w' => e = .returned (.func (.func 14) #[] #[.pointer (some ⟨w.heap.size, 0, none⟩)]) ∧ w.alloc (.cells #[.string s] 9) = w' := by
  go_enter Tryd.func9, Tryd.ntmps9
  go_wp2
  go_ret
  exact ⟨rfl, rfl⟩

/-- how All ends -/
def AllRes (x : List Lex.Tok × Option (Nat × Nat)) (w : World) (e : Ending) (w' : World) : Prop :=
  Below w.heap.size w w' ∧ match x.2 with
    | none => ∃ v, e = .returned (.tuple #[v, .int .i64 0, .int .i64 0]) ∧ OwnToks w' w.heap.size v x.1
    | some (p, k) => e = .returned (.tuple #[.slice none 0 0, .int .i64 (p : Int), .int .i64 (k : Int)])
def allW1 (x : LY) (W : World) : World := W.alloc (.cells #[.int .i64 (x.1.kind : Int), .string ⟨x.1.text.toArray⟩, .int .i64 x.1.num, .int .i64 (x.1.pos : Int)] 30)

set_option maxHeartbeats 8000000 in
set_option maxRecDepth 100000 in
theorem all_any (s : ByteArray) (hs : s.size ≤ 1073741823) (w : World) (hL : Laid w) :
    Calls Tryd.prog 13 #[.string s] w (AllRes (Lex.read s.data.toList) w) := by
  obtain ⟨i0, hi, hz0, hz1, hz2⟩ := info_parts info_token
  have HLL := Lib.hid hL
  clear hL
  refine calls_of_wp_marks Tryd.func13 rfl ?_
  simp only [Tryd.ntmps13, List.size_toArray, List.length_cons, List.length_nil, Nat.reduceAdd, Nat.reduceSub, Array.replicate_succ, Array.replicate_zero, List.push_toArray, List.append_toArray, List.nil_append, List.cons_append]
  go_wp2_with (go_at_call 9; refine (scanf_any _ _).mono ?_; rintro e w' ⟨rfl, rfl⟩)
  obtain ⟨W, hW⟩ : ∃ W, (((w.alloc (.cells #[.slice none 0 0] 26)).alloc (.cells #[.int .i64 0] 3)).alloc (.cells #[.int .i64 0] 31)).alloc (.cells #[.string s] 9) = W := ⟨_, rfl⟩
  have hsz : W.heap.size = w.heap.size + 4 := by rw [← hW]; simp
  have b0 : Blk W w.heap.size 26 #[.slice none 0 0] := by rw [← hW]; exact (((Blk.new _ _ _).alloc _).alloc _).alloc _
  have b1 : Blk W (w.heap.size + 1) 3 #[.int .i64 0] := by rw [← hW]; have := ((Blk.new (w.alloc (.cells #[.slice none 0 0] 26)) 3 #[.int .i64 0]).alloc (.cells #[.int .i64 0] 31)).alloc (.cells #[.string s] 9); simpa using this
  have b2 : Blk W (w.heap.size + 2) 31 #[.int .i64 0] := by rw [← hW]; have := (Blk.new ((w.alloc (.cells #[.slice none 0 0] 26)).alloc (.cells #[.int .i64 0] 3)) 31 #[.int .i64 0]).alloc (.cells #[.string s] 9); simpa using this
  have b3 : Blk W (w.heap.size + 3) 9 #[.string s] := by rw [← hW]; have := Blk.new (((w.alloc (.cells #[.slice none 0 0] 26)).alloc (.cells #[.int .i64 0] 3)).alloc (.cells #[.int .i64 0] 31)) 9 #[.string s]; simpa using this
  have bb : Below w.heap.size w W := by rw [← hW]; exact ((((Below.refl _ w).alloc (Nat.le_refl _) _).alloc (by simp) _).alloc (by simp; omega) _).alloc (by simp; omega) _
  rw [hW]
  clear hW
  refine (wpIn_wide (n := 9)).1 ?_
  refine' wp_iter_a 40 (gf := 14) (lb := #[.pointer (some ⟨w.heap.size + 3, 0, none⟩)]) rfl (enters_of Tryd.func14 (by kernel_rfl) rfl) (encs := lyEnc) (fun x => rfl) (Pre := fun _ _ _ => True) _ allW1 (fun x W => (Below.refl _ W).alloc (Nat.le_refl _) _) (fun _ _ _ _ _ _ _ _ => trivial)
    (fun W1 hb hn => scan_iter s hs W.heap.size (w.heap.size + 3) (by omega) W1 hn)
    (fun pre V => (∃ vo, Blk V w.heap.size 26 #[vo] ∧ OwnToks V w.heap.size vo (pre.map (·.1))) ∧ Blk V (w.heap.size + 1) 3 #[.int .i64 0] ∧ Blk V (w.heap.size + 2) 31 #[.int .i64 0] ∧ Blk V (w.heap.size + 3) 9 #[.string s] ∧ Below w.heap.size w V ∧ (∀ y ∈ pre, y.2 = 0))
    (fun c V => c = .ret ∧ ∃ p e, (Lex.read s.data.toList).2 = some (p, e) ∧ Blk V w.heap.size 26 #[.slice none 0 0] ∧ Blk V (w.heap.size + 1) 3 #[.int .i64 (p : Int)] ∧ Blk V (w.heap.size + 2) 31 #[.int .i64 (e : Int)] ∧ Below w.heap.size w V)
    ?hI ?hIx ?hAux ⟨⟨_, b0, World.ownsRow_nil _ _ _ _⟩, b1, b2, b3, bb, by simp⟩ ?assign ?body ?done ?stop
  case hI =>
    rintro pre A B ⟨⟨vo, h1, h2⟩, h3, h4, h5, h6, h7⟩ hs
    exact ⟨⟨vo, hs.blk h1 (by decide), hs.own h2 (by decide)⟩, hs.blk h3 (by decide), hs.blk h4 (by decide), hs.blk h5 (by decide), h6.trans (hs.below (by omega) h6.size), h7⟩
  case hIx =>
    rintro c A B ⟨hc, p, e, h0, h1, h2, h3, h4⟩ hs
    exact ⟨hc, p, e, h0, hs.blk h1 (by decide), hs.blk h2 (by decide), hs.blk h3 (by decide), h4.trans (hs.below (by omega) h4.size)⟩
  case hAux =>
    rintro pre V ⟨_, _, _, h5, h6, _⟩
    exact ⟨h5.cell 0, HLL.out.below h6⟩
  case assign =>
    intro l x V K hK
    simp only [lyEnc, tokA]
    gi_wp2
    exact hK
  case body =>
    rintro l pre x W0 Va V ⟨⟨vo, h1, h2⟩, h3, h4, h5, h6, h7⟩ hs1 hs2 hblk - - hstep hl hn0
    have hs' := hs1.trans hs2
    obtain ⟨⟨kd, tx, nm, ps⟩, e⟩ := x
    have g1 := hs'.blk h1 (show 26 ≠ 40 by decide)
    have g3 := hs'.blk h3 (show 3 ≠ 40 by decide)
    have g4 := hs'.blk h4 (show 31 ≠ 40 by decide)
    have g5 := hs'.blk h5 (show 9 ≠ 40 by decide)
    have g6 := h6.trans (hs'.below (by omega) h6.size)
    have g2 : OwnToks V w.heap.size vo (pre.map (·.1)) := hs'.own h2 (by decide)
    have gt := hblk Va.heap.size 30 #[.int .i64 (kd : Int), .string ⟨tx.toArray⟩, .int .i64 nm, .int .i64 (ps : Int)] (Blk.new _ _ _)
    have c1 := g1.cell 0
    have f1 := g1.frozen 0
    have c3 := g3.cell 0
    have f3 := g3.frozen 0
    have c4 := g4.cell 0
    have f4 := g4.frozen 0
    have m0 := gt.cell 0
    have m1 := gt.cell 1
    have m2 := gt.cell 2
    have m3 := gt.cell 3
    simp at c1 c3 c4 m0 m1 m2 m3
    have HG1 := Lib.hid g1
    have HG3 := Lib.hid g3
    have HG4 := Lib.hid g4
    have HG5 := Lib.hid g5
    have HG6 := Lib.hid g6
    have HG2 := Lib.hid g2
    have HST := Lib.hid hstep
    have H7 := Lib.hid h7
    have hlen : pre.length ≤ 16777217 := by
      have q1 := hstep.length_le
      have q2 := Lex.items_len (Lex.read s.data.toList)
      have q3 := Lex.read_len s.data.toList
      rw [List.length_append, List.length_singleton] at q1
      omega
    obtain ⟨n, hn⟩ : ∃ n, pre.length = n := ⟨_, rfl⟩
    have g2' : V.ownsRow w.heap.size 30 4 vo n (toksC (pre.map (·.1))) := by
      have := g2
      unfold OwnToks at this
      rwa [List.length_map, hn] at this
    obtain ⟨Ao, co, rfl⟩ := own_form g2'
    have HN := Lib.hid hn
    have HO2 := Lib.hid g2'
    rw [hn] at hlen
    clear hn g2' HG2
    clear hs' hs1 hs2 hblk h1 h2 h3 h4 h5 h6 h7 hstep g1 g2 g3 g4 g5 g6 gt hsz b0 b1 b2 b3 bb
    by_cases he : e = 0
    · subst he
      gi_wp2_with (gi_at_builtin; refine wpListIn_append_own _ rfl _ _ 26 rfl w.heap.size 30 i0 (.agg #[.int .i64 0, .string ⟨#[]⟩, .int .i64 0, .int .i64 0]) 4 40 Tryd.underlying26 hi hz0 hz1 hz2 rfl (by decide) _ _ _ rfl (World.ownsRow.alloc HO2.out _) ⟨V.heap.size, 0, none⟩ 1 1 [.int .i64 (kd : Int), .string ⟨tx.toArray⟩, .int .i64 nm, .int .i64 (ps : Int)] rfl rfl ?c1 ?c2 ?c3 ?c4 ?c5 ?_)
      case c1 =>
        intro j u h
        have hb := Blk.new V 30 #[.int .i64 (kd : Int), .string ⟨tx.toArray⟩, .int .i64 nm, .int .i64 (ps : Int)]
        match j, h with
        | 0, h => cases h; exact hb.cell 0
        | 1, h => cases h; exact hb.cell 1
        | 2, h => cases h; exact hb.cell 2
        | 3, h => cases h; exact hb.cell 3
      case c2 => simp [Value.oneCell']
      case c3 => unfold maxLen; omega
      case c4 => omega
      case c5 => have := HG6.out.size; simp; omega
      intro v' V2 hown' hgrow _
      obtain ⟨g', cap', rfl⟩ := ownsRow_succ hown'
      have hnb := own_blocks HO2.out
      have hrowty : ∀ g c t fz, (Value.slice Ao n co).ownBlock = some g → (V.alloc (.cells #[.int .i64 (kd : Int), .string ⟨tx.toArray⟩, .int .i64 nm, .int .i64 (ps : Int)] 30)).heap[g]? = some (.cells c t fz) → t = 30 := fun g c t fz e hc => by
        obtain ⟨_, c', hc'⟩ := hnb g e
        rw [Below.heap_alloc _ _ _ (Array.getElem?_eq_some_iff.1 hc').1, hc'] at hc
        cases hc
        rfl
      have hne : ∀ (b : Nat) (t : TypeId) (c : Array Value), Blk V b t c → t ≠ 30 → some b ≠ (Value.slice Ao n co).ownBlock := fun b t c hb ht e => by
        obtain ⟨_, c', hc'⟩ := hnb b e.symm
        unfold Blk at hb
        rw [hc'] at hb
        cases hb
        exact ht rfl
      have k1 : Blk V2 w.heap.size 26 #[.slice Ao n co] := Blk.grown (Blk.alloc HG1.out _) hgrow (hne _ _ _ HG1.out (by decide))
      have k3 : Blk V2 (w.heap.size + 1) 3 #[.int .i64 0] := Blk.grown (Blk.alloc HG3.out _) hgrow (hne _ _ _ HG3.out (by decide))
      have k4 : Blk V2 (w.heap.size + 2) 31 #[.int .i64 0] := Blk.grown (Blk.alloc HG4.out _) hgrow (hne _ _ _ HG4.out (by decide))
      have k5 : Blk V2 (w.heap.size + 3) 9 #[.string s] := Blk.grown (Blk.alloc HG5.out _) hgrow (hne _ _ _ HG5.out (by decide))
      have k6 : Below w.heap.size w V2 := (HG6.out.alloc HG6.out.size _).grown hgrow (by have := HG6.out.size; simp; omega) (fun k e => (hnb k e).1)
      have c2 := k1.cell 0
      have f2 := k1.frozen 0
      simp at c2
      have HK1 := Lib.hid k1
      have HK3 := Lib.hid k3
      have HK4 := Lib.hid k4
      have HK5 := Lib.hid k5
      have HK6 := Lib.hid k6
      have HOW := Lib.hid hown'
      have HGR := Lib.hid hgrow
      have HNB := Lib.hid hnb
      have HRT := Lib.hid hrowty
      clear k1 k3 k4 k5 k6 hne hnb hown' hgrow hrowty c1 f1 c3 f3 c4 f4 m0 m1 m2 m3
      gi_wp2
      have hset := grownBy_set V2 ⟨w.heap.size, 0, none⟩ (.slice (some ⟨g', 0, none⟩) (n + 1) cap')
      have hboxty : ∀ g c t fz, some (⟨w.heap.size, 0, none⟩ : Addr).block = some g → V2.heap[g]? = some (.cells c t fz) → t = 26 := fun g c t fz e hc => by
        cases e
        have := HK1.out
        unfold Blk at this
        rw [show V2.heap[w.heap.size]? = some (.cells c t fz) from hc] at this
        cases this
        rfl
      refine ⟨((KeepsOthers.alloc _ _).from _).trans (((KeepsOthers.of_grownBy HGR.out (fun j o e ho => ?_)).from _).trans ((KeepsOthers.setCell _ _ _).from _)), ?_, ⟨_, Blk.set_ HK1.out 0 _, ?_⟩, Blk.far HK3.out (by simp) _, Blk.far HK4.out (by simp) _, Blk.far HK5.out (by simp) _, HK6.out.setCell (p := ⟨w.heap.size, 0, none⟩) (Nat.le_refl _) _, ?_⟩
      · obtain ⟨_, c', hc'⟩ := HNB.out j e
        rw [Below.heap_alloc _ _ _ (Array.getElem?_eq_some_iff.1 hc').1, hc'] at ho
        cases ho
        rfl
      · refine (KeepT.of_grown (World.grownBy_alloc _ _ none) (fun g c fz e => by cases e)).trans ((KeepT.of_grown HGR.out (fun g c fz e hc => ?_)).trans (KeepT.of_grown hset (fun g c fz e hc => ?_)))
        · exact absurd (HRT.out g c _ fz e hc) (by decide)
        · exact absurd (hboxty g c _ fz e hc) (by decide)
      · have := own_kept_ty HOW.out hset (fun g c t fz e hc => by rw [hboxty g c t fz e hc]; decide)
        unfold OwnToks
        rw [List.map_append, List.length_append, List.length_map, HN.out]
        show World.ownsRow _ _ _ _ _ (n + 1) (toksC (pre.map (·.1) ++ [_]))
        rw [toksC_snoc]
        exact this
      · intro y hy
        rcases List.mem_append.1 hy with h | h
        · exact H7.out y h
        · rw [List.mem_singleton.1 h]
    · have heb : ((e : Int) != 0) = true := by rw [bne_iff_ne]; omega
      have hmem : ((⟨kd, tx, nm, ps⟩ : Lex.Tok), e) ∈ Lex.items (Lex.read s.data.toList) := HST.out.subset (by simp)
      obtain ⟨q1, q2⟩ := Lex.items_mem_err hmem he
      have Q1 := Lib.hid q1
      clear q1 q2 hmem
      gi_wp2
      gi_region
      all_goals gi_wp2
      all_goals
        refine ⟨((((KeepsOthers.setCell _ _ _).from _).trans ((KeepsOthers.setCell _ _ _).from _)).trans ((KeepsOthers.setCell _ _ _).from _)).trans ((KeepsOthers.drew _).from _), rfl, ps, e, Q1.out, ?_, ?_, ?_, ?_⟩
        · exact blk_drew (Blk.far (Blk.far (Blk.set_ HG1.out 0 _) (by first | (simp; done) | (simp; omega)) _) (by first | (simp; done) | (simp; omega)) _)
        · exact blk_drew (Blk.far (Blk.set_ (Blk.far HG3.out (by first | (simp; done) | (simp; omega)) _) 0 _) (by first | (simp; done) | (simp; omega)) _)
        · exact blk_drew (Blk.set_ (Blk.far (Blk.far HG4.out (by first | (simp; done) | (simp; omega)) _) (by first | (simp; done) | (simp; omega)) _) 0 _)
        · exact Below.drew (((HG6.out.setCell (by first | (simp; done) | (simp; omega)) _).setCell (by first | (simp; done) | (simp; omega)) _).setCell (by first | (simp; done) | (simp; omega)) _)
  case done =>
    rintro D xs V hD hend ⟨⟨vo, h1, h2⟩, h3, h4, h5, h6, h7⟩ hK
    have hall : (Lex.read s.data.toList).2 = none ∧ Lex.items (Lex.read s.data.toList) = (Lex.read s.data.toList).1.map (fun t => (t, 0)) := Lex.items_all (fun p e h => Lex.read_err_ne h) (fun y hy => h7 y (by rw [hend]; exact hy))
    have hxs : xs.map (·.1) = (Lex.read s.data.toList).1 := by
      rw [hend, hall.2, List.map_map]
      exact List.map_id' _
    rw [hxs] at h2
    obtain ⟨T, hT⟩ : ∃ T, (Lex.read s.data.toList).1 = T := ⟨_, rfl⟩
    rw [hT] at h2
    obtain ⟨Ao, co, rfl⟩ := own_form h2
    have c1 := h1.cell 0
    have f1 := h1.frozen 0
    have c3 := h3.cell 0
    have f3 := h3.frozen 0
    have c4 := h4.cell 0
    have f4 := h4.frozen 0
    simp at c1 c3 c4
    have HA := Lib.hid hall.1
    have HT := Lib.hid hT
    have H1 := Lib.hid h1
    have H2 := Lib.hid h2
    have H3 := Lib.hid h3
    have H4 := Lib.hid h4
    have H6 := Lib.hid h6
    have HKD := Lib.hid hK
    have HSZ := Lib.hid hsz
    have HDD := Lib.hid hD
    obtain ⟨n, hn⟩ : ∃ n, T.length = n := ⟨_, rfl⟩
    rw [hn] at c1
    have HNN := Lib.hid hn
    clear hall hxs hT h1 h2 h3 h4 h5 h6 h7 hend hK hsz hD hn b0 b1 b2 b3 bb
    go_wp2
    have n0 : D ≠ w.heap.size := by have := HSZ.out; have := HDD.out; omega
    have n1 : D ≠ w.heap.size + 1 := by have := HSZ.out; have := HDD.out; omega
    have n2 : D ≠ w.heap.size + 1 + 1 := by have := HSZ.out; have := HDD.out; omega
    have hK2 : (((V.setCell ⟨w.heap.size, 0, none⟩ (.slice Ao n co)).setCell ⟨w.heap.size + 1, 0, none⟩ (.int .i64 0)).setCell ⟨w.heap.size + 1 + 1, 0, none⟩ (.int .i64 0)).heap[D]? = some (.deferred (some [])) := by
      rw [Below.heap_setCell _ _ _ _ n2, Below.heap_setCell _ _ _ _ n1, Below.heap_setCell _ _ _ _ n0]
      exact HKD.out
    have B1 := blk_putObj (o := .deferred none) hK2 (Blk.far (p := ⟨w.heap.size + 1 + 1, 0, none⟩) (Blk.far (Blk.set_ H1.out 0 (.slice Ao n co)) (p := ⟨w.heap.size + 1, 0, none⟩) (by simp) (.int .i64 0)) (by simp; omega) (.int .i64 0))
    have B3 := blk_putObj (o := .deferred none) hK2 (Blk.far (p := ⟨w.heap.size + 1 + 1, 0, none⟩) (Blk.set_ (Blk.far H3.out (p := ⟨w.heap.size, 0, none⟩) (by simp) (.slice Ao n co)) 0 (.int .i64 0)) (by simp) (.int .i64 0))
    have B4 := blk_putObj (o := .deferred none) hK2 (Blk.set_ (Blk.far (p := ⟨w.heap.size + 1, 0, none⟩) (Blk.far H4.out (p := ⟨w.heap.size, 0, none⟩) (by simp) (.slice Ao n co)) (by simp) (.int .i64 0)) 0 (.int .i64 0))
    have q1 := B1.cell 0
    have q3 := B3.cell 0
    have q4 := B4.cell 0
    simp at q1 q3 q4
    refine ret_mark hK2 (v := .tuple #[.slice Ao n co, .int .i64 0, .int .i64 0]) (by simp [results, Tryd.results13, go_sem, q1, q3, q4]) ?_
    refine ⟨below_putObj (((H6.out.setCell (p := ⟨w.heap.size, 0, none⟩) (Nat.le_refl _) _).setCell (p := ⟨w.heap.size + 1, 0, none⟩) (by simp) _).setCell (p := ⟨w.heap.size + 1 + 1, 0, none⟩) (by simp; omega) _) (by have := HSZ.out; have := HDD.out; omega), ?_⟩
    rw [HA.out]
    refine ⟨_, rfl, ?_⟩
    rw [HT.out]
    unfold OwnToks
    rw [HNN.out]
    refine own_putObj hK2 ?_
    have h2' := H2.out
    unfold OwnToks at h2'
    rw [HNN.out] at h2'
    have ty : ∀ {X : World} {b : Nat} {t : TypeId} {c0 : Array Value} {v : Value}, Blk X b t c0 → t ≠ 30 → X.ownsRow w.heap.size 30 4 (.slice Ao n co) n (toksC T) → (X.setCell ⟨b, 0, none⟩ v).ownsRow w.heap.size 30 4 (.slice Ao n co) n (toksC T) := fun {X b t c0 v} hb ht ho =>
      own_kept_ty ho (grownBy_set _ _ _) (fun g c t' fz e hc => by
        cases e
        unfold Blk at hb
        rw [show X.heap[b]? = some (.cells c t' fz) from hc] at hb
        cases hb
        exact ht)
    exact ty (Blk.far (p := ⟨w.heap.size + 1, 0, none⟩) (Blk.far H4.out (p := ⟨w.heap.size, 0, none⟩) (by simp) _) (by simp) _) (by decide) (ty (Blk.far H3.out (p := ⟨w.heap.size, 0, none⟩) (by simp) _) (by decide) (ty H1.out (by decide) h2'))
  case stop =>
    rintro D c V hD ⟨rfl, p, e, h0, h1, h3, h4, h6⟩ hK
    refine wpIn_wide.2 ?_
    have H0 := Lib.hid h0
    have H1 := Lib.hid h1
    have H3 := Lib.hid h3
    have H4 := Lib.hid h4
    have H6 := Lib.hid h6
    have HKD := Lib.hid hK
    have HSZ := Lib.hid hsz
    have HDD := Lib.hid hD
    clear h0 h1 h3 h4 h6 hK hsz hD b0 b1 b2 b3 bb
    go_wp2
    have B1 := blk_putObj (o := .deferred none) HKD.out H1.out
    have B3 := blk_putObj (o := .deferred none) HKD.out H3.out
    have B4 := blk_putObj (o := .deferred none) HKD.out H4.out
    have q1 := B1.cell 0
    have q3 := B3.cell 0
    have q4 := B4.cell 0
    simp at q1 q3 q4
    refine ret_mark HKD.out (v := .tuple #[.slice none 0 0, .int .i64 p, .int .i64 e]) (by simp [results, Tryd.results13, go_sem, q1, q3, q4]) ?_
    exact ⟨below_putObj H6.out (by have := HSZ.out; have := HDD.out; omega), by rw [H0.out]⟩
end Go.Proofs.YthnaiiejjdmnaaaDoor
