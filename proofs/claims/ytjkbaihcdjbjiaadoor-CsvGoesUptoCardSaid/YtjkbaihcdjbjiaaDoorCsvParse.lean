/- Layer 21 (csv): Rows and Parse. -/
import Derived.Test.YtjkbaihcdjbjiaaDoorCsvRows
import Derived.Maps.AppendAt
namespace Go.Proofs.YtjkbaihcdjbjiaaDoor
open Go.RowKit
attribute [local go_sem] Oper.semAt_some

set_option maxHeartbeats 1000000 in
theorem rows_any (s : ByteArray) (w : World) :
    Calls Tryd.prog 17 #[.string s] w fun e w' => e = .returned (.func (.func 25) #[] #[.pointer (some ⟨w.heap.size, 0, none⟩)]) ∧ w.alloc (.cells #[.string s] 9) = w' := by
  go_enter Tryd.func17, Tryd.ntmps17
  go_wp2
  go_ret
  exact ⟨rfl, rfl⟩

/-- rows in memory of the call's own: each its own array -/
def OwnRows (w : World) (B : Nat) (v : Value) (rows : List (List Csv.F)) : Prop :=
  ∃ us : List Value, us.length = rows.length ∧ w.ownsRow B 40 1 v us.length us ∧ (∀ (k : Nat) u r, us[k]? = some u → rows[k]? = some r → w.ownsRow B 9 1 u r.length (r.map S)) ∧
    (∀ (i j : Nat) u u', i < j → us[i]? = some u → us[j]? = some u' → u.ownBlock = none ∨ u.ownBlock ≠ u'.ownBlock)

theorem OwnRows.nil (w : World) (B : Nat) : OwnRows w B (.slice none 0 0) [] := ⟨[], rfl, World.ownsRow_nil _ _ _ _, fun k u r h => by simp at h, fun i j u u' _ h => by simp at h⟩
theorem OwnRows.same1 {w w' : World} {B n₁ : Nat} {v : Value} {rows : List (List Csv.F)} (h : OwnRows w B v rows) (hs : Same1 57 n₁ w w') : OwnRows w' B v rows := by
  obtain ⟨us, h1, h2, h3, h4⟩ := h
  exact ⟨us, h1, hs.own h2 (by decide), fun k u r hu hr => hs.own (h3 k u r hu hr) (by decide), h4⟩

theorem OwnRows.snoc {w : World} {B : Nat} {v u : Value} {us : List Value} {rows : List (List Csv.F)} {fs : List Csv.F} (h1 : us.length = rows.length) (h2 : w.ownsRow B 40 1 v (us.length + 1) (us ++ [u]))
    (h3 : ∀ (k : Nat) u r, us[k]? = some u → rows[k]? = some r → w.ownsRow B 9 1 u r.length (r.map S)) (hu : w.ownsRow B 9 1 u fs.length (fs.map S))
    (h4 : ∀ (i j : Nat) u u', i < j → us[i]? = some u → us[j]? = some u' → u.ownBlock = none ∨ u.ownBlock ≠ u'.ownBlock) (h5 : ∀ (i : Nat) x, us[i]? = some x → x.ownBlock = none ∨ x.ownBlock ≠ u.ownBlock) : OwnRows w B v (rows ++ [fs]) := by
  refine ⟨us ++ [u], by simp [h1], by simpa using h2, fun k x r hx hr => ?_, fun i j x x' hij hx hx' => ?_⟩
  · by_cases hk : k < us.length
    · rw [List.getElem?_append_left hk] at hx
      rw [List.getElem?_append_left (by omega)] at hr
      exact h3 k x r hx hr
    · rw [List.getElem?_append_right (by omega)] at hx
      rw [List.getElem?_append_right (by omega)] at hr
      have hk0 : k - us.length = 0 := by
        have := (List.getElem?_eq_some_iff.1 hx).1
        simpa using this
      rw [← h1, hk0] at hr
      rw [hk0] at hx
      simp at hx hr
      subst hx hr
      exact hu
  · by_cases hj : j < us.length
    · rw [List.getElem?_append_left (by omega)] at hx
      rw [List.getElem?_append_left hj] at hx'
      exact h4 i j x x' hij hx hx'
    · rw [List.getElem?_append_right (by omega)] at hx'
      have hj0 : j - us.length = 0 := by
        have := (List.getElem?_eq_some_iff.1 hx').1
        simpa using this
      rw [hj0] at hx'
      simp at hx'
      subst hx'
      rw [List.getElem?_append_left (by omega)] at hx
      exact h5 i x hx

theorem info_strings : (Tryd.prog.info? 40).map (fun i => (i.zero, i.size, i.bytes)) = some (some (.slice none 0 0), 1, 24) := by kernel_rfl

/-- how Parse ends -/
def ParseRes (l : Csv.F) (w : World) (e : Ending) (w' : World) : Prop :=
  ∃ v, e = .returned (.tuple #[v, .int .i64 (Csv.rowsOf l).2]) ∧ Below w.heap.size w w' ∧ (if (Csv.rowsOf l).2 = 0 then OwnRows w' w.heap.size v (Csv.rowsOf l).1 else v = .slice none 0 0)

set_option maxHeartbeats 8000000 in
set_option maxRecDepth 100000 in
theorem parse_any (s : ByteArray) (hs : s.size ≤ 16777216) (w : World) :
    Calls Tryd.prog 15 #[.string s] w (ParseRes s.data.toList w) := by
  obtain ⟨i0, hi, hz0, hz1, hz2⟩ := info_parts info_strings
  refine calls_of_wp_marks Tryd.func15 rfl ?_
  simp only [Tryd.ntmps15, List.size_toArray, List.length_cons, List.length_nil, Nat.reduceAdd, Nat.reduceSub, Array.replicate_succ, Array.replicate_zero, List.push_toArray, List.append_toArray, List.nil_append, List.cons_append]
  go_wp2_with (go_at_call 17; refine (rows_any _ _).mono ?_; rintro e w' ⟨rfl, rfl⟩)
  obtain ⟨W, hW⟩ : ∃ W, ((w.alloc (.cells #[.slice none 0 0] 22)).alloc (.cells #[.int .i64 0] 25)).alloc (.cells #[.string s] 9) = W := ⟨_, rfl⟩
  have hsz : W.heap.size = w.heap.size + 3 := by rw [← hW]; simp
  have b0 : Blk W w.heap.size 22 #[.slice none 0 0] := by rw [← hW]; exact ((Blk.new _ _ _).alloc _).alloc _
  have b1 : Blk W (w.heap.size + 1) 25 #[.int .i64 0] := by rw [← hW]; have := ((Blk.new (w.alloc (.cells #[.slice none 0 0] 22)) 25 #[.int .i64 0]).alloc (.cells #[.string s] 9)); simpa using this
  have b2 : Blk W (w.heap.size + 2) 9 #[.string s] := by rw [← hW]; have := (Blk.new ((w.alloc (.cells #[.slice none 0 0] 22)).alloc (.cells #[.int .i64 0] 25)) 9 #[.string s]); simpa using this
  have bb : Below w.heap.size w W := by rw [← hW]; exact (((Below.refl _ w).alloc (Nat.le_refl _) _).alloc (by simp) _).alloc (by simp; omega) _
  rw [hW]
  clear hW
  refine (wpIn_wide (n := 9)).1 ?_
  refine wp_iter 57 (gf := 25) (lb := #[.pointer (some ⟨w.heap.size + 2, 0, none⟩)]) rfl (enters_of Tryd.func25 (by kernel_rfl) rfl) (encs := Yld.enc) (fun x => rfl) (Pre := Yld.Pre) ?hPre
    (fun W1 hb hn => rows_iter s (by omega) W.heap.size (w.heap.size + 2) (by omega) W1 hn ((hb.cell (p := ⟨w.heap.size + 2, 0, none⟩) (by show w.heap.size + 2 < _; omega)).trans (b2.cell 0)))
    (fun pre V => (∃ vo, Blk V w.heap.size 22 #[vo] ∧ OwnRows V w.heap.size vo (pre.map (·.fs))) ∧ Blk V (w.heap.size + 1) 25 #[.int .i64 0] ∧ Blk V (w.heap.size + 2) 9 #[.string s] ∧ Below w.heap.size w V ∧ (∀ y ∈ pre, y.e = 0))
    (fun c V => c = .ret ∧ (Csv.rowsOf s.data.toList).2 ≠ 0 ∧ Blk V w.heap.size 22 #[.slice none 0 0] ∧ Blk V (w.heap.size + 1) 25 #[.int .i64 (Csv.rowsOf s.data.toList).2] ∧ Below w.heap.size w V)
    ?hI ?hIx ?hAux ⟨⟨_, b0, OwnRows.nil _ _⟩, b1, b2, bb, by simp⟩
    (fun x => { tmps := #[.string s, undef, .pointer (some ⟨w.heap.size, 0, none⟩), .pointer (some ⟨w.heap.size + 1, 0, none⟩), x.v, .int .i64 x.e, .string s, .func (.func 25) #[] #[.pointer (some ⟨w.heap.size + 1 + 1, 0, none⟩)], x.v, .int .i64 x.e, undef, undef, undef, undef, undef, undef, undef, undef], defers := [] }) ?assign ?body ?done ?stop
  case hPre =>
    intro x W0 W l r r' h hl
    unfold Yld.Pre at h ⊢
    split
    · rename_i h0
      rw [if_pos h0] at h
      exact (Same1.putObj (T := 0) (n₁ := 0) r' hl (by omega)).own h (by decide)
    · rename_i h0
      rw [if_neg h0] at h
      exact h
  case hI =>
    rintro pre A B ⟨⟨vo, h1, h2⟩, h3, h4, h5, h6⟩ hs
    exact ⟨⟨vo, hs.blk h1 (by decide), h2.same1 hs⟩, hs.blk h3 (by decide), hs.blk h4 (by decide), h5.trans (hs.below (by omega) h5.size), h6⟩
  case hIx =>
    rintro c A B ⟨hc, h0, h1, h3, h5⟩ hs
    exact ⟨hc, h0, hs.blk h1 (by decide), hs.blk h3 (by decide), h5.trans (hs.below (by omega) h5.size)⟩
  case hAux =>
    rintro pre V ⟨_, _, h4, _⟩
    exact h4.cell 0
  case assign =>
    intro l x V K hK
    simp only [Yld.enc]
    gi_wp2
    exact hK
  case body =>
    rintro l pre x W0 V ⟨⟨vo, h1, h2⟩, h3, h4, h5, h6⟩ hs hpre hstep hl hn0
    have g1 := hs.blk h1 (show 22 ≠ 57 by decide)
    have g3 := hs.blk h3 (show 25 ≠ 57 by decide)
    have g4 := hs.blk h4 (show 9 ≠ 57 by decide)
    have g2 := h2.same1 hs
    have g5 := h5.trans (hs.below (by omega) h5.size)
    have c1 := g1.cell 0
    have f1 := g1.frozen 0
    have c3 := g3.cell 0
    have f3 := g3.frozen 0
    simp at c1 c3
    obtain ⟨v, fs, e⟩ := x
    by_cases he : e = 0
    · subst he
      unfold Yld.Pre at hpre
      rw [if_pos rfl] at hpre
      dsimp only at hpre
      clear g2
      obtain ⟨us, hu1, hu2w, hu3w, hu4⟩ := h2
      have hu2 := hs.own hu2w (show 40 ≠ 57 by decide)
      have hu3 : ∀ (k : Nat) u r, us[k]? = some u → (pre.map (·.fs))[k]? = some r → V.ownsRow w.heap.size 9 1 u r.length (r.map S) := fun k u r hu hr => hs.own (hu3w k u r hu hr) (by decide)
      have hux : ∀ (i : Nat) x, us[i]? = some x → ∀ g, x.ownBlock = some g → g < W0.heap.size := fun i x hx g hg => by
        have hi : i < us.length := (List.getElem?_eq_some_iff.1 hx).1
        have hr : (pre.map (·.fs))[i]? = some ((pre.map (·.fs))[i]'(by omega)) := List.getElem?_eq_getElem (by omega)
        exact ((hu3w i x _ hx hr).lt g hg).2
      have HUX := Lib.hid hux
      clear hux hu2w hu3w
      obtain ⟨Av, cv, rfl⟩ := own_form hpre
      obtain ⟨Ao, co, rfl⟩ := own_form hu2
      have HS := Lib.hid hstep
      have HG1 := Lib.hid g1
      have HG3 := Lib.hid g3
      have HG4 := Lib.hid g4
      have HG5 := Lib.hid g5
      have HW := Lib.hid hsz
      have HU2 := Lib.hid hu2
      have HU3 := Lib.hid hu3
      have HU4 := Lib.hid hu4
      have HU1 := Lib.hid hu1
      have HP := Lib.hid hpre
      have H6 := Lib.hid h6
      have HSZ0 : w.heap.size ≤ W0.heap.size := h5.size
      have hub : us.length ≤ 16777216 := by
        have h8 := hstep.2.1
        have h9 := Csv.rowsOf_length s.data.toList
        have h10 := Lib.size_eq s
        rw [hu1, List.length_map]
        omega
      clear hstep g1 g3 g4 h1 h3 h4 h5 h6 g5 hsz hu2 hu3 hu4 hpre hu1
      gi_wp2_with (gi_at_builtin; refine wpListIn_append_own _ rfl _ _ 22 rfl w.heap.size 40 i0 (.slice none 0 0) 1 24 Tryd.underlying22 hi hz0 hz1 hz2 rfl (by decide) _ _ _ rfl (World.ownsRow.alloc HU2.out _) ⟨V.heap.size, 0, none⟩ 1 1 [.slice Av fs.length cv] rfl rfl ?c1 ?c2 ?c3 ?c4 ?c5 ?_)
      case c1 => exact cell_one_new _ _ _
      case c2 => simp [Value.oneCell']
      case c3 => unfold maxLen; omega
      case c4 => omega
      case c5 => have := HG5.out.size; simp; omega
      intro v' V2 hown' hgrow _
      obtain ⟨g', cap', rfl⟩ := ownsRow_succ hown'
      have hnb : ∀ i, (Value.slice Ao us.length co).ownBlock = some i → w.heap.size ≤ i ∧ ∃ c fz, V.heap[i]? = some (.cells c 40 fz) := fun i e => by
        refine ⟨(World.ownsRow.lt HU2.out i e).1, ?_⟩
        rcases HU2.out.2 with ⟨h, _⟩ | ⟨g, cap, cur, h, _, hh, _⟩
        · rw [h] at e; simp [Value.ownBlock] at e
        · rw [h] at e
          simp [Value.ownBlock] at e
          subst e
          exact ⟨_, _, hh⟩
      have hne : ∀ (i b : Nat) (t : TypeId) (c : Array Value), (Value.slice Ao us.length co).ownBlock = some i → Blk V b t c → t ≠ 40 → i ≠ b := fun i b t c e hb ht hib => by
        subst hib
        obtain ⟨_, c', fz, hc⟩ := hnb i e
        unfold Blk at hb
        rw [hc] at hb
        cases hb
        exact ht rfl
      have k1 : Blk V2 w.heap.size 22 #[.slice Ao us.length co] := Blk.grown (Blk.alloc HG1.out _) hgrow (fun e => hne _ _ _ _ e.symm HG1.out (by decide) rfl)
      have k3 : Blk V2 (w.heap.size + 1) 25 #[.int .i64 0] := Blk.grown (Blk.alloc HG3.out _) hgrow (fun e => hne _ _ _ _ e.symm HG3.out (by decide) rfl)
      have k4 : Blk V2 (w.heap.size + 2) 9 #[.string s] := Blk.grown (Blk.alloc HG4.out _) hgrow (fun e => hne _ _ _ _ e.symm HG4.out (by decide) rfl)
      have k5 : Below w.heap.size w V2 := (HG5.out.alloc HG5.out.size _).grown hgrow (by have := HG5.out.size; simp; omega) (fun k e => (hnb k e).1)
      have c2 := k1.cell 0
      have f2 := k1.frozen 0
      simp at c2
      have HK1 := Lib.hid k1
      have HK3 := Lib.hid k3
      have HK4 := Lib.hid k4
      have HK5 := Lib.hid k5
      have HNE := Lib.hid hne
      have HNB := Lib.hid hnb
      have HOW := Lib.hid hown'
      have HGR := Lib.hid hgrow
      clear k1 k3 k4 k5 hne hnb hown' hgrow c1 f1 c3 f3
      gi_wp2
      have hset := grownBy_set V2 ⟨w.heap.size, 0, none⟩ (.slice (some ⟨g', 0, none⟩) (us.length + 1) cap')
      have hboxty : ∀ g c t fz, some (⟨w.heap.size, 0, none⟩ : Addr).block = some g → V2.heap[g]? = some (.cells c t fz) → t = 22 := fun g c t fz e hc => by
        cases e
        have := HK1.out
        unfold Blk at this
        rw [show V2.heap[w.heap.size]? = some (.cells c t fz) from hc] at this
        cases this
        rfl
      have hrowty : ∀ g c t fz, (Value.slice Ao us.length co).ownBlock = some g → (V.alloc (.cells #[.slice Av fs.length cv] 40)).heap[g]? = some (.cells c t fz) → t = 40 := fun g c t fz e hc => by
        obtain ⟨_, c', fz', hc'⟩ := HNB.out g e
        rw [Below.heap_alloc _ _ _ (Array.getElem?_eq_some_iff.1 hc').1, hc'] at hc
        cases hc
        rfl
      have inner : ∀ {u : Value} {r : List Csv.F} {B : Nat}, V.ownsRow B 9 1 u r.length (r.map S) → (V2.setCell ⟨w.heap.size, 0, none⟩ (.slice (some ⟨g', 0, none⟩) (us.length + 1) cap')).ownsRow B 9 1 u r.length (r.map S) := fun h =>
        own_kept_ty (own_kept_ty (World.ownsRow.alloc h _) HGR.out (fun g c t fz e hc => by rw [hrowty g c t fz e hc]; decide)) hset (fun g c t fz e hc => by rw [hboxty g c t fz e hc]; decide)
      refine ⟨((KeepsOthers.alloc _ _).from _).trans (((KeepsOthers.of_grownBy HGR.out (fun j o e ho => ?_)).from _).trans ((KeepsOthers.setCell _ _ _).from _)), ?_, ⟨_, Blk.set_ HK1.out 0 _, ?_⟩, Blk.far HK3.out (by simp) _, Blk.far HK4.out (by simp) _, HK5.out.setCell (p := ⟨w.heap.size, 0, none⟩) (Nat.le_refl _) _, ?_⟩
      · obtain ⟨_, c', fz', hc'⟩ := HNB.out j e
        rw [Below.heap_alloc _ _ _ (Array.getElem?_eq_some_iff.1 hc').1, hc'] at ho
        cases ho
        rfl
      · refine (KeepT.of_grown (World.grownBy_alloc _ _ none) (fun g c fz e => by cases e)).trans ((KeepT.of_grown HGR.out (fun g c fz e hc => ?_)).trans (KeepT.of_grown hset (fun g c fz e hc => ?_)))
        · exact absurd (hrowty g c _ fz e hc) (by decide)
        · exact absurd (hboxty g c _ fz e hc) (by decide)
      · rw [List.map_append]
        refine OwnRows.snoc HU1.out (own_kept_ty HOW.out hset (fun g c t fz e hc => by rw [hboxty g c t fz e hc]; decide)) (fun k u r hu hr => inner (HU3.out k u r hu hr)) (own_base (inner HP.out) HSZ0) HU4.out (fun i x hx => ?_)
        cases hxb : x.ownBlock with
        | none => exact .inl rfl
        | some g =>
          refine .inr (fun e => ?_)
          have h8 := HUX.out i x hx g hxb
          have h9 := (own_blocks HP.out g e.symm).1
          omega
      · intro y hy
        rcases List.mem_append.1 hy with h | h
        · exact H6.out y h
        · rw [List.mem_singleton.1 h]
    · have heb : ((e : Int) != 0) = true := by rw [bne_iff_ne]; omega
      unfold Yld.Pre at hpre
      rw [if_neg he] at hpre
      obtain ⟨rfl, rfl⟩ := hpre
      have HS := Lib.hid hstep
      have HG1 := Lib.hid g1
      have HG3 := Lib.hid g3
      have HG5 := Lib.hid g5
      have HW := Lib.hid hsz
      clear hstep g1 g2 g3 g4 h1 h2 h3 h4 h5 h6 g5 hsz
      gi_wp2
      have h9 : (Csv.rowsOf s.data.toList).2 = e := by
        have := HS.out.2.2.2
        rw [if_neg he] at this
        exact this.2
      refine ⟨((KeepsOthers.setCell _ _ _).from _).trans ((KeepsOthers.setCell _ _ _).from _), rfl, by rw [h9]; exact he, ?_, ?_, ?_⟩
      · exact Blk.far (Blk.set_ HG1.out 0 _) (by simp) _
      · rw [h9]
        exact Blk.set_ (Blk.far HG3.out (by simp) _) 0 _
      · exact ((HG5.out).setCell (p := ⟨w.heap.size, 0, none⟩) (Nat.le_refl _) _).setCell (p := ⟨w.heap.size + 1, 0, none⟩) (by simp) _
  case done =>
    rintro D xs V hD hend ⟨⟨vo, h1, h2⟩, h3, h4, h5, h6⟩ hK
    have hdone : (Csv.rowsOf s.data.toList).2 = 0 ∧ xs.map (·.fs) = (Csv.rowsOf s.data.toList).1 := by
      rcases hend with ⟨q1, _, q3⟩ | ⟨q, x, rfl, hx, _⟩
      · exact ⟨q1, q3⟩
      · exact absurd (h6 x (by simp)) hx
    have h2' := h2
    obtain ⟨us, hu1, hu2, hu3, hu4⟩ := h2
    obtain ⟨Ao, co, rfl⟩ := own_form hu2
    have c1 := h1.cell 0
    have f1 := h1.frozen 0
    have c3 := h3.cell 0
    have f3 := h3.frozen 0
    simp at c1 c3
    have HD := Lib.hid hdone
    have H1 := Lib.hid h1
    have H2 := Lib.hid h2'
    have H3 := Lib.hid h3
    have H5 := Lib.hid h5
    have HKD := Lib.hid hK
    have HSZ := Lib.hid hsz
    clear hdone h1 h3 h4 h5 h6 hend hK hu1 hu2 hu3 hu4 h2' hsz
    go_wp2
    have n0 : D ≠ w.heap.size := by have := HSZ.out; omega
    have n1 : D ≠ w.heap.size + 1 := by have := HSZ.out; omega
    have hK2 : ((V.setCell ⟨w.heap.size, 0, none⟩ (.slice Ao us.length co)).setCell ⟨w.heap.size + 1, 0, none⟩ (.int .i64 0)).heap[D]? = some (.deferred (some [])) := by
      rw [Below.heap_setCell _ _ _ _ n1, Below.heap_setCell _ _ _ _ n0]
      exact HKD.out
    have B1 := blk_putObj (o := .deferred none) hK2 (Blk.far (Blk.set_ H1.out 0 (.slice Ao us.length co)) (p := ⟨w.heap.size + 1, 0, none⟩) (by simp) (.int .i64 0))
    have B3 := blk_putObj (o := .deferred none) hK2 (Blk.set_ (Blk.far H3.out (p := ⟨w.heap.size, 0, none⟩) (by simp) (.slice Ao us.length co)) 0 (.int .i64 0))
    have q1 := B1.cell 0
    have q3 := B3.cell 0
    simp at q1 q3
    refine ret_mark hK2 (v := .tuple #[.slice Ao us.length co, .int .i64 0]) (by simp [results, Tryd.results15, go_sem, q1, q3]) ?_
    have keep : ∀ {e n : Nat} {v : Value} {xs : List Value}, e ≠ 22 → e ≠ 25 → V.ownsRow w.heap.size e 1 v n xs → (((V.setCell ⟨w.heap.size, 0, none⟩ (.slice Ao us.length co)).setCell ⟨w.heap.size + 1, 0, none⟩ (.int .i64 0)).putObj D (.deferred none)).ownsRow w.heap.size e 1 v n xs := fun he1 he2 h =>
      own_putObj hK2 (own_kept_ty (own_kept_ty h (grownBy_set _ _ _) (fun g c t fz e hc => by
        cases e
        have := H1.out
        unfold Blk at this
        rw [show V.heap[w.heap.size]? = some (.cells c t fz) from hc] at this
        cases this
        exact Ne.symm he1)) (grownBy_set _ _ _) (fun g c t fz e hc => by
        cases e
        have := Blk.far H3.out (p := ⟨w.heap.size, 0, none⟩) (by simp) (.slice Ao us.length co)
        unfold Blk at this
        rw [show (V.setCell ⟨w.heap.size, 0, none⟩ (.slice Ao us.length co)).heap[w.heap.size + 1]? = some (.cells c t fz) from hc] at this
        cases this
        exact Ne.symm he2))
    obtain ⟨us', p1, p2, p3, p4⟩ := H2.out
    refine ⟨_, by rw [HD.out.1]; rfl, below_putObj ((H5.out.setCell (p := ⟨w.heap.size, 0, none⟩) (Nat.le_refl _) _).setCell (p := ⟨w.heap.size + 1, 0, none⟩) (by simp) _) (by have := HSZ.out; omega), ?_⟩
    rw [if_pos HD.out.1, ← HD.out.2]
    exact ⟨us', p1, keep (by decide) (by decide) p2, fun k u r hu hr => keep (by decide) (by decide) (p3 k u r hu hr), p4⟩
  case stop =>
    rintro D c V hD ⟨rfl, h0, h1, h3, h5⟩ hK
    refine wpIn_wide.2 ?_
    have H1 := Lib.hid h1
    have H3 := Lib.hid h3
    have H5 := Lib.hid h5
    have HKD := Lib.hid hK
    have H0 := Lib.hid h0
    have HSZ := Lib.hid hsz
    clear h0 h1 h3 h5 hK hsz
    go_wp2
    have B1 := blk_putObj (o := .deferred none) HKD.out H1.out
    have B3 := blk_putObj (o := .deferred none) HKD.out H3.out
    have q1 := B1.cell 0
    have q3 := B3.cell 0
    simp at q1 q3
    refine ret_mark HKD.out (v := .tuple #[.slice none 0 0, .int .i64 (Csv.rowsOf s.data.toList).2]) (by simp [results, Tryd.results15, go_sem, q1, q3]) ?_
    exact ⟨_, rfl, below_putObj H5.out (by have := HSZ.out; omega), by rw [if_neg H0.out]⟩
end Go.Proofs.YtjkbaihcdjbjiaaDoor
