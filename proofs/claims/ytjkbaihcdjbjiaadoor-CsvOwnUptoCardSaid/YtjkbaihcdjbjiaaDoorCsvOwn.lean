/- Layer 21 (csv): CsvOwn: rows are told in new memory. -/
import Derived.Test.YtjkbaihcdjbjiaaDoorCsvLaws
namespace Go.Proofs.YtjkbaihcdjbjiaaDoor
open Go.RowKit

/-- the rows that the law turns: each its own array; what has been made between 'lo' and W4 stands as it did -/
structure AS (w W4 : World) (lo : Nat) (v : Value) (us : List Value) (cs : List (List Csv.F)) (W : World) : Prop where
  len : us.length = cs.length
  own : W.ownsRow w.heap.size 40 1 v us.length us
  inner : ∀ (k : Nat) u c, us[k]? = some u → cs[k]? = some c → W.ownsRow w.heap.size 9 1 u c.length (c.map S)
  dist : ∀ (i j : Nat) u u', i < j → us[i]? = some u → us[j]? = some u' → u.ownBlock = none ∨ u.ownBlock ≠ u'.ownBlock
  outv : ∀ g, v.ownBlock = some g → g < lo ∨ W4.heap.size ≤ g
  outu : ∀ (k : Nat) u g, us[k]? = some u → u.ownBlock = some g → g < lo ∨ W4.heap.size ≤ g
  keep : ∀ j, lo ≤ j → j < W4.heap.size → W.heap[j]? = W4.heap[j]?
  below : Below w.heap.size w W
  size : W4.heap.size ≤ W.heap.size

section
variable {w W4 W : World} {lo : Nat} {v : Value} {us : List Value} {cs : List (List Csv.F)}

theorem AS.keepGrown (h : AS w W4 lo v us cs W) {W' : World} {row : Option Nat} (hg : W.grownBy W' row) (ho : ∀ g, row = some g → g < lo ∨ W4.heap.size ≤ g) : ∀ j, lo ≤ j → j < W4.heap.size → W'.heap[j]? = W4.heap[j]? := fun j h1 h2 => by
  have hj : j < W.heap.size := Nat.lt_of_lt_of_le h2 h.size
  rw [hg.block j hj (fun e => by have := ho j e.symm; omega), h.keep j h1 h2]

theorem AS.setElem (h : AS w W4 lo v us cs W) {i g n cap : Nat} {c : List Csv.F} (hu : us[i]? = some (.slice (some ⟨g, 0, none⟩) n cap)) (hc : cs[i]? = some c) (k : Nat) (x : Csv.F) :
    AS w W4 lo v us (cs.set i (c.set k x)) (W.setCell ⟨g, k, none⟩ (S x)) := by
  have hown := h.inner i _ c hu hc
  obtain ⟨A, cc, e⟩ := own_form hown
  obtain ⟨rfl, rfl, rfl⟩ : some ⟨g, 0, none⟩ = A ∧ n = c.length ∧ cap = cc := by injection e with e1 e2 e3; exact ⟨e1, e2, e3⟩
  obtain ⟨hst, hg⟩ := hown.stored k (S x)
  have hic : i < cs.length := (List.getElem?_eq_some_iff.1 hc).1
  have hbg : w.heap.size ≤ g := (own_blocks hown g rfl).1
  refine ⟨by simp [h.len], own_grown_ty h.own (x := .slice (some ⟨g, 0, none⟩) c.length cap) hg hown (by decide), fun k' u c' hu' hc' => ?_, h.dist, h.outv, h.outu, h.keepGrown hg (fun g' e => by cases e; exact h.outu i _ g hu rfl), ?_, by simpa using h.size⟩
  · by_cases hk : k' = i
    · subst hk
      rw [hu] at hu'
      cases hu'
      rw [List.getElem?_set_self hic] at hc'
      cases hc'
      rw [List.map_set, List.length_set]
      exact hst
    · rw [List.getElem?_set_ne (fun e => hk e.symm)] at hc'
      refine (h.inner k' u c' hu' hc').kept hg ?_
      rcases Nat.lt_or_ge k' i with hlt | hge
      · rcases h.dist k' i u _ hlt hu' hu with e | e
        · exact .inl e
        · exact .inr e
      · rcases h.dist i k' _ u (by omega) hu hu' with e | e
        · cases e
        · exact .inr (fun e2 => e e2.symm)
  · exact h.below.grown hg h.below.size (fun j e => by cases e; exact hbg)

theorem AS.setRow (h : AS w W4 lo v us cs W) {i ga n cap : Nat} (hv : v = .slice (some ⟨ga, 0, none⟩) n cap) {u u' : Value} {c c' : List Csv.F} (hu : us[i]? = some u) (hc : cs[i]? = some c) {W' : World}
    (hg : W.grownBy W' u.ownBlock) (ho : W'.ownsRow w.heap.size 9 1 u' c'.length (c'.map S)) (hn : u'.ownBlock = u.ownBlock ∨ ∃ g, u'.ownBlock = some g ∧ W.heap.size ≤ g) :
    AS w W4 lo v (us.set i u') (cs.set i c') (W'.setCell ⟨ga, i, none⟩ u') := by
  have hown := h.inner i _ c hu hc
  have hiu : i < us.length := (List.getElem?_eq_some_iff.1 hu).1
  have hic : i < cs.length := (List.getElem?_eq_some_iff.1 hc).1
  have hv' : W'.ownsRow w.heap.size 40 1 v us.length us := own_grown_ty h.own hg hown (by decide)
  subst hv
  obtain ⟨A, cc, e⟩ := own_form hv'
  obtain ⟨rfl, rfl⟩ : n = us.length ∧ cap = cc := by injection e with e1 e2 e3; exact ⟨e2, e3⟩
  obtain ⟨hst, hg2⟩ := hv'.stored i u'
  have hs1 : W.heap.size ≤ W'.heap.size := hg.size
  have hnew : ∀ g, u'.ownBlock = some g → g < lo ∨ W4.heap.size ≤ g := fun g e => by
    rcases hn with e2 | ⟨g', e2, hge⟩
    · rw [e2] at e; exact h.outu i u g hu e
    · rw [e2] at e; cases e; exact .inr (Nat.le_trans h.size hge)
  have far : ∀ (k : Nat) x, k ≠ i → us[k]? = some x → x.ownBlock = none ∨ x.ownBlock ≠ u.ownBlock := fun k x hk hx => by
    rcases Nat.lt_or_ge k i with hlt | hge
    · exact h.dist k i x u hlt hx hu
    · rcases h.dist i k u x (by omega) hu hx with e | e
      · cases hxb : x.ownBlock with
        | none => exact .inl rfl
        | some g => exact .inr (by rw [e]; simp)
      · exact .inr (fun e2 => e e2.symm)
  have far' : ∀ (k : Nat) x, k ≠ i → us[k]? = some x → x.ownBlock = none ∨ x.ownBlock ≠ u'.ownBlock := fun k x hk hx => by
    rcases hn with e2 | ⟨g', e2, hge⟩
    · rw [e2]; exact far k x hk hx
    · cases hxb : x.ownBlock with
      | none => exact .inl rfl
      | some g =>
        refine .inr (fun e3 => ?_)
        rw [e2] at e3
        obtain rfl : g = g' := by simpa using e3
        have hk' : k < us.length := (List.getElem?_eq_some_iff.1 hx).1
        have := ((h.inner k x _ hx (List.getElem?_eq_getElem (by rw [← h.len]; exact hk'))).lt g hxb).2
        omega
  have hin : ∀ (k : Nat) x c2, (us.set i u')[k]? = some x → (cs.set i c')[k]? = some c2 → W'.ownsRow w.heap.size 9 1 x c2.length (c2.map S) := fun k x c2 hx hc2 => by
    by_cases hk : k = i
    · subst hk
      rw [List.getElem?_set_self hiu] at hx
      rw [List.getElem?_set_self hic] at hc2
      cases hx
      cases hc2
      exact ho
    · rw [List.getElem?_set_ne (fun e => hk e.symm)] at hx hc2
      exact (h.inner k x c2 hx hc2).kept hg (far k x hk hx)
  have hga : w.heap.size ≤ ga := (own_blocks hv' ga rfl).1
  have hb' : Below w.heap.size w W' := h.below.grown hg h.below.size (fun j e => (own_blocks hown j e).1)
  refine ⟨by simp [h.len], by rw [List.length_set]; exact hst, fun k x c2 hx hc2 => own_grown_ty (hin k x c2 hx hc2) (x := .slice (some ⟨ga, 0, none⟩) us.length cap) hg2 hv' (by decide), fun k j x x' hkj hx hx' => ?_, h.outv, fun k x g hx e => ?_, fun j h1 h2 => ?_, hb'.grown hg2 hb'.size (fun j e => by cases e; exact hga), ?_⟩
  · by_cases hk : k = i
    · subst hk
      rw [List.getElem?_set_self hiu] at hx
      cases hx
      rw [List.getElem?_set_ne (by omega)] at hx'
      rcases far' j x' (by omega) hx' with e | e
      · cases hxb : u'.ownBlock with
        | none => exact .inl rfl
        | some g => exact .inr (by rw [e]; simp)
      · exact .inr (fun e2 => e e2.symm)
    · rw [List.getElem?_set_ne (fun e => hk e.symm)] at hx
      by_cases hj : j = i
      · subst hj
        rw [List.getElem?_set_self hiu] at hx'
        cases hx'
        exact far' k x hk hx
      · rw [List.getElem?_set_ne (fun e => hj e.symm)] at hx'
        exact h.dist k j x x' hkj hx hx'
  · by_cases hk : k = i
    · subst hk
      rw [List.getElem?_set_self hiu] at hx
      cases hx
      exact hnew g e
    · rw [List.getElem?_set_ne (fun e => hk e.symm)] at hx
      exact h.outu k x g hx e
  · have hj : j < W'.heap.size := Nat.lt_of_lt_of_le h2 (Nat.le_trans h.size hs1)
    rw [hg2.block j hj (fun e => by cases e; have := h.outv ga rfl; omega)]
    exact h.keepGrown hg (fun g e => h.outu i u g hu e) j h1 h2
  · simpa using Nat.le_trans h.size hs1
end

/-- rows made between 'lo' and W4 stand as they did -/
theorem OwnRows.stand {W4 W : World} {lo : Nat} (hkeep : ∀ j, lo ≤ j → j < W4.heap.size → W.heap[j]? = W4.heap[j]?) {b : Nat} {x : Value} {rows : List (List Csv.F)} (ho : OwnRows W4 b x rows) (hb : lo ≤ b) : OwnRows W b x rows := by
  obtain ⟨us', h1, h2, h3, h4⟩ := ho
  have key : ∀ {e n : Nat} {v : Value} {xs : List Value}, W4.ownsRow b e 1 v n xs → W.ownsRow b e 1 v n xs := fun h5 => by
    refine ⟨h5.1, ?_⟩
    rcases h5.2 with hn | ⟨g, cap, cur, hv, hg, hh, rest⟩
    · exact .inl hn
    · exact .inr ⟨g, cap, cur, hv, hg, by rw [hkeep g (by omega) (Array.getElem?_eq_some_iff.1 hh).1]; exact hh, rest⟩
  exact ⟨us', h1, key h2, fun k u r hu hr => key (h3 k u r hu hr), h4⟩

/-- what two rows of cells have alike while the law turns them -/
def Starred (r c : List Csv.F) (k : Nat) : Prop := ∀ m, m < k → m < r.length → c[m]? = some [42]

theorem starred_set {r c : List Csv.F} {j : Nat} (h : Starred r c j) (hj : j < c.length) : Starred r (c.set j [42]) (j + 1) := fun m hm hr => by
  by_cases e : m = j
  · subst e
    exact List.getElem?_set_self hj
  · rw [List.getElem?_set_ne (fun e2 => e e2.symm)]
    exact h m (by omega) hr
/-- the rows of which those ahead of k have grown by 16 at most, row k by j -/
def Grew (rows cs : List (List Csv.F)) (k j : Nat) : Prop :=
  ∀ (i : Nat) r c, rows[i]? = some r → cs[i]? = some c → r.length ≤ c.length ∧ c.length ≤ r.length + (if i < k then 16 else if i = k then j else 0) ∧ Starred r c r.length
theorem Grew.next {rows cs : List (List Csv.F)} {k : Nat} (h : Grew rows cs k 16) : Grew rows cs (k + 1) 0 := fun i r c hr hc => by
  obtain ⟨h1, h2, h3⟩ := h i r c hr hc
  refine ⟨h1, ?_, h3⟩
  split at h2
  · rw [if_pos (by omega)]; exact h2
  · split at h2
    · rw [if_pos (by omega)]; exact h2
    · rw [if_neg (by omega)]; split <;> exact h2
theorem Grew.push {rows cs : List (List Csv.F)} {k j : Nat} (h : Grew rows cs k j) {c : List Csv.F} (hc : cs[k]? = some c) (x : Csv.F) : Grew rows (cs.set k (c ++ [x])) k (j + 1) := fun i r c' hr hc' => by
  by_cases hik : i = k
  · subst hik
    rw [List.getElem?_set_self (List.getElem?_eq_some_iff.1 hc).1] at hc'
    cases hc'
    obtain ⟨h1, h2, h3⟩ := h i r c hr hc
    rw [if_neg (by omega), if_pos rfl] at h2 ⊢
    refine ⟨by simp; omega, by simp; omega, fun m hm hl => ?_⟩
    rw [List.getElem?_append_left (by omega)]
    exact h3 m hm hl
  · rw [List.getElem?_set_ne (fun e => hik e.symm)] at hc'
    obtain ⟨h1, h2, h3⟩ := h i r c' hr hc'
    rw [if_neg hik] at h2 ⊢
    exact ⟨h1, h2, h3⟩
theorem OwnRows.shape {w : World} {b : Nat} {v : Value} {rows : List (List Csv.F)} (h : OwnRows w b v rows) : ∃ A c, v = .slice A rows.length c := by
  obtain ⟨us, h1, h2, _⟩ := h
  rw [← h1]
  exact own_form h2
theorem AS.start {w w1 w2 w4 : World} {v : Value} {rows : List (List Csv.F)} (h0 : w.heap.size ≤ w1.heap.size) (h1 : Below w.heap.size w w4) (ho : OwnRows w2 w1.heap.size v rows) (hb : Below w2.heap.size w2 w4) :
    ∃ us, AS w w4 w2.heap.size v us rows w4 := by
  obtain ⟨us, a1, a2, a3, a4⟩ := ho
  have key : ∀ {e n : Nat} {x : Value} {xs : List Value}, w2.ownsRow w1.heap.size e 1 x n xs → w4.ownsRow w.heap.size e 1 x n xs := fun h => own_base (own_grown_none h (only_of_below hb none)) h0
  refine ⟨us, a1, key a2, fun k u c hu hc => key (a3 k u c hu hc), a4, fun g e => .inl (a2.lt g e).2, fun k u g hu e => ?_, fun j _ _ => rfl, h1, Nat.le_refl _⟩
  have hk := (List.getElem?_eq_some_iff.1 hu).1
  exact .inl ((a3 k u _ hu (List.getElem?_eq_getElem (by rw [← a1]; exact hk))).lt g e).2

theorem AS.place {w W4 W : World} {lo n c : Nat} {A : Option Addr} {us : List Value} {cs : List (List Csv.F)} (h : AS w W4 lo (.slice A n c) us cs W) {i : Nat} (hi : i < us.length) :
    ∃ ga, A = some ⟨ga, 0, none⟩ ∧ n = us.length ∧ W.cell? ⟨ga, i, none⟩ = some us[i] ∧ W.frozen? ⟨ga, i, none⟩ = false := by
  have ho := h.own
  rcases ho.2 with ⟨hv, hn⟩ | ⟨g, cap, cur, hv, _⟩
  · omega
  · injection hv with e1 e2 e3
    subst e1 e2 e3
    exact ⟨g, rfl, rfl, by rw [ho.cellAt i (by omega)]; exact List.getElem?_eq_getElem hi, ho.frozenAt i⟩
theorem own_place {W : World} {base e n n' c : Nat} {A : Option Addr} {us : List Value} (ho : W.ownsRow base e 1 (.slice A n c) n' us) {i : Nat} (hi : i < n') :
    ∃ ga, A = some ⟨ga, 0, none⟩ ∧ W.cell? ⟨ga, i, none⟩ = us[i]? ∧ W.frozen? ⟨ga, i, none⟩ = false := by
  rcases ho.2 with ⟨hv, hn⟩ | ⟨g, cap, cur, hv, _⟩
  · omega
  · injection hv with e1 e2 e3
    subst e1 e2 e3
    exact ⟨g, rfl, ho.cellAt i (by omega), ho.frozenAt i⟩
theorem AS.spot {w W4 W : World} {lo : Nat} {v u : Value} {us : List Value} {cs : List (List Csv.F)} {c : List Csv.F} (h : AS w W4 lo v us cs W) {i : Nat} (hu : us[i]? = some u) (hc : cs[i]? = some c) :
    ∃ A cap, u = .slice A c.length cap ∧ ∀ (k : Nat) x, c[k]? = some x → ∃ g, A = some ⟨g, 0, none⟩ ∧ W.cell? ⟨g, k, none⟩ = some (S x) ∧ W.frozen? ⟨g, k, none⟩ = false := by
  have ho := h.inner i u c hu hc
  obtain ⟨A, cap, rfl⟩ := own_form ho
  refine ⟨A, cap, rfl, fun k x hx => ?_⟩
  have hk := (List.getElem?_eq_some_iff.1 hx).1
  rcases ho.2 with ⟨hv, hn⟩ | ⟨g, cap', cur, hv, _⟩
  · omega
  · injection hv with e1 e2 e3
    subst e1 e3
    exact ⟨g, rfl, by rw [ho.cellAt k (by omega), List.getElem?_map, hx]; rfl, ho.frozenAt k⟩

set_option maxHeartbeats 8000000 in
set_option maxRecDepth 100000 in
theorem csvOwn_any (s : ByteArray) (w : World) (m : Int) (hm : w.cell? ⟨0, 0, none⟩ = some (.int .i64 m)) (hs : s.size ≤ 4194304) :
    Calls Tryd.prog 9 #[.string s] w fun e w' => e = .returned (.bool true) ∧ Below w.heap.size w w' := by
  have hw0 := cell0_lt hm
  have HC := Lib.hid hm
  have hl := Csv.rowsOf_length s.data.toList
  have hlr := rowsOf_rows_len s.data.toList
  rw [← Lib.size_eq] at hl hlr
  have hpa := fun wx => parse_any s (by omega) wx
  have hra := fun wx => refParse_any s (by omega) wx
  unfold ParseRes at hpa
  obtain ⟨R, hR⟩ : ∃ R, Csv.rowsOf s.data.toList = R := ⟨_, rfl⟩
  rw [hR] at hl hlr hpa hra
  obtain ⟨rows0, n0⟩ := R
  obtain ⟨rows, hrows⟩ : ∃ rows, (if n0 = 0 then rows0 else []) = rows := ⟨_, rfl⟩
  have hl' : rows.length ≤ s.size := by rw [← hrows]; split; exact hl; simp
  have HL : Hid (∀ r ∈ rows, r.length ≤ 16777216) := fun r hr => by
    rw [← hrows] at hr
    split at hr
    · have := hlr r hr; omega
    · cases hr
  have HPA : Hid (∀ wx : World, Calls Tryd.prog 15 #[.string s] wx fun e w' => ∃ v, e = .returned (.tuple #[v, .int .i64 n0]) ∧ Below wx.heap.size wx w' ∧ OwnRows w' wx.heap.size v rows) := fun wx =>
    (hpa wx).mono fun e w' ⟨v, h1, h2, h3⟩ => ⟨v, h1, h2, by
      rw [← hrows]
      by_cases hn : n0 = 0
      · rw [if_pos hn]
        simp only [hn, if_true] at h3
        exact h3
      · rw [if_neg hn]
        simp only [hn, if_false] at h3
        rw [h3]
        exact OwnRows.nil _ _⟩
  have HRA : Hid (∀ wx : World, Calls Tryd.prog 16 #[.string s] wx fun e w' => ∃ v, e = .returned (.tuple #[v, .int .i64 n0]) ∧ Below wx.heap.size wx w' ∧ OwnRows w' wx.heap.size v rows) := fun wx =>
    (hra wx).mono fun e w' ⟨v, h1, h2, h3⟩ => by
      rw [← hrows]
      by_cases hn : n0 = 0
      · rw [if_pos hn] at h1 h2 ⊢
        exact ⟨v, by rw [h1, hn], h3, h2⟩
      · rw [if_neg hn] at h1 h2 ⊢
        exact ⟨v, h1, h3, h2⟩
  clear hm hpa hra hlr hR hl hrows
  obtain ⟨n, hn⟩ : ∃ n, rows.length = n := ⟨_, rfl⟩
  rw [hn] at hl'
  have HN := Lib.hid hn
  clear hn
  go_enter Tryd.func9, Tryd.ntmps9
  go_wp2_with fail
  refine (speaks_any w m HC.out).mono ?_
  rintro e w1 ⟨rfl, hb1⟩
  have HB1 := Lib.hid hb1
  have hs1 := hb1.size
  clear hb1
  go_wp2_with fail
  refine (HPA.out _).mono ?_
  rintro e w2 ⟨v, rfl, hb, ho⟩
  have HB2 : Hid (Below w.heap.size w w2) := HB1.out.trans (hb.mono hs1)
  have hs2 := HB2.out.size
  have HO := Lib.hid ho
  obtain ⟨A, c, rfl⟩ : ∃ A c, v = .slice A n c := by rw [← HN.out]; exact ho.shape
  clear ho hb
  go_wp2_with fail
  refine (HPA.out _).mono ?_
  rintro e w3 ⟨vb, rfl, hb, ho⟩
  have HB3 : Hid (Below w.heap.size w w3) := HB2.out.trans (hb.mono hs2)
  have HB23 := Lib.hid hb
  have hs3 := HB3.out.size
  have hs23 := hb.size
  have HOB := Lib.hid ho
  obtain ⟨Ab, cb, rfl⟩ : ∃ A c, vb = .slice A n c := by rw [← HN.out]; exact ho.shape
  clear ho hb
  go_wp2_with fail
  refine (HRA.out _).mono ?_
  rintro e w4 ⟨vq, rfl, hb, ho⟩
  have HB4 : Hid (Below w.heap.size w w4) := HB3.out.trans (hb.mono hs3)
  have HB24 : Hid (Below w2.heap.size w2 w4) := HB23.out.trans (hb.mono hs23)
  have HB34 := Lib.hid hb
  have hs4 := HB4.out.size
  have hs34 := hb.size
  have HOQ := Lib.hid ho
  obtain ⟨Aq, cq, rfl⟩ : ∃ A c, vq = .slice A n c := by rw [← HN.out]; exact ho.shape
  clear ho hb
  have HOB4 : Hid (OwnRows w4 w2.heap.size (.slice Ab n cb) rows) := by
    obtain ⟨us', a1, a2, a3, a4⟩ := HOB.out
    exact ⟨us', a1, own_grown_none a2 (only_of_below HB34.out none), fun k u r hu hr => own_grown_none (a3 k u r hu hr) (only_of_below HB34.out none), a4⟩
  obtain ⟨us0, has0⟩ := AS.start hs1 HB4.out HO.out HB24.out
  have HAS0 := Lib.hid has0
  clear has0
  go_wp2
  go_loopg [34] n (fun g i W => ∃ (k : Nat) (cs : List (List Csv.F)), k + g = n ∧ i = .int .i64 k ∧ AS w w4 w2.heap.size (.slice A n c) us0 cs W ∧ cs.length = n ∧
    (∀ (j : Nat) r c, rows[j]? = some r → cs[j]? = some c → c.length = r.length ∧ (j < k → Starred r c r.length)))
  case atStart => exact ⟨0, rows, by omega, rfl, HAS0.out, HN.out, fun j r c hr hc => by rw [hr] at hc; cases hc; exact ⟨rfl, fun h => by omega⟩⟩
  case round =>
    obtain ⟨k, cs, hk, rfl, has, hcl, hpc⟩ := hrel
    have HK := Lib.hid hk
    have HA := Lib.hid has
    have HCL := Lib.hid hcl
    have HPC := Lib.hid hpc
    clear hk has hcl hpc
    cases gk with
    | zero =>
      obtain rfl : n = k := by have := HK.out; omega
      have hall : ∀ (j : Nat) r c, rows[j]? = some r → cs[j]? = some c → c.length = r.length ∧ Starred r c r.length := fun j r c hr hc =>
        ⟨(HPC.out j r c hr hc).1, (HPC.out j r c hr hc).2 (by have := (List.getElem?_eq_some_iff.1 hr).1; have := HN.out; omega)⟩
      have HALL := Lib.hid hall
      clear hall HPC
      go_wp2
      have hg0 : Grew rows cs 0 0 := fun i r c hr hc => by
        have := HALL.out i r c hr hc
        exact ⟨by omega, by omega, this.2⟩
      have HG0 := Lib.hid hg0
      clear hg0 HALL
      go_loopg [55] n (fun g i W => ∃ (k : Nat) (us : List Value) (cs : List (List Csv.F)), k + g = n ∧ i = .int .i64 k ∧ AS w w4 w2.heap.size (.slice A n c) us cs W ∧ cs.length = n ∧ Grew rows cs k 0)
      case atStart => exact ⟨0, us0, cs, by omega, rfl, HA.out, HCL.out, HG0.out⟩
      case round =>
        clear HA HCL HG0 HAS0
        obtain ⟨k, us, cs, hk, rfl, has, hcl, hgr⟩ := hrel
        have HK := Lib.hid hk
        have HA := Lib.hid has
        have HCL := Lib.hid hcl
        have HGR := Lib.hid hgr
        clear hk has hcl hgr
        cases gk with
        | zero =>
          obtain rfl : n = k := by have := HK.out; omega
          obtain ⟨W5, rfl⟩ : ∃ x : World, x = wr := ⟨_, rfl⟩
          have hBW : w.heap.size ≤ W5.heap.size := HA.out.below.size
          have hOQ5 : OwnRows W5 w3.heap.size (.slice Aq n cq) rows := OwnRows.stand HA.out.keep HOQ.out (by omega)
          have HR5 := Lib.hid (Rows2.of_own hOQ5)
          clear hOQ5
          go_wp2
          go_loopg [74] n (fun g i W => ∃ (k : Nat), k + g = n ∧ i = .int .i64 k ∧ W5 = W)
          case atStart => exact ⟨0, by omega, rfl, rfl⟩
          case round =>
            obtain ⟨k, hk, rfl, rfl⟩ := hrel
            have HK := Lib.hid hk
            clear hk
            cases gk with
            | zero =>
              obtain rfl : n = k := by have := HK.out; omega
              have hown5 := HA.out.own
              rw [HA.out.len, HCL.out] at hown5
              have HO5 := Lib.hid hown5
              have HOB5 : Hid (OwnRows W5 w2.heap.size (.slice Ab n cb) rows) := OwnRows.stand HA.out.keep HOB4.out (Nat.le_refl _)
              have hBW1 : w.heap.size ≤ (W5.alloc (.cells #[.string ⟨#[43]⟩] 9)).heap.size := by simp; omega
              clear hown5
              go_wp2_with (at_builtin; refine wpList_append_one rfl (.tmp 108) (.tmp 110) 22 40 (.slice none 0 0) 24 Tryd.underlying22 info_strings rfl (by decide) rfl w.heap.size (.slice A n c) n us (W5.alloc (.cells #[.string ⟨#[43]⟩] 9)) rfl (World.ownsRow.alloc HO5.out _) (.slice (some ⟨W5.heap.size, 0, none⟩) 1 1) rfl ?hx (by omega) hBW1 ?_)
              case hx => rw [World.size_alloc]; rfl
              intro v6 w6 hown6 hgr6 _ hb6
              have hbw6 : Below w.heap.size w w6 := (HA.out.below.alloc hBW _).trans (hb6.mono (Nat.le_refl _))
              have hkeep6 : ∀ j, w2.heap.size ≤ j → j < w4.heap.size → w6.heap[j]? = w4.heap[j]? := fun j h1 h2 => by
                have hj5 : j < W5.heap.size := Nat.lt_of_lt_of_le h2 HA.out.size
                rw [hgr6.block j (by simp; omega) (fun e => by have := HA.out.outv j e.symm; omega), Below.heap_alloc W5 _ j hj5]
                exact HA.out.keep j h1 h2
              have hRb : Rows2 w6 w6.heap.size (.slice Ab n cb) rows := Rows2.of_own (OwnRows.stand hkeep6 HOB4.out (Nat.le_refl _))
              have hRq : Rows2 w6 w6.heap.size (.slice Aq n cq) rows := Rows2.of_own (OwnRows.stand hkeep6 HOQ.out (by omega))
              have HRB := Lib.hid hRb
              have HRQ := Lib.hid hRq
              have HB6 := Lib.hid hbw6
              have hs6 := hbw6.size
              have HLL : Hid (∀ r ∈ rows, r.length ≤ 1073741824) := fun r hr => by have := HL.out r hr; omega
              clear hown6 hgr6 hb6 hbw6 hkeep6 hRb hRq
              go_wp2_with fail
              refine (same_any _ _ rows rows w6 HRB.out HRQ.out (by have := HN.out; omega) (by have := HN.out; omega) HLL.out HLL.out).mono ?_
              rintro e w7 ⟨rfl, hb⟩
              have HB7 : Hid (Below w.heap.size w w7) := HB6.out.trans (hb.mono hs6)
              clear hb
              go_wp2
              go_ret
              exact ⟨by simp, HB7.out⟩
            | succ g =>
              have hlt : k < n := by have := HK.out; omega
              have hkn : (k : Int) < n := by omega
              obtain ⟨Ar, cr, usr, er, _, _, hulr, hRr, hRrr⟩ := HR5.out
              obtain ⟨rfl, _, rfl⟩ : Aq = Ar ∧ True ∧ cq = cr := by injection er with q1 q2 q3; exact ⟨q1, trivial, q3⟩
              rw [HN.out] at hRr hulr
              obtain ⟨b1, o1, u1, rfl, hb1, hx1, hc1⟩ := hRr.at_ hlt
              have hkx : k < rows.length := by have := HN.out; omega
              obtain ⟨r, hr⟩ : ∃ r, rows[k]? = some r := ⟨_, List.getElem?_eq_getElem hkx⟩
              obtain ⟨A1, c1, e1, _, _, hR1⟩ := hRrr k u1 r hx1 hr
              have hrl := HL.out r (List.mem_of_getElem? hr)
              have hku : k < us.length := by rw [HA.out.len, HCL.out]; exact hlt
              have hkc : k < cs.length := by rw [HCL.out]; exact hlt
              obtain ⟨ga, hA, -, hcell, -⟩ := HA.out.place hku
              have hcu := List.getElem?_eq_getElem hku
              have hcc := List.getElem?_eq_getElem hkc
              obtain ⟨u, hu⟩ : ∃ u, us[k] = u := ⟨_, rfl⟩
              obtain ⟨c2, hc2⟩ : ∃ u, cs[k] = u := ⟨_, rfl⟩
              rw [hu] at hcu hcell
              rw [hc2] at hcc
              obtain ⟨A2, cap2, hu2, hsp⟩ := HA.out.spot hcu hcc
              have hq := HGR.out k r c2 hr hcc
              obtain ⟨m1, hm1⟩ : ∃ n, r.length = n := ⟨_, rfl⟩
              obtain ⟨n2, hn2⟩ : ∃ n, c2.length = n := ⟨_, rfl⟩
              rw [hm1] at e1 hq hrl
              rw [hn2] at hu2 hq
              obtain ⟨hq1, hq2, hq3⟩ := hq
              subst hA
              subst hu2
              subst e1
              have HST := Lib.hid hq3
              have HSP := Lib.hid hsp
              have HN2 := Lib.hid hn2
              have HM1 := Lib.hid hm1
              clear hcu hcc hr hn2 hm1 hu hc2 er hulr hRr hRrr hx1 hR1 hq2 hq3 hsp hb1
              go_wp2
              go_loopg [86] m1 (fun g i W => ∃ (j : Nat), j + g = m1 ∧ i = .int .i64 j ∧ W5 = W)
              case atStart => exact ⟨0, by omega, rfl, rfl⟩
              case round =>
                obtain ⟨j, hj, rfl, rfl⟩ := hrel
                have HJ := Lib.hid hj
                clear hj
                cases gk with
                | zero =>
                  obtain rfl : m1 = j := by have := HJ.out; omega
                  go_wp2
                  go_roundg g
                  case measure => omega
                  case rel => exact ⟨k + 1, by have := HK.out; omega, by go_num, rfl⟩
                | succ g2 =>
                  have hjl : j < m1 := by have := HJ.out; omega
                  have hjl' : (j : Int) < m1 := by omega
                  have hge : decide (n2 ≤ j) = false := decide_eq_false (by omega)
                  have hjn : (j : Int) < n2 := by omega
                  obtain ⟨g1, hA2, hcellj, -⟩ := HSP.out j _ (HST.out j (by omega) (by rw [HM1.out]; exact hjl))
                  subst hA2
                  unfold S at hcellj
                  go_wp2
                  go_roundg g2
                  case measure => omega
                  case rel => exact ⟨j + 1, by have := HJ.out; omega, by go_num, rfl⟩
        | succ g =>
          have hlt : k < n := by have := HK.out; omega
          have hkn : (k : Int) < n := by omega
          go_wp2
          go_loopg [12] 16 (fun g i W => ∃ (j : Nat) (us : List Value) (cs : List (List Csv.F)), j + g = 16 ∧ i = .int .i64 j ∧ AS w w4 w2.heap.size (.slice A n c) us cs W ∧ cs.length = n ∧ Grew rows cs k j)
          case atStart => exact ⟨0, us, cs, by omega, rfl, HA.out, HCL.out, HGR.out⟩
          case round =>
            clear HA HCL HGR
            obtain ⟨j, us, cs, hj, rfl, has, hcl, hgr⟩ := hrel
            have HJ := Lib.hid hj
            have HA := Lib.hid has
            have HCL := Lib.hid hcl
            have HGR := Lib.hid hgr
            clear hj has hcl hgr
            cases gk with
            | zero =>
              obtain rfl : j = 16 := by have := HJ.out; omega
              go_wp2
              go_roundg g
              case measure => omega
              case rel => exact ⟨k + 1, us, cs, by have := HK.out; omega, by go_num, HA.out, HCL.out, HGR.out.next⟩
            | succ g2 =>
              have hj16 : j < 16 := by have := HJ.out; omega
              have hj16' : (j : Int) < 16 := by omega
              have hku : k < us.length := by rw [HA.out.len, HCL.out]; exact hlt
              have hkc : k < cs.length := by rw [HCL.out]; exact hlt
              obtain ⟨ga, hA, -, hcell, -⟩ := HA.out.place hku
              have hcu := List.getElem?_eq_getElem hku
              have hcc := List.getElem?_eq_getElem hkc
              obtain ⟨u, hu⟩ : ∃ u, us[k] = u := ⟨_, rfl⟩
              obtain ⟨c2, hc2⟩ : ∃ u, cs[k] = u := ⟨_, rfl⟩
              rw [hu] at hcu hcell
              rw [hc2] at hcc
              obtain ⟨A1, cap1, hu1, _⟩ := HA.out.spot hcu hcc
              have hin := HA.out.inner k u c2 hcu hcc
              obtain ⟨r, hr⟩ : ∃ r, rows[k]? = some r := ⟨_, List.getElem?_eq_getElem (by rw [HN.out]; exact hlt)⟩
              have hq := HGR.out k r c2 hr hcc
              have hrl := HL.out r (List.mem_of_getElem? hr)
              rw [if_neg (by omega), if_pos rfl] at hq
              obtain ⟨n1, hn1⟩ : ∃ n, c2.length = n := ⟨_, rfl⟩
              rw [hn1] at hu1 hin hq
              have hn1m : n1 ≤ 16777216 + 16 := by omega
              subst hA
              subst hu1
              have HIN := Lib.hid hin
              have HCU := Lib.hid hcu
              have HCC := Lib.hid hcc
              have HN1 := Lib.hid hn1
              have hBw : w.heap.size ≤ wr.heap.size := HA.out.below.size
              clear hcu hcc hin hr hq hrl hn1 hu hc2
              go_wp2_with (at_builtin; refine wpList_append_one rfl (.tmp 67) (.tmp 68) 40 9 (.string ⟨#[]⟩) 16 Tryd.underlying40 info_string rfl (by decide) rfl w.heap.size (.slice A1 n1 cap1) n1 (c2.map S) wr rfl HIN.out (.string ⟨#[43]⟩) rfl rfl (by omega) hBw ?_)
              intro v9 w9 hown9 hgr9 hwh9 hb9
              obtain ⟨A9, c9, e9⟩ := own_form hown9
              subst e9
              have hv9 := own_grown_ty HA.out.own hgr9 HIN.out (by decide)
              obtain ⟨ga', hga', hcell9, hfz9⟩ := own_place hv9 hku
              cases hga'
              rw [HCU.out] at hcell9
              have hown9' : w9.ownsRow w.heap.size 9 1 (.slice A9 (n1 + 1) c9) (c2 ++ [[43]]).length ((c2 ++ [[43]]).map S) := by
                rw [List.length_append, HN1.out, List.map_append]
                exact hown9
              have HAN := Lib.hid (HA.out.setRow rfl HCU.out HCC.out hgr9 hown9' hwh9)
              clear hown9 hgr9 hwh9 hb9 hv9 hown9' hcell
              go_wp2
              go_roundg g2
              case measure => omega
              case rel => exact ⟨j + 1, _, _, by have := HJ.out; omega, by go_num, HAN.out, by rw [List.length_set]; exact HCL.out, HGR.out.push HCC.out [43]⟩
    | succ g =>
      have hlt : k < n := by have := HK.out; omega
      have hku : k < us0.length := by rw [HA.out.len, HCL.out]; exact hlt
      obtain ⟨ga, rfl, _, hcell, _⟩ := HA.out.place hku
      have hcu := List.getElem?_eq_getElem hku
      have hcc := List.getElem?_eq_getElem (l := cs) (i := k) (by rw [HCL.out]; exact hlt)
      have hrr := List.getElem?_eq_getElem (l := rows) (i := k) (by rw [HN.out]; exact hlt)
      obtain ⟨r, hr⟩ : ∃ r, rows[k]'(by rw [HN.out]; exact hlt) = r := ⟨_, rfl⟩
      obtain ⟨c1, hc1⟩ : ∃ r, cs[k]'(by rw [HCL.out]; exact hlt) = r := ⟨_, rfl⟩
      obtain ⟨u, hu⟩ : ∃ u, us0[k] = u := ⟨_, rfl⟩
      rw [hu] at hcu hcell
      rw [hc1] at hcc
      rw [hr] at hrr
      obtain ⟨A1, cap1, hu1, _⟩ := HA.out.spot hcu hcc
      have hlen := (HPC.out k r c1 hrr hcc).1
      obtain ⟨n1, hn1⟩ : ∃ n, c1.length = n := ⟨_, rfl⟩
      rw [hn1] at hu1 hlen
      subst hu1
      have HU := Lib.hid hcu
      have HRR := Lib.hid hrr
      have hn1m : n1 ≤ 16777216 := by rw [hlen]; exact HL.out r (List.mem_of_getElem? hrr)
      have HL1 := Lib.hid hlen
      clear hcu hcc hrr hr hc1 hu hlen hn1
      have hkn : (k : Int) < n := by omega
      go_wp2
      clear hcell
      go_loopg [42] n1 (fun g i W => ∃ (j : Nat) (cs : List (List Csv.F)), j + g = n1 ∧ i = .int .i64 j ∧ AS w w4 w2.heap.size (.slice (some ⟨ga, 0, none⟩) n c) us0 cs W ∧ cs.length = n ∧
        (∀ (j : Nat) r c, rows[j]? = some r → cs[j]? = some c → c.length = r.length ∧ (j < k → Starred r c r.length)) ∧ (∀ c, cs[k]? = some c → Starred r c j))
      case atStart => exact ⟨0, cs, by omega, rfl, HA.out, HCL.out, HPC.out, fun c _ m hm => by omega⟩
      case round =>
        obtain ⟨j, cs', hj, rfl, has', hcl', hpc', hst'⟩ := hrel
        have HJ := Lib.hid hj
        have HA' := Lib.hid has'
        have HCL' := Lib.hid hcl'
        have HPC' := Lib.hid hpc'
        have HST' := Lib.hid hst'
        clear hj has' hcl' hpc' hst' HA HCL HPC
        cases gk with
        | zero =>
          obtain rfl : n1 = j := by have := HJ.out; omega
          go_wp2
          go_roundg g
          case measure => omega
          case rel =>
            refine ⟨k + 1, cs', by have := HK.out; omega, by go_num, HA'.out, HCL'.out, fun i r' c' hr' hc' => ⟨(HPC'.out i r' c' hr' hc').1, fun hi => ?_⟩⟩
            by_cases hik : i = k
            · subst hik
              rw [HRR.out] at hr'
              cases hr'
              have := HST'.out c' hc'
              rwa [HL1.out] at this
            · exact (HPC'.out i r' c' hr' hc').2 (by omega)
        | succ g2 =>
          have hjl : j < n1 := by have := HJ.out; omega
          obtain ⟨ga', hga, _, hcell, _⟩ := HA'.out.place hku
          cases hga
          have hkc : k < cs'.length := by rw [HCL'.out]; exact hlt
          obtain ⟨c2, hc2⟩ : ∃ c, cs'[k] = c := ⟨_, rfl⟩
          have hcc := List.getElem?_eq_getElem hkc
          rw [hc2] at hcc
          have hl2 := (HPC'.out k r c2 HRR.out hcc).1
          have hj2 : j < c2.length := by rw [hl2, ← HL1.out]; exact hjl
          obtain ⟨A2, cap2, e2, hpl⟩ := HA'.out.spot HU.out hcc
          obtain ⟨g1, hA2, hcellj, hfz⟩ := hpl j _ (List.getElem?_eq_getElem hj2)
          obtain ⟨rfl, _, rfl⟩ : A1 = A2 ∧ True ∧ cap1 = cap2 := by injection e2 with q1 q2 q3; exact ⟨q1, trivial, q3⟩
          subst hA2
          have hu2 := List.getElem?_eq_getElem hku
          rw [HU.out] at hu2
          have hu2' : us0[k] = .slice (some ⟨g1, 0, none⟩) n1 cap1 := (Option.some.inj hu2).symm
          rw [hu2'] at hcell
          unfold S at hcellj
          have HAN := Lib.hid (HA'.out.setElem HU.out hcc j [42])
          have HCC := Lib.hid hcc
          have HC2 := Lib.hid hl2
          clear hpl hcc hc2 hl2 e2 hu2 hu2'
          have hjn : (j : Int) < n1 := by omega
          go_wp2
          go_roundg g2
          case measure => omega
          case rel =>
            refine ⟨j + 1, cs'.set k (c2.set j [42]), by have := HJ.out; omega, by go_num, HAN.out, by simp [HCL'.out], fun i r' c' hr' hc' => ?_, fun c' hc' => ?_⟩
            · by_cases hik : i = k
              · subst hik
                rw [List.getElem?_set_self hkc] at hc'
                rw [HRR.out] at hr'
                cases hc'
                cases hr'
                exact ⟨by rw [List.length_set]; exact HC2.out, fun h => by omega⟩
              · rw [List.getElem?_set_ne (fun e => hik e.symm)] at hc'
                exact HPC'.out i r' c' hr' hc'
            · rw [List.getElem?_set_self hkc] at hc'
              cases hc'
              exact starred_set (HST'.out c2 HCC.out) hj2
end Go.Proofs.YtjkbaihcdjbjiaaDoor
