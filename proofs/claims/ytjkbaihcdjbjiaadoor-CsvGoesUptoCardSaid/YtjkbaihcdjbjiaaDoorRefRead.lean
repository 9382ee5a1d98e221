/- Layer 21 (csv): the document's Read and Parse. -/
import Derived.Test.YtjkbaihcdjbjiaaDoorCsvParse
import Derived.Test.YtjkbaihcdjbjiaaDoorBytes
namespace Go.Proofs.YtjkbaihcdjbjiaaDoor
open Go.RowKit

/-- the rows, the row and the field that are being read lie each in its own array -/
structure RSU (us : List Value) (w : World) (B : Nat) (v4 v5 v6 : Value) (rows : List (List Csv.F)) (row : List Csv.F) (field : Csv.F) : Prop where
  len : us.length = rows.length
  own4 : w.ownsRow B 40 1 v4 us.length us
  inner : ∀ (k : Nat) u r, us[k]? = some u → rows[k]? = some r → w.ownsRow B 9 1 u r.length (r.map S)
  dist : ∀ (i j : Nat) u u', i < j → us[i]? = some u → us[j]? = some u' → u.ownBlock = none ∨ u.ownBlock ≠ u'.ownBlock
  own5 : w.ownsRow B 9 1 v5 row.length (row.map S)
  far : ∀ (i : Nat) u, us[i]? = some u → u.ownBlock = none ∨ u.ownBlock ≠ v5.ownBlock
  own6 : OwnB B v6 field w

theorem own_grown_ty {w w' : World} {B e e' n n' sz : Nat} {v x : Value} {xs ys : List Value} (h : w.ownsRow B e sz v n xs) (hg : w.grownBy w' x.ownBlock) (hx : w.ownsRow B e' 1 x n' ys) (hne : e' ≠ e) : w'.ownsRow B e sz v n xs :=
  own_kept_ty h hg (fun g c t fz hr hc => by
    obtain ⟨_, c', hc'⟩ := own_blocks hx g hr
    rw [hc'] at hc
    cases hc
    exact hne)
theorem own_grown_none {w w' : World} {B e n sz : Nat} {v : Value} {xs : List Value} (h : w.ownsRow B e sz v n xs) (hg : w.grownBy w' none) : w'.ownsRow B e sz v n xs :=
  own_kept_ty h hg (fun g c t fz hr => by cases hr)
theorem RSU.rowsOwn {us : List Value} {w : World} {B : Nat} {v4 v5 v6 : Value} {rows : List (List Csv.F)} {row : List Csv.F} {field : Csv.F} (h : RSU us w B v4 v5 v6 rows row field) : OwnRows w B v4 rows :=
  ⟨us, h.len, h.own4, h.inner, h.dist⟩
theorem RSU.setField {us : List Value} {w w' : World} {B : Nat} {v4 v5 v6 v6' : Value} {rows : List (List Csv.F)} {row : List Csv.F} {field f' : Csv.F} (h : RSU us w B v4 v5 v6 rows row field)
    (hg : w.grownBy w' v6.ownBlock) (h6 : OwnB B v6' f' w') : RSU us w' B v4 v5 v6' rows row f' :=
  ⟨h.len, own_grown_ty h.own4 hg h.own6 (by decide), fun k u r hu hr => own_grown_ty (h.inner k u r hu hr) hg h.own6 (by decide), h.dist, own_grown_ty h.own5 hg h.own6 (by decide), h.far, h6⟩
theorem RSU.setRow {us : List Value} {w w' : World} {B : Nat} {v4 v5 v5' v6 : Value} {rows : List (List Csv.F)} {row row' : List Csv.F} {field : Csv.F} (h : RSU us w B v4 v5 v6 rows row field)
    (hg : w.grownBy w' v5.ownBlock) (h5 : w'.ownsRow B 9 1 v5' row'.length (row'.map S)) (hn : v5'.ownBlock = v5.ownBlock ∨ ∃ g, v5'.ownBlock = some g ∧ w.heap.size ≤ g) : RSU us w' B v4 v5' v6 rows row' field :=
  ⟨h.len, own_grown_ty h.own4 hg h.own5 (by decide), fun k u r hu hr => by
    refine (h.inner k u r hu hr).kept hg ?_
    exact h.far k u hu, h.dist, h5, fun i u hu => by
    rcases hn with e | ⟨g, e, hge⟩
    · rw [e]; exact h.far i u hu
    · cases hb : u.ownBlock with
      | none => exact .inl rfl
      | some j =>
        refine .inr (fun e2 => ?_)
        rw [e] at e2
        have hi : i < us.length := (List.getElem?_eq_some_iff.1 hu).1
        have hr := List.getElem?_eq_getElem (show i < rows.length by rw [← h.len]; exact hi)
        have := ((h.inner i u _ hu hr).lt j hb).2
        cases e2
        omega, own_grown_ty h.own6 hg h.own5 (by decide)⟩
theorem RSU.push {us : List Value} {w w1 w2 : World} {B : Nat} {v4 v4' v5 v5' v6 v6' : Value} {rows : List (List Csv.F)} {row : List Csv.F} {field : Csv.F} (h : RSU us w B v4 v5 v6 rows row field)
    (h4 : w1.ownsRow B 40 1 v4' (us.length + 1) (us ++ [v5])) (hg : w.grownBy w1 v4.ownBlock) (hg2 : w1.grownBy w2 none) (h5 : w2.ownsRow B 9 1 v5' 0 []) (hn : ∃ g, v5'.ownBlock = some g ∧ w1.heap.size ≤ g) (h6 : OwnB B v6' [] w2) :
    RSU (us ++ [v5]) w2 B v4' v5' v6' (rows ++ [row]) [] [] := by
  have hin : ∀ (k : Nat) u r, us[k]? = some u → rows[k]? = some r → w1.ownsRow B 9 1 u r.length (r.map S) := fun k u r hu hr => own_grown_ty (h.inner k u r hu hr) hg h.own4 (by decide)
  have hv5 : w1.ownsRow B 9 1 v5 row.length (row.map S) := own_grown_ty h.own5 hg h.own4 (by decide)
  have hall : ∀ (k : Nat) u r, (us ++ [v5])[k]? = some u → (rows ++ [row])[k]? = some r → w1.ownsRow B 9 1 u r.length (r.map S) := fun k u r hu hr => by
    by_cases hk : k < us.length
    · rw [List.getElem?_append_left hk] at hu
      rw [List.getElem?_append_left (by rw [← h.len]; exact hk)] at hr
      exact hin k u r hu hr
    · rw [List.getElem?_append_right (by omega)] at hu
      rw [List.getElem?_append_right (by have := h.len; omega)] at hr
      have hk0 : k - us.length = 0 := by
        have := (List.getElem?_eq_some_iff.1 hu).1
        simpa using this
      rw [← h.len, hk0] at hr
      rw [hk0] at hu
      cases hu
      cases hr
      exact hv5
  refine ⟨by simp [h.len], ?_, fun k u r hu hr => own_grown_none (hall k u r hu hr) hg2, fun i j u u' hij hu hu' => ?_, h5, fun i u hu => ?_, h6⟩
  · have := own_grown_none h4 hg2
    simpa using this
  · by_cases hj : j < us.length
    · rw [List.getElem?_append_left hj] at hu'
      rw [List.getElem?_append_left (by omega)] at hu
      exact h.dist i j u u' hij hu hu'
    · have hl := (List.getElem?_eq_some_iff.1 hu').1
      simp at hl
      rw [List.getElem?_append_left (by omega)] at hu
      rw [List.getElem?_append_right (by omega)] at hu'
      have hk0 : j - us.length = 0 := by omega
      rw [hk0] at hu'
      cases hu'
      exact h.far i u hu
  · obtain ⟨g, e, hge⟩ := hn
    cases hb : u.ownBlock with
    | none => exact .inl rfl
    | some j =>
      refine .inr (fun e2 => ?_)
      rw [e] at e2
      have hi : i < (us ++ [v5]).length := (List.getElem?_eq_some_iff.1 hu).1
      have hr := List.getElem?_eq_getElem (show i < (rows ++ [row]).length by simp at hi ⊢; have := h.len; omega)
      have := ((hall i u _ hu hr).lt j hb).2
      cases e2
      omega

/-- how Read ends -/
def ReadRes (r : List (List Csv.F) × Nat) (w : World) (e : Ending) (w' : World) : Prop :=
  ∃ v, e = .returned (.tuple #[v, .int .i64 r.2]) ∧ OwnRows w' w.heap.size v r.1 ∧ Below w.heap.size w w'
theorem readRes_of {r : List (List Csv.F) × Nat} {w w' : World} {v : Value} {rows : List (List Csv.F)} {n : Nat} (h : r = (rows, n)) (ho : OwnRows w' w.heap.size v rows) (hb : Below w.heap.size w w') {u : Value} (hu : u = .int .i64 n) :
    ReadRes r w (.returned (.tuple #[v, u])) w' := by
  subst h hu
  exact ⟨v, rfl, ho, hb⟩

set_option maxHeartbeats 8000000 in
set_option maxRecDepth 100000 in
theorem refRead_any (s : ByteArray) (hs : s.size ≤ 16777216) (w : World) :
    Calls Tryd.prog 18 #[.string s] w (ReadRes (Csv.rowsOf s.data.toList) w) := by
  obtain ⟨R, hR⟩ : ∃ R, Csv.rowsOf s.data.toList = R := ⟨_, rfl⟩
  rw [hR]
  have hR0 := hR
  rw [Csv.rowsOf_read] at hR0
  have HR0 := Lib.hid hR0
  clear hR hR0
  go_enter Tryd.func18, Tryd.ntmps18
  go_wp2
  go_loopg [4, 5, 6, 7, 8] s.size (fun g v4 v5 v6 st i wr => ∃ (k : Nat) (us : List Value) (q : Nat) (rows : List (List Csv.F)) (row : List Csv.F) (field : Csv.F), k + g = s.size ∧ i = .int .i64 k ∧ st = .int .i64 q ∧ q ≤ 4 ∧
    Below w.heap.size w wr ∧ RSU us wr w.heap.size v4 v5 v6 rows row field ∧ Csv.read ⟨q, rows, row, field⟩ (s.data.toList.drop k) = R ∧ rows.length ≤ k ∧ row.length ≤ k ∧ field.length ≤ k)
  case atStart =>
    refine ⟨0, [], 0, [], [], [], by omega, rfl, rfl, by omega, (((Below.refl _ _).alloc (Nat.le_refl _) _).alloc (by simp) _).alloc (by simp; omega) _, ?_, HR0.out, by simp, by simp, by simp⟩
    refine ⟨rfl, World.ownsRow.alloc (World.ownsRow.alloc (own_empty w _ _ 0 _ (Nat.le_refl _) rfl) _) _, fun k u r h => by simp at h, fun i j u u' _ h => by simp at h, ?_, fun i u h => by simp at h, ?_⟩
    · have := World.ownsRow.alloc (own_empty (w.alloc (.cells #[] 40)) w.heap.size 9 0 #[] (by simp) rfl) (.cells #[] 5)
      simpa using this
    · have := own_empty ((w.alloc (.cells #[] 40)).alloc (.cells #[] 9)) w.heap.size 5 0 #[] (by simp; omega) rfl
      simpa [OwnB, Lib.byteCells] using this
  case round =>
    obtain ⟨k, us, q, rows, row, field, hk, rfl, rfl, hq4, hbel, hrs, hrd, hl1, hl2, hl3⟩ := hrel
    have HR := Lib.hid hrs
    have HBEL := Lib.hid hbel
    have HK := Lib.hid hk
    have HRD := Lib.hid hrd
    have hB := hbel.size
    have hul : us.length ≤ k := by have := hrs.len; omega
    obtain ⟨A4, c4, rfl⟩ := own_form hrs.own4
    obtain ⟨A5, c5, rfl⟩ := own_form hrs.own5
    obtain ⟨A6, c6, rfl⟩ := own_form hrs.own6
    have hcv := hrs.own6.conv
    clear hrs hbel hk hrd
    cases gk with
    | zero =>
      have HS : Hid (Csv.fin ⟨q, rows, row, field⟩ = R) := by
        refine Lib.hid ?_
        have h1 := HRD.out
        rwa [List.drop_of_length_le (by rw [← Lib.size_eq]; have := HK.out; omega)] at h1
      obtain rfl : k = s.size := by have := HK.out; omega
      by_cases h2 : q = 2
      · subst h2
        clear hcv
        go_wp2
        go_ret2
        exact readRes_of HS.out.symm HR.out.rowsOwn HBEL.out rfl
      · have h2b : ((q : Int) == 2) = false := beq_eq_false_iff_ne.2 (by omega)
        by_cases h4 : q = 4
        · subst h4
          clear hcv
          go_wp2
          go_ret2
          exact readRes_of HS.out.symm HR.out.rowsOwn HBEL.out rfl
        · have h4b : ((q : Int) == 4) = false := beq_eq_false_iff_ne.2 (by omega)
          by_cases hp : 0 < row.length ∨ 0 < field.length ∨ q ≠ 0
          · have HF : Hid (R = (rows ++ [row ++ [field]], 0)) := by
              refine Lib.hid ?_
              rw [← HS.out, Csv.fin, if_neg h2, if_neg h4, if_pos hp]
            by_cases hp1 : 0 < row.length
            · have e1 : decide (0 < row.length) = true := by simpa using hp1
              clear hp
              go_wp2_with (at_builtin; refine wpList_append_one rfl (.tmp 93) (.tmp 96) 40 9 (.string ⟨#[]⟩) 16 Tryd.underlying40 info_string rfl (by decide) rfl w.heap.size (.slice A5 row.length c5) row.length (row.map S) wr rfl HR.out.own5 (.string ⟨field.toArray⟩) rfl rfl (by omega) hB ?_)
              intro v1 w1 hown1 hgr1 hwh1 hbel1
              have HR1 := Lib.hid (HR.out.setRow (row' := row ++ [field]) hgr1 (by simpa [S] using hown1) hwh1)
              have HB1 := Lib.hid (HBEL.out.trans hbel1)
              have hw1 := HB1.out.size
              obtain ⟨A7, c7, e7⟩ := own_form hown1
              subst e7
              clear hown1 hgr1 hwh1 hbel1 hcv
              go_wp2_with (at_builtin; refine wpList_append_one rfl (.tmp 92) (.tmp 98) 22 40 (.slice none 0 0) 24 Tryd.underlying22 info_strings rfl (by decide) rfl w.heap.size (.slice A4 us.length c4) us.length us w1 rfl HR1.out.own4 (.slice A7 (row.length + 1) c7) rfl rfl (by omega) hw1 ?_)
              intro v2 w2 hown2 hgr2 _ hbel2
              have HO := Lib.hid (OwnRows.snoc HR1.out.len hown2 (fun k u r hu hr => own_grown_ty (HR1.out.inner k u r hu hr) hgr2 HR1.out.own4 (by decide)) (own_grown_ty HR1.out.own5 hgr2 HR1.out.own4 (by decide)) HR1.out.dist HR1.out.far)
              have HB2 := Lib.hid (HB1.out.trans hbel2)
              clear hown2 hgr2 hbel2
              go_wp2
              go_ret2
              exact readRes_of HF.out HO.out HB2.out rfl
            · have e1 : decide (0 < row.length) = false := by simpa using hp1
              by_cases hp2 : 0 < field.length
              · have e2 : decide (0 < field.length) = true := by simpa using hp2
                clear hp
                go_wp2_with (at_builtin; refine wpList_append_one rfl (.tmp 93) (.tmp 96) 40 9 (.string ⟨#[]⟩) 16 Tryd.underlying40 info_string rfl (by decide) rfl w.heap.size (.slice A5 row.length c5) row.length (row.map S) wr rfl HR.out.own5 (.string ⟨field.toArray⟩) rfl rfl (by omega) hB ?_)
                intro v1 w1 hown1 hgr1 hwh1 hbel1
                have HR1 := Lib.hid (HR.out.setRow (row' := row ++ [field]) hgr1 (by simpa [S] using hown1) hwh1)
                have HB1 := Lib.hid (HBEL.out.trans hbel1)
                have hw1 := HB1.out.size
                obtain ⟨A7, c7, e7⟩ := own_form hown1
                subst e7
                clear hown1 hgr1 hwh1 hbel1 hcv
                go_wp2_with (at_builtin; refine wpList_append_one rfl (.tmp 92) (.tmp 98) 22 40 (.slice none 0 0) 24 Tryd.underlying22 info_strings rfl (by decide) rfl w.heap.size (.slice A4 us.length c4) us.length us w1 rfl HR1.out.own4 (.slice A7 (row.length + 1) c7) rfl rfl (by omega) hw1 ?_)
                intro v2 w2 hown2 hgr2 _ hbel2
                have HO := Lib.hid (OwnRows.snoc HR1.out.len hown2 (fun k u r hu hr => own_grown_ty (HR1.out.inner k u r hu hr) hgr2 HR1.out.own4 (by decide)) (own_grown_ty HR1.out.own5 hgr2 HR1.out.own4 (by decide)) HR1.out.dist HR1.out.far)
                have HB2 := Lib.hid (HB1.out.trans hbel2)
                clear hown2 hgr2 hbel2
                go_wp2
                go_ret2
                exact readRes_of HF.out HO.out HB2.out rfl
              · have e2 : decide (0 < field.length) = false := by simpa using hp2
                have h0b : ((q : Int) != 0) = true := bne_iff_ne.2 (by omega)
                clear hp
                go_wp2_with (at_builtin; refine wpList_append_one rfl (.tmp 93) (.tmp 96) 40 9 (.string ⟨#[]⟩) 16 Tryd.underlying40 info_string rfl (by decide) rfl w.heap.size (.slice A5 row.length c5) row.length (row.map S) wr rfl HR.out.own5 (.string ⟨field.toArray⟩) rfl rfl (by omega) hB ?_)
                intro v1 w1 hown1 hgr1 hwh1 hbel1
                have HR1 := Lib.hid (HR.out.setRow (row' := row ++ [field]) hgr1 (by simpa [S] using hown1) hwh1)
                have HB1 := Lib.hid (HBEL.out.trans hbel1)
                have hw1 := HB1.out.size
                obtain ⟨A7, c7, e7⟩ := own_form hown1
                subst e7
                clear hown1 hgr1 hwh1 hbel1 hcv
                go_wp2_with (at_builtin; refine wpList_append_one rfl (.tmp 92) (.tmp 98) 22 40 (.slice none 0 0) 24 Tryd.underlying22 info_strings rfl (by decide) rfl w.heap.size (.slice A4 us.length c4) us.length us w1 rfl HR1.out.own4 (.slice A7 (row.length + 1) c7) rfl rfl (by omega) hw1 ?_)
                intro v2 w2 hown2 hgr2 _ hbel2
                have HO := Lib.hid (OwnRows.snoc HR1.out.len hown2 (fun k u r hu hr => own_grown_ty (HR1.out.inner k u r hu hr) hgr2 HR1.out.own4 (by decide)) (own_grown_ty HR1.out.own5 hgr2 HR1.out.own4 (by decide)) HR1.out.dist HR1.out.far)
                have HB2 := Lib.hid (HB1.out.trans hbel2)
                clear hown2 hgr2 hbel2
                go_wp2
                go_ret2
                exact readRes_of HF.out HO.out HB2.out rfl
          · have e1 : decide (0 < row.length) = false := decide_eq_false (by omega)
            have e2 : decide (0 < field.length) = false := decide_eq_false (by omega)
            obtain rfl : q = 0 := by omega
            have HF : Hid (R = (rows, 0)) := by
              refine Lib.hid ?_
              rw [← HS.out, Csv.fin, if_neg h2, if_neg h4, if_neg hp]
            clear hcv hp
            go_wp2
            go_ret2
            exact readRes_of HF.out HR.out.rowsOwn HBEL.out rfl
    | succ g =>
      have hks : k < s.size := by have := HK.out; omega
      have hks' : (k : Int) < s.size := by omega
      obtain ⟨c, hc⟩ : ∃ c, s[k]'hks = c := ⟨_, rfl⟩
      have HS : Hid ((match Csv.step ⟨q, rows, row, field⟩ c with | .inl s' => Csv.read s' (s.data.toList.drop (k + 1)) | .inr e => (rows, e)) = R) := by
        refine Lib.hid ?_
        rw [← HRD.out]
        have h1 := Lib.data_getElem? s k hks
        rw [hc] at h1
        obtain ⟨h2, h3⟩ := List.getElem?_eq_some_iff.1 h1
        rw [List.drop_eq_getElem_cons h2, h3]
        rfl
      clear HRD
      have hbyte : ∀ d : UInt8, c ≠ d → ((c.toNat : Int) == (d.toNat : Int)) = false := fun d h => beq_eq_false_iff_ne.2 (fun e => h (UInt8.toNat.inj (by omega)))
      have hbyte' : ∀ d : UInt8, c ≠ d → ((c.toNat : Int) != (d.toNat : Int)) = true := fun d h => bne_iff_ne.2 (fun e => h (UInt8.toNat.inj (by omega)))
      have HBY := Lib.hid hbyte
      have HBY' := Lib.hid hbyte'
      clear hbyte hbyte'
      by_cases h4 : q = 4
      · subst h4
        by_cases h10 : c = 10
        · subst h10
          have HST : Hid (Csv.read ⟨0, rows ++ [row], [], []⟩ (s.data.toList.drop (k + 1)) = R) := by
            refine Lib.hid ?_
            have h0 : Csv.step ⟨4, rows, row, field⟩ 10 = .inl ⟨0, rows ++ [row], [], []⟩ := by rfl
            have h1 := HS.out
            rw [h0] at h1
            exact h1
          clear HS
          clear hcv
          go_wp2_with (at_builtin; refine wpList_append_one rfl (.tmp 27) (.tmp 29) 22 40 (.slice none 0 0) 24 Tryd.underlying22 info_strings rfl (by decide) rfl w.heap.size (.slice A4 us.length c4) us.length us wr rfl HR.out.own4 (.slice A5 row.length c5) rfl rfl (by omega) hB ?_)
          intro v1 w1 hown1 hgr1 _ hbel1
          have HO1 := Lib.hid hown1
          have HG1 := Lib.hid hgr1
          have HB1 := Lib.hid (HBEL.out.trans hbel1)
          have hw1 := HB1.out.size
          clear hown1 hgr1 hbel1
          go_wp2
          go_roundg g
          case measure => omega
          case rel =>
            refine ⟨k + 1, _, 0, _, [], [], by have := HK.out; omega, by go_num, rfl, by omega, (HB1.out.alloc hw1 _).alloc (by simp; omega) _, HR.out.push HO1.out HG1.out (only_alloc (only_alloc (only_refl _ _) _) _) ?_ ⟨_, rfl, Nat.le_refl _⟩ ?_, HST.out, by simp; omega, by simp, by simp⟩
            · exact World.ownsRow.alloc (own_empty w1 w.heap.size 9 0 #[] hw1 rfl) _
            · have := own_empty (w1.alloc (.cells #[] 9)) w.heap.size 5 0 #[] (by simp; omega) rfl
              simpa [OwnB, Lib.byteCells] using this
        · have hne : ((c.toNat : Int) != 10) = true := HBY'.out 10 h10
          have HST : Hid (Csv.step ⟨4, rows, row, field⟩ c = .inr 211) := Lib.hid (by unfold Csv.step; rw [if_pos rfl, if_neg h10])
          go_wp2
          go_ret2
          exact readRes_of (by have h1 := HS.out; rw [HST.out] at h1; exact h1.symm) HR.out.rowsOwn HBEL.out rfl
      · have h4b : ((q : Int) == 4) = false := beq_eq_false_iff_ne.2 (by omega)
        by_cases h2 : q = 2
        · subst h2
          by_cases h34 : c = 34
          · subst h34
            have HST : Hid (Csv.read ⟨3, rows, row, field⟩ (s.data.toList.drop (k + 1)) = R) := by
              refine Lib.hid ?_
              have h0 : Csv.step ⟨2, rows, row, field⟩ 34 = .inl ⟨3, rows, row, field⟩ := by rfl
              have h1 := HS.out
              rw [h0] at h1
              exact h1
            clear HS
            clear hcv
            go_wp2
            go_roundg g
            case measure => omega
            case rel => exact ⟨k + 1, us, 3, rows, row, field, by have := HK.out; omega, by go_num, rfl, by omega, HBEL.out, HR.out, HST.out, by omega, by omega, by omega⟩
          · have hne : ((c.toNat : Int) == 34) = false := HBY.out 34 h34
            have HST : Hid (Csv.read ⟨2, rows, row, field ++ [c]⟩ (s.data.toList.drop (k + 1)) = R) := by
              refine Lib.hid ?_
              have h0 : Csv.step ⟨2, rows, row, field⟩ c = .inl ⟨2, rows, row, field ++ [c]⟩ := by unfold Csv.step; rw [if_neg (by simp), if_pos rfl, if_neg h34]
              have h1 := HS.out
              rw [h0] at h1
              exact h1
            clear HS
            clear hcv
            go_wp2_with (at_builtin; refine wpList_append_bytes rfl (.tmp 37) (.tmp 39) rfl w.heap.size (.slice A6 field.length c6) field wr rfl HR.out.own6 [c] [.int .u8 (c.toNat : Int)] (byteCells_one c).symm 1 rfl rfl (by omega) (by decide) hB ?_)
            intro v1 w1 hown1 hgr1 hbel1
            have HR1 := Lib.hid (HR.out.setField hgr1 hown1)
            have HB1 := Lib.hid (HBEL.out.trans hbel1)
            clear hown1 hgr1 hbel1
            go_wp2
            go_roundg g
            case measure => omega
            case rel => exact ⟨k + 1, us, 2, rows, row, _, by have := HK.out; omega, by go_num, rfl, by omega, HB1.out, HR1.out, HST.out, by omega, by omega, by simp; omega⟩
        · have h2b : ((q : Int) == 2) = false := beq_eq_false_iff_ne.2 (by omega)
          by_cases h34 : c = 34
          · subst h34
            by_cases h1 : q = 1
            · subst h1
              have HST : Hid (Csv.step ⟨1, rows, row, field⟩ 34 = .inr 210) := Lib.hid (by rfl)
              go_wp2
              go_ret2
              exact readRes_of (by have h1 := HS.out; rw [HST.out] at h1; exact h1.symm) HR.out.rowsOwn HBEL.out rfl
            · have h1b : ((q : Int) == 1) = false := beq_eq_false_iff_ne.2 (by omega)
              by_cases h3 : q = 3
              · subst h3
                have HST : Hid (Csv.read ⟨2, rows, row, field ++ [34]⟩ (s.data.toList.drop (k + 1)) = R) := by
                  refine Lib.hid ?_
                  have h0 : Csv.step ⟨3, rows, row, field⟩ 34 = .inl ⟨2, rows, row, field ++ [34]⟩ := by rfl
                  have h1 := HS.out
                  rw [h0] at h1
                  exact h1
                clear HS
                clear hcv
                go_wp2_with (at_builtin; refine wpList_append_bytes rfl (.tmp 56) (.tmp 58) rfl w.heap.size (.slice A6 field.length c6) field wr rfl HR.out.own6 [34] [.int .u8 34] bc34 1 rfl rfl (by omega) (by decide) hB ?_)
                intro v1 w1 hown1 hgr1 hbel1
                have HR1 := Lib.hid (HR.out.setField hgr1 hown1)
                have HB1 := Lib.hid (HBEL.out.trans hbel1)
                clear hown1 hgr1 hbel1
                go_wp2
                go_roundg g
                case measure => omega
                case rel => exact ⟨k + 1, us, 2, rows, row, _, by have := HK.out; omega, by go_num, rfl, by omega, HB1.out, HR1.out, HST.out, by omega, by omega, by simp; omega⟩
              · have h3b : ((q : Int) == 3) = false := beq_eq_false_iff_ne.2 (by omega)
                obtain rfl : q = 0 := by omega
                have HST : Hid (Csv.read ⟨2, rows, row, field⟩ (s.data.toList.drop (k + 1)) = R) := by
                  refine Lib.hid ?_
                  have h0 : Csv.step ⟨0, rows, row, field⟩ 34 = .inl ⟨2, rows, row, field⟩ := by rfl
                  have h1 := HS.out
                  rw [h0] at h1
                  exact h1
                clear HS
                clear hcv
                go_wp2
                go_roundg g
                case measure => omega
                case rel => exact ⟨k + 1, us, 2, rows, row, field, by have := HK.out; omega, by go_num, rfl, by omega, HBEL.out, HR.out, HST.out, by omega, by omega, by omega⟩
          · have h34b : ((c.toNat : Int) == 34) = false := HBY.out 34 h34
            by_cases h44 : c = 44
            · subst h44
              have HST : Hid (Csv.read ⟨0, rows, row ++ [field], []⟩ (s.data.toList.drop (k + 1)) = R) := by
                refine Lib.hid ?_
                have h0 : Csv.step ⟨q, rows, row, field⟩ 44 = .inl ⟨0, rows, row ++ [field], []⟩ := by unfold Csv.step; rw [if_neg h4, if_neg h2, if_neg h34, if_pos (.inl rfl)]; rfl
                have h1 := HS.out
                rw [h0] at h1
                exact h1
              clear HS
              go_wp2_with (at_builtin; refine wpList_append_one rfl (.tmp 63) (.tmp 66) 40 9 (.string ⟨#[]⟩) 16 Tryd.underlying40 info_string rfl (by decide) rfl w.heap.size (.slice A5 row.length c5) row.length (row.map S) wr rfl HR.out.own5 (.string ⟨field.toArray⟩) rfl rfl (by omega) hB ?_)
              intro v1 w1 hown1 hgr1 hwh1 hbel1
              have HR1 := Lib.hid (HR.out.setRow (row' := row ++ [field]) hgr1 (by simpa [S] using hown1) hwh1)
              have HB1 := Lib.hid (HBEL.out.trans hbel1)
              have hw1 := HB1.out.size
              clear hown1 hgr1 hwh1 hbel1 hcv
              go_wp2
              go_roundg g
              case measure => omega
              case rel => exact ⟨k + 1, us, 0, rows, _, [], by have := HK.out; omega, by go_num, rfl, by omega, HB1.out.alloc hw1 _, HR1.out.setField (only_alloc (only_refl _ _) _) (own_empty w1 w.heap.size 5 0 #[] hw1 rfl), HST.out, by omega, by simp; omega, by simp⟩
            · have h44b : ((c.toNat : Int) == 44) = false := HBY.out 44 h44
              by_cases h13 : c = 13
              · subst h13
                have HST : Hid (Csv.read ⟨4, rows, row ++ [field], []⟩ (s.data.toList.drop (k + 1)) = R) := by
                  refine Lib.hid ?_
                  have h0 : Csv.step ⟨q, rows, row, field⟩ 13 = .inl ⟨4, rows, row ++ [field], []⟩ := by unfold Csv.step; rw [if_neg h4, if_neg h2, if_neg h34, if_pos (.inr rfl)]; rfl
                  have h1 := HS.out
                  rw [h0] at h1
                  exact h1
                clear HS
                go_wp2_with (at_builtin; refine wpList_append_one rfl (.tmp 63) (.tmp 66) 40 9 (.string ⟨#[]⟩) 16 Tryd.underlying40 info_string rfl (by decide) rfl w.heap.size (.slice A5 row.length c5) row.length (row.map S) wr rfl HR.out.own5 (.string ⟨field.toArray⟩) rfl rfl (by omega) hB ?_)
                intro v1 w1 hown1 hgr1 hwh1 hbel1
                have HR1 := Lib.hid (HR.out.setRow (row' := row ++ [field]) hgr1 (by simpa [S] using hown1) hwh1)
                have HB1 := Lib.hid (HBEL.out.trans hbel1)
                have hw1 := HB1.out.size
                clear hown1 hgr1 hwh1 hbel1 hcv
                go_wp2
                go_roundg g
                case measure => omega
                case rel => exact ⟨k + 1, us, 4, rows, _, [], by have := HK.out; omega, by go_num, rfl, by omega, HB1.out.alloc hw1 _, HR1.out.setField (only_alloc (only_refl _ _) _) (own_empty w1 w.heap.size 5 0 #[] hw1 rfl), HST.out, by omega, by simp; omega, by simp⟩
              · have h13b : ((c.toNat : Int) == 13) = false := HBY.out 13 h13
                by_cases h10 : c = 10
                · subst h10
                  have HST : Hid (Csv.step ⟨q, rows, row, field⟩ 10 = .inr 211) := Lib.hid (by unfold Csv.step; rw [if_neg h4, if_neg h2, if_neg h34, if_neg (by simp), if_pos rfl])
                  go_wp2
                  go_ret2
                  exact readRes_of (by have h1 := HS.out; rw [HST.out] at h1; exact h1.symm) HR.out.rowsOwn HBEL.out rfl
                · have h10b : ((c.toNat : Int) == 10) = false := HBY.out 10 h10
                  by_cases h3 : q = 3
                  · subst h3
                    have HST : Hid (Csv.step ⟨3, rows, row, field⟩ c = .inr 210) := Lib.hid (by unfold Csv.step; rw [if_neg (by simp), if_neg (by simp), if_neg h34, if_neg (by simp [h44, h13]), if_neg h10, if_pos rfl])
                    go_wp2
                    go_ret2
                    exact readRes_of (by have h1 := HS.out; rw [HST.out] at h1; exact h1.symm) HR.out.rowsOwn HBEL.out rfl
                  · have h3b : ((q : Int) == 3) = false := beq_eq_false_iff_ne.2 (by omega)
                    have HST : Hid (Csv.read ⟨1, rows, row, field ++ [c]⟩ (s.data.toList.drop (k + 1)) = R) := by
                      refine Lib.hid ?_
                      have h0 : Csv.step ⟨q, rows, row, field⟩ c = .inl ⟨1, rows, row, field ++ [c]⟩ := by unfold Csv.step; rw [if_neg h4, if_neg h2, if_neg h34, if_neg (by simp [h44, h13]), if_neg h10, if_neg h3]
                      have h1 := HS.out
                      rw [h0] at h1
                      exact h1
                    clear HS
                    clear hcv
                    go_wp2_with (at_builtin; refine wpList_append_bytes rfl (.tmp 45) (.tmp 47) rfl w.heap.size (.slice A6 field.length c6) field wr rfl HR.out.own6 [c] [.int .u8 (c.toNat : Int)] (byteCells_one c).symm 1 rfl rfl (by omega) (by decide) hB ?_)
                    intro v1 w1 hown1 hgr1 hbel1
                    have HR1 := Lib.hid (HR.out.setField hgr1 hown1)
                    have HB1 := Lib.hid (HBEL.out.trans hbel1)
                    clear hown1 hgr1 hbel1
                    go_wp2
                    go_roundg g
                    case measure => omega
                    case rel => exact ⟨k + 1, us, 1, rows, row, _, by have := HK.out; omega, by go_num, rfl, by omega, HB1.out, HR1.out, HST.out, by omega, by omega, by simp; omega⟩


set_option maxHeartbeats 8000000 in
theorem refParse_any (s : ByteArray) (hs : s.size ≤ 16777216) (w : World) :
    Calls Tryd.prog 16 #[.string s] w (ReadRes (if (Csv.rowsOf s.data.toList).2 = 0 then ((Csv.rowsOf s.data.toList).1, 0) else ([], (Csv.rowsOf s.data.toList).2)) w) := by
  have hrd := fun wx => refRead_any s hs wx
  obtain ⟨R, hR⟩ : ∃ R, Csv.rowsOf s.data.toList = R := ⟨_, rfl⟩
  rw [hR] at hrd ⊢
  clear hR
  obtain ⟨rows, n⟩ := R
  by_cases hn : n = 0
  · subst hn
    go_enter Tryd.func16, Tryd.ntmps16
    go_wp2_with (go_at_call 18; refine (hrd _).mono ?_; rintro e w1 ⟨v, rfl, ho, hb⟩)
    go_ret2
    exact ⟨v, rfl, ho, hb⟩
  · have h0 : ((n : Int) != 0) = true := bne_iff_ne.2 (by omega)
    rw [if_neg hn]
    go_enter Tryd.func16, Tryd.ntmps16
    go_wp2_with (go_at_call 18; refine (hrd _).mono ?_; rintro e w1 ⟨v, rfl, ho, hb⟩)
    go_ret2
    exact ⟨_, rfl, ⟨[], rfl, own_empty w1 _ _ 0 _ hb.size rfl, fun k u r h => by simp at h, fun i j u u' _ h => by simp at h⟩, hb.alloc hb.size _⟩
end Go.Proofs.YtjkbaihcdjbjiaaDoor
