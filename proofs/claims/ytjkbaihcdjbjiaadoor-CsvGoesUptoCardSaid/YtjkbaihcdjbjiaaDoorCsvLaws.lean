/- Layer 21 (csv): the laws' bodies, walked. -/
import Derived.Test.YtjkbaihcdjbjiaaDoorCsvSpeaks
import Derived.Test.YtjkbaihcdjbjiaaDoorRefPrint
import Derived.Test.YtjkbaihcdjbjiaaDoorRefRead
namespace Go.Proofs.YtjkbaihcdjbjiaaDoor
open Go.RowKit

theorem cell0_lt {w : World} {v : Value} (h : w.cell? ⟨0, 0, none⟩ = some v) : 0 < w.heap.size := by
  rcases Nat.eq_zero_or_pos w.heap.size with h0 | h0
  · unfold World.cell? at h
    simp [Array.getElem?_eq_none (show w.heap.size ≤ 0 by omega)] at h
  · exact h0
theorem row_le_wRows {rs : List (List Csv.F)} {r : List Csv.F} (h : r ∈ rs) : r.length ≤ Csv.wRows rs := by
  induction rs with
  | nil => cases h
  | cons a rs ih =>
    rw [wRows_cons]
    cases h with
    | head => have := len_le_wRow r; omega
    | tail _ h => have := ih h; omega

set_option maxHeartbeats 8000000 in
set_option maxRecDepth 100000 in
theorem csvPrints_any (a : Value) (x : List (List Csv.F)) (w : World) (m : Int) (ha : Rows2 w w.heap.size a x) (hm : w.cell? ⟨0, 0, none⟩ = some (.int .i64 m)) (hw : Csv.wRows x ≤ 16777216) :
    Calls Tryd.prog 3 #[a] w fun e w' => e = .returned (.bool true) ∧ Below w.heap.size w w' := by
  have hw0 := cell0_lt hm
  have hx0 := len_le_wRows x
  have HX : Hid (∀ r ∈ x, r.length ≤ 1073741824) := fun r hr => by have := row_le_wRows hr; omega
  have HA := Lib.hid ha
  have HC := Lib.hid hm
  obtain ⟨A, c, us, rfl, _⟩ := ha
  clear hm
  go_enter Tryd.func3, Tryd.ntmps3
  go_wp2_with fail
  refine (speaks_any w m HC.out).mono ?_
  rintro e w1 ⟨rfl, hb1⟩
  have HB1 := Lib.hid hb1
  have hs1 := hb1.size
  clear hb1
  go_wp2_with fail
  refine (copy_any _ x w1 ((HA.out.below HB1.out).more hs1) (by omega) HX.out).mono ?_
  rintro e w2 ⟨v, rfl, hown, hb⟩
  have HB2 : Hid (Below w.heap.size w w2) := HB1.out.trans (hb.mono hs1)
  have hs2 := HB2.out.size
  have HR2 := Lib.hid (Rows2.of_own hown)
  obtain ⟨A2, c2, us2, rfl, _⟩ := HR2.out
  clear hown hb
  go_wp2_with fail
  refine (print_any _ x w2 m HR2.out ((HB2.out.cell hw0).trans HC.out) (by omega)).mono ?_
  rintro e w3 ⟨rfl, hb⟩
  have HR3 := Lib.hid ((HR2.out.below hb).more hb.size)
  have HB3 : Hid (Below w.heap.size w w3) := HB2.out.trans (hb.mono hs2)
  have hs3 := HB3.out.size
  clear hb HR2 HB2
  have hpv : ∃ t n, printVal 2 (Csv.print x) = .tuple #[.string t, .int .i64 n] := by
    cases Csv.print x with
    | none => exact ⟨_, _, rfl⟩
    | some t => exact ⟨_, _, rfl⟩
  obtain ⟨t, n, hpv⟩ := hpv
  have HPV := Lib.hid hpv
  clear hpv
  have hrp := (refPrint_any _ x w3 ((HA.out.below HB3.out).more hs3) (by omega))
  rw [HPV.out] at hrp ⊢
  have HRP := Lib.hid hrp
  clear hrp
  go_wp2_with fail
  refine HRP.out.mono ?_
  rintro e w4 ⟨rfl, hb⟩
  have HR4 := Lib.hid ((HR3.out.below hb).more hb.size)
  have HB4 : Hid (Below w.heap.size w w4) := HB3.out.trans (hb.mono hs3)
  have hs4 := HB4.out.size
  clear hb HR3 HB3 HRP
  go_wp2_with fail
  refine (same_any _ _ x x w4 HR4.out ((HA.out.below HB4.out).more hs4) (by omega) (by omega) HX.out HX.out).mono ?_
  rintro e w5 ⟨rfl, hb⟩
  have HB5 : Hid (Below w.heap.size w w5) := HB4.out.trans (hb.mono hs4)
  clear hb
  go_wp2
  go_ret
  exact ⟨by simp, HB5.out⟩

theorem rowsOf_rows_len (l : Csv.F) : ∀ r ∈ (Csv.rowsOf l).1, r.length ≤ 3 * l.length + 5 := fun r hr => Nat.le_trans (row_le_wRows hr) (Csv.rowsOf_w l)

theorem csvParses_any (s : ByteArray) (w : World) (m : Int) (hm : w.cell? ⟨0, 0, none⟩ = some (.int .i64 m)) (hs : s.size ≤ 16777216) :
    Calls Tryd.prog 4 #[.string s] w fun e w' => e = .returned (.bool true) ∧ Below w.heap.size w w' := by
  have hw0 := cell0_lt hm
  have HC := Lib.hid hm
  have hl := Csv.rowsOf_length s.data.toList
  have hlr := rowsOf_rows_len s.data.toList
  rw [← Lib.size_eq] at hl hlr
  have hpa := fun wx => parse_any s hs wx
  have hra := fun wx => refParse_any s hs wx
  unfold ParseRes at hpa
  obtain ⟨R, hR⟩ : ∃ R, Csv.rowsOf s.data.toList = R := ⟨_, rfl⟩
  rw [hR] at hl hlr hpa hra
  obtain ⟨rows, n⟩ := R
  have HL : Hid (∀ r ∈ rows, r.length ≤ 1073741824) := fun r hr => by have := hlr r hr; omega
  have hl : rows.length ≤ s.size := hl
  have HPA := Lib.hid hpa
  have HRA := Lib.hid hra
  clear hm hpa hra hlr hR
  by_cases hn : n = 0
  · subst hn
    go_enter Tryd.func4, Tryd.ntmps4
    go_wp2_with fail
    refine (speaks_any w m HC.out).mono ?_
    rintro e w1 ⟨rfl, hb1⟩
    have HB1 := Lib.hid hb1
    have hs1 := hb1.size
    clear hb1
    go_wp2_with fail
    refine (HPA.out _).mono ?_
    rintro e w2 ⟨v, rfl, hb, ho⟩
    have ho : OwnRows w2 w1.heap.size v rows := by simpa using ho
    have HB2 : Hid (Below w.heap.size w w2) := HB1.out.trans (hb.mono hs1)
    have hs2 := HB2.out.size
    have HR2 := Lib.hid (Rows2.of_own ho)
    obtain ⟨A2, c2, us2, rfl, _⟩ := HR2.out
    clear ho hb
    go_wp2_with fail
    refine (HRA.out _).mono ?_
    rintro e w3 ⟨v3, rfl, ho, hb⟩
    have ho : OwnRows w3 w2.heap.size v3 rows := by simpa using ho
    have HR3 := Lib.hid ((HR2.out.below hb).more hb.size)
    have HB3 : Hid (Below w.heap.size w w3) := HB2.out.trans (hb.mono hs2)
    have hs3 := HB3.out.size
    have HR3' := Lib.hid (Rows2.of_own ho)
    obtain ⟨A3, c3, us3, rfl, _⟩ := HR3'.out
    clear ho hb
    go_wp2_with fail
    refine (same_any _ _ rows rows w3 HR3.out HR3'.out (by omega) (by omega) HL.out HL.out).mono ?_
    rintro e w5 ⟨rfl, hb⟩
    have HB5 : Hid (Below w.heap.size w w5) := HB3.out.trans (hb.mono hs3)
    clear hb
    go_wp2
    go_ret
    exact ⟨by simp, HB5.out⟩
  · go_enter Tryd.func4, Tryd.ntmps4
    go_wp2_with fail
    refine (speaks_any w m HC.out).mono ?_
    rintro e w1 ⟨rfl, hb1⟩
    have HB1 := Lib.hid hb1
    have hs1 := hb1.size
    clear hb1
    go_wp2_with fail
    refine (HPA.out _).mono ?_
    rintro e w2 ⟨v, rfl, hb, ho⟩
    have ho : v = .slice none 0 0 := by simpa [hn] using ho
    have HB2 : Hid (Below w.heap.size w w2) := HB1.out.trans (hb.mono hs1)
    have hs2 := HB2.out.size
    subst ho
    have HR2 := Lib.hid (show Rows2 w2 w2.heap.size (.slice none 0 0) [] from Rows2.of_own (OwnRows.nil w2 0))
    clear hb
    go_wp2_with fail
    have hra := HRA.out w2
    rw [if_neg hn] at hra
    refine hra.mono ?_
    rintro e w3 ⟨v3, rfl, ho, hb⟩
    have ho : OwnRows w3 w2.heap.size v3 [] := by simpa [hn] using ho
    have HR3 := Lib.hid ((HR2.out.below hb).more hb.size)
    have HB3 : Hid (Below w.heap.size w w3) := HB2.out.trans (hb.mono hs2)
    have hs3 := HB3.out.size
    have HR3' := Lib.hid (Rows2.of_own ho)
    obtain ⟨A3, c3, us3, rfl, _⟩ := HR3'.out
    clear ho hb
    go_wp2_with fail
    refine (same_any _ _ [] [] w3 HR3.out HR3'.out (by simp) (by simp) (by simp) (by simp)).mono ?_
    rintro e w5 ⟨rfl, hb⟩
    have HB5 : Hid (Below w.heap.size w w5) := HB3.out.trans (hb.mono hs3)
    clear hb
    go_wp2
    go_ret
    exact ⟨by simp, HB5.out⟩

theorem wRow_of_some {x : List (List Csv.F)} {t : Csv.F} (h : Csv.print x = some t) : t.length ≤ Csv.wRows x := by
  by_cases hm : [] ∈ x
  · rw [Csv.print_none hm] at h
    cases h
  · rw [Csv.print_some hm] at h
    cases h
    clear hm
    induction x with
    | nil => simp
    | cons r x ih =>
      rw [wRows_cons, List.flatMap_cons, List.length_append]
      have := Csv.fieldsK_length r 0
      have e : (Csv.printRow r).length = (Csv.fieldsK 0 r).length + 2 := by simp [Csv.printRow]
      omega

set_option maxHeartbeats 8000000 in
set_option maxRecDepth 100000 in
theorem csvThere_any (a : Value) (x : List (List Csv.F)) (w : World) (m : Int) (ha : Rows2 w w.heap.size a x) (hm : w.cell? ⟨0, 0, none⟩ = some (.int .i64 m)) (hw : Csv.wRows x ≤ 16777216) :
    Calls Tryd.prog 6 #[a] w fun e w' => e = .returned (.bool true) ∧ Below w.heap.size w w' := by
  have hw0 := cell0_lt hm
  have hx0 := len_le_wRows x
  have HX : Hid (∀ r ∈ x, r.length ≤ 1073741824) := fun r hr => by have := row_le_wRows hr; omega
  have HA := Lib.hid ha
  have HC := Lib.hid hm
  obtain ⟨A, c, us, rfl, _, _, hul, hA, hAr⟩ := ha
  obtain ⟨n, hn⟩ : ∃ n, x.length = n := ⟨_, rfl⟩
  rw [hn] at HA hul hx0 hA ⊢
  have HRA := Lib.hid hA
  have HAR := Lib.hid hAr
  have HN := Lib.hid hn
  have HU := Lib.hid hul
  clear hm hA hAr hn hul
  go_enter Tryd.func6, Tryd.ntmps6
  go_wp2_with fail
  refine (speaks_any w m HC.out).mono ?_
  rintro e w1 ⟨rfl, hb1⟩
  have HB1 := Lib.hid hb1
  have hs1 := hb1.size
  clear hb1
  go_wp2
  go_loopg [14] n (fun g i wr => ∃ k : Nat, k + g = n ∧ i = .int .i64 k ∧ wr = w1 ∧ [] ∉ x.take k)
  case atStart => exact ⟨0, by omega, rfl, rfl, by simp⟩
  case round =>
    obtain ⟨k, hk, rfl, rfl, hne⟩ := hrel
    have HK := Lib.hid hk
    have HNE := Lib.hid hne
    clear hk hne
    cases gk with
    | zero =>
      obtain rfl : n = k := by have := HK.out; omega
      have hni : [] ∉ x := by have h1 := HNE.out; rwa [List.take_of_length_le (by have := HN.out; omega)] at h1
      have hps := Csv.print_some hni
      obtain ⟨t, ht⟩ : ∃ t, x.flatMap Csv.printRow = t := ⟨_, rfl⟩
      rw [ht] at hps
      have hrt := Csv.rows_print x hni
      rw [ht] at hrt
      have htl := wRow_of_some hps
      have hpr := fun (a : Value) (wx : World) (h1 : Rows2 wx wx.heap.size a x) (h2 : wx.cell? ⟨0, 0, none⟩ = some (.int .i64 m)) => print_any a x wx m h1 h2 (by omega)
      rw [hps] at hpr
      have hpa := fun (wx : World) => parse_any ⟨t.toArray⟩ (by simp [ByteArray.size]; omega) wx
      unfold ParseRes at hpa
      have et : (⟨t.toArray⟩ : ByteArray).data.toList = t := rfl
      rw [et, hrt] at hpa
      simp only [printVal] at hpr
      have HPR := Lib.hid hpr
      have HPA := Lib.hid hpa
      clear hni hps ht hrt hpr hpa et
      go_wp2_with fail
      refine (copy_any _ x wr (by have h1 := (HA.out.below HB1.out).more hs1; rwa [← HN.out] at h1 ⊢) (by have := HN.out; omega) HX.out).mono ?_
      rintro e w2 ⟨v, rfl, hown, hb⟩
      have HB2 : Hid (Below w.heap.size w w2) := HB1.out.trans (hb.mono hs1)
      have hs2 := HB2.out.size
      have HR2 := Lib.hid (Rows2.of_own hown)
      obtain ⟨A2, c2, us2, rfl, _⟩ := HR2.out
      clear hown hb
      go_wp2_with fail
      refine (HPR.out _ w2 HR2.out ((HB2.out.cell hw0).trans HC.out)).mono ?_
      rintro e w3 ⟨rfl, hb⟩
      have HB3 : Hid (Below w.heap.size w w3) := HB2.out.trans (hb.mono hs2)
      have hs3 := HB3.out.size
      clear hb HR2 HB2
      go_wp2_with fail
      refine (HPA.out w3).mono ?_
      rintro e w4 ⟨v4, rfl, hb, ho⟩
      have ho : OwnRows w4 w3.heap.size v4 x := by simpa using ho
      have HB4 : Hid (Below w.heap.size w w4) := HB3.out.trans (hb.mono hs3)
      have hs4 := HB4.out.size
      have HR4 := Lib.hid (Rows2.of_own ho)
      obtain ⟨A4, c4, us4, rfl, _⟩ := HR4.out
      clear hb ho HB3
      go_wp2_with fail
      refine (same_any _ _ x x w4 HR4.out (by have h1 := (HA.out.below HB4.out).more hs4; rwa [← HN.out] at h1 ⊢) (by have := HN.out; omega) (by have := HN.out; omega) HX.out HX.out).mono ?_
      rintro e w5 ⟨rfl, hb⟩
      have HB5 : Hid (Below w.heap.size w w5) := HB4.out.trans (hb.mono hs4)
      clear hb
      go_wp2
      go_ret
      exact ⟨by simp, HB5.out⟩
    | succ g =>
      have hlt : k < n := by have := HK.out; omega
      obtain ⟨b1, o1, u1, rfl, hb1, hx1, hc1⟩ := (HRA.out.below HB1.out).at_ hlt
      have hkx : k < x.length := by have := HN.out; omega
      have hr1 := HAR.out k u1 _ hx1 (List.getElem?_eq_getElem hkx)
      have HT : Hid (x.take (k + 1) = x.take k ++ [x[k]]) := List.take_succ_eq_append_getElem hkx
      have HMEM := Lib.hid (List.getElem_mem hkx)
      obtain ⟨row, hrow⟩ : ∃ f, x[k] = f := ⟨_, rfl⟩
      rw [hrow] at hr1 HT HMEM
      obtain ⟨A1, c1, hu1e, _, _, hR⟩ := hr1
      subst hu1e
      obtain ⟨m1, hm1⟩ : ∃ m, row.length = m := ⟨_, rfl⟩
      rw [hm1] at hR hc1
      have HM1 := Lib.hid hm1
      clear hR hx1 hrow hm1
      have hkn : ((k : Int)) < n := by omega
      by_cases he : m1 = 0
      · subst he
        have : row = [] := List.eq_nil_of_length_eq_zero HM1.out
        subst this
        have hpr := fun (a : Value) (wx : World) (h1 : Rows2 wx wx.heap.size a x) (h2 : wx.cell? ⟨0, 0, none⟩ = some (.int .i64 m)) => print_any a x wx m h1 h2 (by omega)
        rw [Csv.print_none HMEM.out] at hpr
        simp only [printVal] at hpr
        have HPR := Lib.hid hpr
        clear hpr
        go_wp2_with fail
        refine (copy_any _ x wr (by have h1 := (HA.out.below HB1.out).more hs1; rwa [← HN.out] at h1 ⊢) (by have := HN.out; omega) HX.out).mono ?_
        rintro e w2 ⟨v, rfl, hown, hb⟩
        have HB2 : Hid (Below w.heap.size w w2) := HB1.out.trans (hb.mono hs1)
        have hs2 := HB2.out.size
        have HR2 := Lib.hid (Rows2.of_own hown)
        obtain ⟨A2, c2, us2, rfl, _⟩ := HR2.out
        clear hown hb hc1
        go_wp2_with fail
        refine (HPR.out _ w2 HR2.out ((HB2.out.cell hw0).trans HC.out)).mono ?_
        rintro e w3 ⟨rfl, hb⟩
        have HB3 : Hid (Below w.heap.size w w3) := HB2.out.trans (hb.mono hs2)
        clear hb HR2 HB2
        go_wp2
        go_ret
        exact ⟨rfl, HB3.out⟩
      · have hne0 : ((m1 : Int) == 0) = false := by simp; omega
        go_wp2
        go_roundg g
        case measure => omega
        case rel => exact ⟨k + 1, by have := HK.out; omega, by go_num, rfl, by rw [HT.out]; have h1 := HNE.out; simp only [List.mem_append, List.mem_singleton, not_or]; exact ⟨h1, fun e => he (by rw [← HM1.out, ← e]; rfl)⟩⟩

set_option maxHeartbeats 8000000 in
set_option maxRecDepth 100000 in
theorem csvBack_any (s : ByteArray) (w : World) (m : Int) (hm : w.cell? ⟨0, 0, none⟩ = some (.int .i64 m)) (hs : s.size ≤ 4194304) :
    Calls Tryd.prog 7 #[.string s] w fun e w' => e = .returned (.bool true) ∧ Below w.heap.size w w' := by
  have hw0 := cell0_lt hm
  have HC := Lib.hid hm
  have hl := Csv.rowsOf_length s.data.toList
  have hlr := rowsOf_rows_len s.data.toList
  have hlw := Csv.rowsOf_w s.data.toList
  have hfull := Csv.rowsOf_full s.data.toList
  have hnil := Csv.rowsOf_nil s.data.toList
  rw [← Lib.size_eq] at hl hlr hlw
  have hpa := fun wx => parse_any s (by omega) wx
  unfold ParseRes at hpa
  obtain ⟨R, hR⟩ : ∃ R, Csv.rowsOf s.data.toList = R := ⟨_, rfl⟩
  rw [hR] at hl hlr hpa hlw hfull hnil
  obtain ⟨rows, n⟩ := R
  have HL : Hid (∀ r ∈ rows, r.length ≤ 1073741824) := fun r hr => by have := hlr r hr; omega
  have hl : rows.length ≤ s.size := hl
  have hlw : Csv.wRows rows ≤ 3 * s.size + 5 := hlw
  have HF : Hid ([] ∉ rows) := hfull
  have HNI : Hid (n = 0 → (rows = [] ↔ s.data.toList = [])) := hnil
  have HPA := Lib.hid hpa
  clear hm hpa hlr hR hnil hfull
  by_cases hn : n = 0
  · subst hn
    have hps := Csv.print_some HF.out
    obtain ⟨t, ht⟩ : ∃ t, rows.flatMap Csv.printRow = t := ⟨_, rfl⟩
    rw [ht] at hps
    have hrt := Csv.rows_print rows HF.out
    rw [ht] at hrt
    have htl := wRow_of_some hps
    have hpr := fun (a : Value) (wx : World) (h1 : Rows2 wx wx.heap.size a rows) (h2 : wx.cell? ⟨0, 0, none⟩ = some (.int .i64 m)) => print_any a rows wx m h1 h2 (by omega)
    rw [hps] at hpr
    have hpb := fun (wx : World) => parse_any ⟨t.toArray⟩ (by simp [ByteArray.size]; omega) wx
    unfold ParseRes at hpb
    have et : (⟨t.toArray⟩ : ByteArray).data.toList = t := rfl
    rw [et, hrt] at hpb
    simp only [printVal] at hpr
    obtain ⟨bb, hbb⟩ : ∃ b, ((rows.length : Int) == 0) = b := ⟨_, rfl⟩
    have hbs : s.toList.isEmpty = bb := by
      rw [← hbb, Bool.eq_iff_iff, Lib.toList_data]
      simp only [List.isEmpty_iff, beq_iff_eq]
      have h1 := HNI.out rfl
      constructor
      · intro e
        rw [h1.2 e]
        rfl
      · intro e
        exact h1.1 (List.eq_nil_of_length_eq_zero (by omega))
    have HPR := Lib.hid hpr
    have HPB := Lib.hid hpb
    clear hps ht hrt hpr hpb et
    go_enter Tryd.func7, Tryd.ntmps7
    go_wp2_with fail
    refine (speaks_any w m HC.out).mono ?_
    rintro e w1 ⟨rfl, hb1⟩
    have HB1 := Lib.hid hb1
    have hs1 := hb1.size
    clear hb1
    go_wp2_with fail
    refine (HPA.out _).mono ?_
    rintro e w2 ⟨v, rfl, hb, ho⟩
    have ho : OwnRows w2 w1.heap.size v rows := by simpa using ho
    have HB2 : Hid (Below w.heap.size w w2) := HB1.out.trans (hb.mono hs1)
    have hs2 := HB2.out.size
    have HR2 := Lib.hid (Rows2.of_own ho)
    obtain ⟨A2, c2, us2, rfl, _⟩ := HR2.out
    clear ho hb
    go_wp2_with fail
    refine (copy_any _ rows w2 HR2.out (by omega) HL.out).mono ?_
    rintro e w3 ⟨v3, rfl, hown, hb⟩
    have HR3 := Lib.hid ((HR2.out.below hb).more hb.size)
    have HB3 : Hid (Below w.heap.size w w3) := HB2.out.trans (hb.mono hs2)
    have hs3 := HB3.out.size
    have HR3' := Lib.hid (Rows2.of_own hown)
    obtain ⟨A3, c3, us3, rfl, _⟩ := HR3'.out
    clear hown hb HR2 HB2
    go_wp2_with fail
    refine (HPR.out _ w3 HR3'.out ((HB3.out.cell hw0).trans HC.out)).mono ?_
    rintro e w4 ⟨rfl, hb⟩
    have HR4 := Lib.hid ((HR3.out.below hb).more hb.size)
    have HB4 : Hid (Below w.heap.size w w4) := HB3.out.trans (hb.mono hs3)
    have hs4 := HB4.out.size
    clear hb HR3 HR3' HB3
    go_wp2_with fail
    refine (HPB.out w4).mono ?_
    rintro e w5 ⟨v5, rfl, hb, ho⟩
    have ho : OwnRows w5 w4.heap.size v5 rows := by simpa using ho
    have HR5 := Lib.hid ((HR4.out.below hb).more hb.size)
    have HB5 : Hid (Below w.heap.size w w5) := HB4.out.trans (hb.mono hs4)
    have hs5 := HB5.out.size
    have HR5' := Lib.hid (Rows2.of_own ho)
    obtain ⟨A5, c5, us5, rfl, _⟩ := HR5'.out
    clear hb ho HB4 HR4
    go_wp2_with fail
    refine (same_any _ _ rows rows w5 HR5.out HR5'.out (by omega) (by omega) HL.out HL.out).mono ?_
    rintro e w6 ⟨rfl, hb⟩
    have HB6 : Hid (Below w.heap.size w w6) := HB5.out.trans (hb.mono hs5)
    have hdd : decide (rows = rows) = true := by simp
    clear hb
    go_wp2
    go_ret
    exact ⟨ret_eq (congrArg Value.bool (by simp)), HB6.out⟩
  · have hnb : ((n : Int) != 0) = true := bne_iff_ne.2 (by omega)
    go_enter Tryd.func7, Tryd.ntmps7
    go_wp2_with fail
    refine (speaks_any w m HC.out).mono ?_
    rintro e w1 ⟨rfl, hb1⟩
    have HB1 := Lib.hid hb1
    have hs1 := hb1.size
    clear hb1
    go_wp2_with fail
    refine (HPA.out _).mono ?_
    rintro e w2 ⟨v, rfl, hb, ho⟩
    have ho : v = .slice none 0 0 := by simpa [hn] using ho
    subst ho
    have HB2 : Hid (Below w.heap.size w w2) := HB1.out.trans (hb.mono hs1)
    clear hb
    go_wp2
    go_ret
    exact ⟨rfl, HB2.out⟩

set_option maxHeartbeats 8000000 in
set_option maxRecDepth 100000 in
theorem csvJoins_any (s s2 : ByteArray) (w : World) (m : Int) (hm : w.cell? ⟨0, 0, none⟩ = some (.int .i64 m)) (hs : s.size + s2.size ≤ 4194304) :
    Calls Tryd.prog 8 #[.string s, .string s2] w fun e w' => e = .returned (.bool true) ∧ Below w.heap.size w w' := by
  have hw0 := cell0_lt hm
  have HC := Lib.hid hm
  have hl := Csv.rowsOf_length s.data.toList
  have hlr := rowsOf_rows_len s.data.toList
  have hjoin : (Csv.rowsOf s.data.toList).2 = 0 → ∀ r, s.data.toList = r ++ [10] → Csv.rowsOf (s.data.toList ++ s2.data.toList) = ((Csv.rowsOf s.data.toList).1 ++ (Csv.rowsOf s2.data.toList).1, (Csv.rowsOf s2.data.toList).2) := fun h r e => by
    rw [e] at h ⊢
    exact Csv.rowsOf_join r _ h
  rw [← Lib.size_eq] at hl hlr
  have hpa := fun wx => parse_any s (by omega) wx
  unfold ParseRes at hpa
  obtain ⟨R, hR⟩ : ∃ R, Csv.rowsOf s.data.toList = R := ⟨_, rfl⟩
  rw [hR] at hl hlr hpa hjoin
  obtain ⟨rows, n⟩ := R
  have HL : Hid (∀ r ∈ rows, r.length ≤ 1073741824) := fun r hr => by have := hlr r hr; omega
  have hl : rows.length ≤ s.size := hl
  have HJ : Hid (n = 0 → ∀ r, s.data.toList = r ++ [10] → Csv.rowsOf (s.data.toList ++ s2.data.toList) = (rows ++ (Csv.rowsOf s2.data.toList).1, (Csv.rowsOf s2.data.toList).2)) := hjoin
  have HPA := Lib.hid hpa
  clear hm hpa hlr hR hjoin
  by_cases hn : n = 0
  · subst hn
    go_enter Tryd.func8, Tryd.ntmps8
    go_wp2_with fail
    refine (speaks_any w m HC.out).mono ?_
    rintro e w1 ⟨rfl, hb1⟩
    have HB1 := Lib.hid hb1
    have hs1 := hb1.size
    clear hb1
    go_wp2_with fail
    refine (HPA.out _).mono ?_
    rintro e w2 ⟨v, rfl, hb, ho⟩
    have ho : OwnRows w2 w1.heap.size v rows := by simpa using ho
    have HB2 : Hid (Below w.heap.size w w2) := HB1.out.trans (hb.mono hs1)
    have hs2 := HB2.out.size
    have HR2 := Lib.hid (Rows2.of_own ho)
    obtain ⟨A2, c2, us2, rfl, _⟩ := HR2.out
    clear ho hb
    by_cases h2 : s.size < 2
    · go_wp2
      go_ret
      exact ⟨rfl, HB2.out⟩
    · have hd2 : decide ((s.size : Int) < 2) = false := decide_eq_false (by omega)
      obtain ⟨tb, htb⟩ : ∃ b, ((s.extract (s.size - 2) s.size).toList == [13, 10]) = b := ⟨_, rfl⟩
      cases tb with
      | false =>
        go_wp2
        go_ret
        exact ⟨rfl, HB2.out⟩
      | true =>
        have hlast : ∃ r, s.data.toList = r ++ [10] := by
          have h1 := eq_of_beq htb
          rw [Lib.toList_data, extract_drop] at h1
          have h3 := List.take_append_drop (s.size - 2) s.data.toList
          rw [h1] at h3
          exact ⟨s.data.toList.take (s.size - 2) ++ [13], by rw [← h3]; simp⟩
        obtain ⟨r, hr⟩ := hlast
        have hjn := HJ.out (by trivial) r hr
        have hl2 := Csv.rowsOf_length s2.data.toList
        have hlr2 := rowsOf_rows_len s2.data.toList
        rw [← Lib.size_eq] at hl2 hlr2
        have hpb := fun wx => parse_any s2 (by omega) wx
        have hpc := fun wx => parse_any (s ++ s2) (by rw [ByteArray.size_append]; omega) wx
        unfold ParseRes at hpb hpc
        have hap : (s ++ s2).data.toList = s.data.toList ++ s2.data.toList := by rw [ByteArray.data_append, Array.toList_append]
        rw [hap, hjn] at hpc
        obtain ⟨R2, hR2⟩ : ∃ R, Csv.rowsOf s2.data.toList = R := ⟨_, rfl⟩
        rw [hR2] at hl2 hlr2 hpb hpc
        obtain ⟨rows2, n2⟩ := R2
        have hl2 : rows2.length ≤ s2.size := hl2
        have HL2 : Hid (∀ r ∈ rows2, r.length ≤ 1073741824) := fun r hr => by have := hlr2 r hr; omega
        have HPB := Lib.hid hpb
        have HPC := Lib.hid hpc
        clear hpb hpc hR2 hap hjn hlr2 hr
        by_cases hn2 : n2 = 0
        · subst hn2
          go_wp2_with fail
          refine (HPB.out _).mono ?_
          rintro e w3 ⟨v3, rfl, hb, ho⟩
          have ho : OwnRows w3 w2.heap.size v3 rows2 := by simpa using ho
          have HR3 := Lib.hid ((HR2.out.below hb).more hb.size)
          have HB3 : Hid (Below w.heap.size w w3) := HB2.out.trans (hb.mono hs2)
          have hs3 := HB3.out.size
          have HR3' := Lib.hid (Rows2.of_own ho)
          obtain ⟨A3, c3, us3, rfl, _⟩ := HR3'.out
          clear ho hb HB2 HR2
          go_wp2_with fail
          refine (HPC.out _).mono ?_
          rintro e w4 ⟨v4, rfl, hb, ho⟩
          have ho : OwnRows w4 w3.heap.size v4 (rows ++ rows2) := by simpa using ho
          have HR4 := Lib.hid ((HR3.out.below hb).more hb.size)
          have HR4' := Lib.hid ((HR3'.out.below hb).more hb.size)
          have HB4 : Hid (Below w.heap.size w w4) := HB3.out.trans (hb.mono hs3)
          have hs4 := HB4.out.size
          have HR5 := Lib.hid (Rows2.of_own ho)
          obtain ⟨A4, c4, us4, e4, _⟩ := HR5.out
          generalize (rows ++ rows2).length = n4 at e4
          subst e4
          clear ho hb HB3 HR3 HR3'
          obtain ⟨i0, hi, hz0, hz1, hz2⟩ := info_parts info_strings
          obtain ⟨Ap, cp, up, ep, _, _, hul, hRp, hRpr⟩ := HR4.out
          obtain ⟨Aq, cq, uq, eq_, _, _, hulq, hRq, hRqr⟩ := HR4'.out
          cases ep
          cases eq_
          have HU := Lib.hid hul
          have HUQ := Lib.hid hulq
          have HRP := Lib.hid hRp
          have HRQ := Lib.hid hRq
          have HRPR := Lib.hid hRpr
          have HRQR := Lib.hid hRqr
          have hup : ∀ u ∈ up, u.oneCell' = true := fun u hu => by
            obtain ⟨k, hk⟩ := List.mem_iff_getElem?.1 hu
            have hk' : k < up.length := (List.getElem?_eq_some_iff.1 hk).1
            obtain ⟨A, c, rfl, _⟩ := HRPR.out k u _ hk (List.getElem?_eq_getElem (by omega))
            rfl
          have huq : ∀ u ∈ uq, u.oneCell' = true := fun u hu => by
            obtain ⟨k, hk⟩ := List.mem_iff_getElem?.1 hu
            have hk' : k < uq.length := (List.getElem?_eq_some_iff.1 hk).1
            obtain ⟨A, c, rfl, _⟩ := HRQR.out k u _ hk (List.getElem?_eq_getElem (by omega))
            rfl
          have HUP := Lib.hid hup
          have HUQ' := Lib.hid huq
          clear hup huq hRp hRq hRpr hRqr hul hulq
          go_wp2_with (at_builtin; refine wpList_append_any_g _ rfl (.tmp 59) (.tmp 60) 22 rfl w4.heap.size 40 i0 (.slice none 0 0) 1 24 Tryd.underlying22 hi hz0 hz1 hz2 rfl (by decide) (.slice (some ⟨w4.heap.size, 0, none⟩) 0 0) 0 [] rfl (own_empty w4 _ _ 0 _ (Nat.le_refl _) rfl) w4.heap.size A2 rows.length c2 up rfl (HRP.out.keep (fun p hp => World.cell?_alloc_lt w4 _ p hp)) HUP.out (by unfold maxLen; omega) (by omega) (by simp) ?_)
          intro v5 w5 hown5 hgr5 _
          have hb5 : Below w4.heap.size w4 w5 := ((Below.refl _ _).alloc (Nat.le_refl _) _).grown hgr5 (by simp) (fun j e => by cases e; exact Nat.le_refl _)
          have hs5 := hb5.size
          obtain ⟨A5, c5, e5⟩ := own_form hown5
          subst e5
          have HB5 := Lib.hid hb5
          have HO5 := Lib.hid hown5
          clear hb5 hown5 hgr5
          go_wp2_with (at_builtin; refine wpList_append_any_g _ rfl (.tmp 61) (.tmp 62) 22 rfl w4.heap.size 40 i0 (.slice none 0 0) 1 24 Tryd.underlying22 hi hz0 hz1 hz2 rfl (by decide) (.slice A5 rows.length c5) rows.length up rfl HO5.out w4.heap.size A3 rows2.length c3 uq rfl (HRQ.out.below HB5.out) HUQ'.out (by unfold maxLen; omega) (by omega) hs5 ?_)
          intro v6 w6 hown6 hgr6 _
          have HB6 : Hid (Below w4.heap.size w4 w6) := HB5.out.grown hgr6 hs5 (fun j e => (HO5.out.lt j e).1)
          have hs6 := HB6.out.size
          have HB6w : Hid (Below w.heap.size w w6) := HB4.out.trans (HB6.out.mono hs4)
          have hrows6 : Rows2 w6 w6.heap.size v6 (rows ++ rows2) := by
            obtain ⟨A6, c6, e6⟩ := own_form hown6
            rw [e6] at hown6 ⊢
            have hlen : (rows ++ rows2).length = rows.length + rows2.length := List.length_append
            have hcap : rows.length + rows2.length ≤ c6 ∧ c6 ≤ maxLen := by
              rcases hown6.2 with ⟨h, h0⟩ | ⟨g, cap, cur, h, hb, hg, h1, h2, h3⟩
              · injection h with q1 q2 q3
                subst q3
                exact ⟨by omega, by unfold maxLen; omega⟩
              · injection h with q1 q2 q3
                subst q3
                exact ⟨h1, h2⟩
            refine ⟨A6, c6, up ++ uq, by rw [hlen], by rw [hlen]; exact hcap.1, hcap.2, by simp [HU.out, HUQ.out], ?_, fun k u r hu hr => ?_⟩
            · rw [hlen]
              exact Reads.of_own (c := c6) hown6
            · by_cases hk : k < up.length
              · rw [List.getElem?_append_left hk] at hu
                rw [List.getElem?_append_left (by rw [← HU.out]; exact hk)] at hr
                exact ((HRPR.out k u r hu hr).below HB6.out).more hs6
              · rw [List.getElem?_append_right (by omega)] at hu
                rw [List.getElem?_append_right (by have := HU.out; omega)] at hr
                rw [← HU.out] at hr
                exact ((HRQR.out _ u r hu hr).below HB6.out).more hs6
          have HR6 := Lib.hid hrows6
          have HR7 := Lib.hid ((HR5.out.below HB6.out).more hs6)
          obtain ⟨A6, c6, us6, e6, _⟩ := HR6.out
          generalize (rows ++ rows2).length = n6 at e6
          subst e6
          clear hown6 hgr6 hrows6
          have HLL : Hid (∀ r ∈ rows ++ rows2, r.length ≤ 1073741824) := fun r hr => (List.mem_append.1 hr).elim (HL.out r) (HL2.out r)
          go_wp2_with fail
          refine (same_any _ _ (rows ++ rows2) (rows ++ rows2) w6 HR7.out HR6.out (by rw [List.length_append]; omega) (by rw [List.length_append]; omega) HLL.out HLL.out).mono ?_
          rintro e w7 ⟨rfl, hb⟩
          have HB7 : Hid (Below w.heap.size w w7) := HB6w.out.trans (hb.mono HB6w.out.size)
          clear hb
          go_wp2
          go_ret
          exact ⟨by simp, HB7.out⟩
        · have hnb : ((n2 : Int) != 0) = true := bne_iff_ne.2 (by omega)
          go_wp2_with fail
          refine (HPB.out _).mono ?_
          rintro e w3 ⟨v3, rfl, hb, ho⟩
          have ho : v3 = .slice none 0 0 := by simpa [hn2] using ho
          subst ho
          have HB3 : Hid (Below w.heap.size w w3) := HB2.out.trans (hb.mono hs2)
          have hs3 := HB3.out.size
          clear hb HB2 HR2
          go_wp2_with fail
          refine (HPC.out _).mono ?_
          rintro e w4 ⟨v4, rfl, hb, ho⟩
          have ho : v4 = .slice none 0 0 := by simpa [hn2] using ho
          subst ho
          have HB4 : Hid (Below w.heap.size w w4) := HB3.out.trans (hb.mono hs3)
          clear hb
          go_wp2
          go_ret
          exact ⟨by simp, HB4.out⟩
  · have hnb : ((n : Int) != 0) = true := bne_iff_ne.2 (by omega)
    go_enter Tryd.func8, Tryd.ntmps8
    go_wp2_with fail
    refine (speaks_any w m HC.out).mono ?_
    rintro e w1 ⟨rfl, hb1⟩
    have HB1 := Lib.hid hb1
    have hs1 := hb1.size
    clear hb1
    go_wp2_with fail
    refine (HPA.out _).mono ?_
    rintro e w2 ⟨v, rfl, hb, ho⟩
    have HB2 : Hid (Below w.heap.size w w2) := HB1.out.trans (hb.mono hs1)
    have ho : v = .slice none 0 0 := by simpa [hn] using ho
    subst ho
    clear hb
    go_wp2
    go_ret
    exact ⟨rfl, HB2.out⟩
end Go.Proofs.YtjkbaihcdjbjiaaDoor
