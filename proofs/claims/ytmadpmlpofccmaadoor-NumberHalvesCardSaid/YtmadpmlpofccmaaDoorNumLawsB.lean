/- Layer 5 (number): the laws NumberThere, NumberOne, NumberSigns. -/
import Derived.Test.YtmadpmlpofccmaaDoorNumLaws
namespace Go.Proofs.YtmadpmlpofccmaaDoor
open Go.RowKit

theorem itoa_len20 {n : Int} (h0 : -9223372036854775808 ≤ n) (h1 : n ≤ 9223372036854775807) : (Lib.itoa n).length ≤ 21 := by
  unfold Lib.itoa
  split
  · rw [List.length_cons, Num.dec_len]
    have := nDigits_le 19 n.natAbs (by omega)
    omega
  · rw [Num.dec_len]
    have := nDigits_le 19 n.toNat (by omega)
    omega
theorem fracS_len (f : Nat) : (Num.fracS f).length ≤ 14 := by
  by_cases h : f = 0
  · subst h; decide
  · rw [fracS_trim h, List.length_cons]
    have := trim_len13 f
    omega
theorem form_len {f : Nat} {e : Int} (h0 : -2000 ≤ e) (h1 : e ≤ 2000) : (Num.form f e).length ≤ 23 := by
  unfold Num.form Num.expS
  rw [List.length_append, List.length_append]
  have a := fracS_len f
  split
  · have b := itoa_len5 (n := -e) (by omega) (by omega)
    simp only [List.length_cons, List.length_nil]
    omega
  · have b := itoa_len5 (n := e) (by omega) (by omega)
    simp only [List.length_cons, List.length_nil]
    omega
theorem fmtU_len {a : Nat} (h : a ≤ 9218868437227405312) : (Num.fmtU a).length ≤ 23 := by
  unfold Num.fmtU
  split
  · decide
  · split
    · decide
    · rename_i h1 h2
      obtain ⟨p1, p2, p3, p4, p5⟩ := Num.nparts h2 (by omega)
      exact form_len (by omega) (by omega)
theorem fmt_len (b : Nat) : (Num.fmt b).length ≤ 24 := by
  unfold Num.fmt
  split
  · decide
  · rename_i h
    have := fmtU_len (a := b % 9223372036854775808) (by omega)
    rw [List.length_append]
    cases decide (9223372036854775808 ≤ b) <;> simp [Num.sg] <;> omega
theorem fmtU_start (a : Nat) : ∃ r, Num.fmtU a = 48 :: 120 :: r := by
  unfold Num.fmtU
  split
  · exact ⟨_, rfl⟩
  · split
    · exact ⟨_, rfl⟩
    · exact ⟨_, rfl⟩
/-- a float's form is no whole number's -/
theorem fmt_isInt (b : Nat) : Num.isInt (Num.fmt b) = false := by
  unfold Num.fmt
  split
  · decide
  · obtain ⟨r, hr⟩ := fmtU_start (b % 9223372036854775808)
    rw [hr]
    cases decide (9223372036854775808 ≤ b)
    · rw [isInt_rest (by simp [Num.sg])]; rfl
    · rw [isInt_rest (by simp [Num.sg])]; rfl
theorem parseInt_range (l : List UInt8) : -9223372036854775808 ≤ (Num.parseInt l).1 ∧ (Num.parseInt l).1 ≤ 9223372036854775807 := by
  unfold Num.parseInt
  simp only
  repeat' split
  all_goals (simp only; omega)
theorem one_form {s : List UInt8} {n : Int} {b : Nat} (h1 : Num.parseInt s = (n, 0)) (h2 : Num.parse s = some b) : False := by
  obtain ⟨e, _, _⟩ := Num.fmt_parse h2
  have h3 := Num.parseInt_bad (fmt_isInt b)
  rw [e, h1] at h3
  cases h3

/-- bits << 1 > 0x7ff << 53 -/
theorem nan_any (b : Nat) (w : World) (hb : b < 18446744073709551616) :
    Calls Tryd.prog 21 #[.int .u64 b] w fun e w' => e = .returned (.bool (decide (9218868437227405312 < b % 9223372036854775808))) ∧ w = w' := by
  have e1 : IntKind.u64.wrap ((b : Int) * 2) = (b : Int) * 2 % 18446744073709551616 := by rw [IntKind.wrap_u64]
  have e2 : decide (18437736874454810624 < (b : Int) * 2 % 18446744073709551616) = decide (9218868437227405312 < b % 9223372036854775808) := by
    congr 1
    rw [eq_iff_iff]
    omega
  obtain ⟨d, hd⟩ : ∃ d, decide (9218868437227405312 < b % 9223372036854775808) = d := ⟨_, rfl⟩
  rw [hd] at e2 ⊢
  obtain ⟨x, hx⟩ : ∃ x, (b : Int) * 2 % 18446744073709551616 = x := ⟨_, rfl⟩
  rw [hx] at e1 e2
  clear hx hd
  go_enter Tryd.func21, Tryd.ntmps21
  go_wp2
  go_ret
  exact ⟨rfl, rfl⟩

set_option maxHeartbeats 8000000 in
set_option maxRecDepth 100000 in
theorem numberThere_any (n b : Int) (w : World) (h0 : -9223372036854775808 ≤ n) (h1 : n ≤ 9223372036854775807) (g0 : 0 ≤ b) (g1 : b ≤ 18446744073709551615) (hL : Laid w) :
    Calls Tryd.prog 8 #[.int .i64 n, .int .u64 b] w fun e w' => e = .returned (.bool true) ∧ Below w.heap.size w w' := by
  obtain ⟨b, rfl⟩ : ∃ m : Nat, b = (m : Int) := ⟨b.toNat, by omega⟩
  have H := Lib.hid (speaks_any w hL)
  have hr1 := itoa_len20 h0 h1
  have hp1 := Num.parse_itoa n h0 h1
  have hr2 := fmt_len b
  have hp2 := Num.parse_fmt (b := b) (by omega)
  obtain ⟨r, hr⟩ : ∃ r, Lib.itoa n = r := ⟨_, rfl⟩
  obtain ⟨q, hq⟩ : ∃ q, Num.fmt b = q := ⟨_, rfl⟩
  have h3 := fun (W : World) (hb : Below w.heap.size w W) => fmtInt_any n W h0 h1 (hL.below hb)
  have h4 := fun (W : World) (hb : Below w.heap.size w W) => parseInt_any ⟨r.toArray⟩ W (by rw [size_list, ← hr]; omega) (hL.below hb)
  have h5 := fun (W : World) (hb : Below w.heap.size w W) => fmtFloat_any b W (by omega) (hL.below hb)
  have h6 := fun (W : World) (hb : Below w.heap.size w W) => parseFloat_any ⟨q.toArray⟩ W (by rw [size_list, ← hq]; omega) (hL.below hb)
  have h7 := fun (W : World) => nan_any b W (by omega)
  rw [hr] at h3 hp1
  rw [hq] at h5 hp2
  simp only [hp1] at h4
  simp only [hp2] at h6
  have hc : Num.canon b = if 9218868437227405312 < b % 9223372036854775808 then 9221120237041090560 else b := rfl
  obtain ⟨d, hd⟩ : ∃ d, decide (9218868437227405312 < b % 9223372036854775808) = d := ⟨_, rfl⟩
  rw [hd] at h7
  have hc2 : Num.canon b = if d = true then 9221120237041090560 else b := by rw [hc, ← hd]; simp
  cases d
  all_goals
    first | rw [if_pos rfl] at hc2 | rw [if_neg (by decide)] at hc2
    rw [hc2] at h6
    have H3 := Lib.hid h3
    have H4 := Lib.hid h4
    have H5 := Lib.hid h5
    have H6 := Lib.hid h6
    have H7 := Lib.hid h7
    clear hL h3 h4 h5 h6 h7 hr hq hp1 hp2 hc hc2 hd hr1 hr2
    go_enter Tryd.func8, Tryd.ntmps8
    go_wp2_with fail
    refine H.out.mono ?_
    rintro e w1 ⟨rfl, hb⟩
    have HB1 := Lib.hid hb
    clear hb
    go_wp2_with fail
    refine (H3.out w1 HB1.out).mono ?_
    rintro e w2 ⟨rfl, hb⟩
    have HB2 : Hid (Below w.heap.size w w2) := HB1.out.trans (hb.mono HB1.out.size)
    clear hb
    go_wp2_with fail
    refine (H4.out w2 HB2.out).mono ?_
    rintro e w3 ⟨rfl, hb⟩
    have HB3 : Hid (Below w.heap.size w w3) := HB2.out.trans (hb.mono HB2.out.size)
    clear hb
    go_wp2_with fail
    refine (H5.out w3 HB3.out).mono ?_
    rintro e w4 ⟨rfl, hb⟩
    have HB4 : Hid (Below w.heap.size w w4) := HB3.out.trans (hb.mono HB3.out.size)
    clear hb
    go_wp2_with fail
    refine (H6.out w4 HB4.out).mono ?_
    rintro e w5 ⟨rfl, hb⟩
    have HB5 : Hid (Below w.heap.size w w5) := HB4.out.trans (hb.mono HB4.out.size)
    clear hb
    go_wp2_with fail
    refine (H7.out w5).mono ?_
    rintro e w6 ⟨rfl, rfl⟩
    go_wp2
    go_ret
    exact ⟨by simp, HB5.out⟩

set_option maxHeartbeats 8000000 in
set_option maxRecDepth 100000 in
theorem numberOne_any (s : ByteArray) (w : World) (hs : s.size ≤ 1073741824) (hL : Laid w) :
    Calls Tryd.prog 9 #[.string s] w fun e w' => e = .returned (.bool true) ∧ Below w.heap.size w w' := by
  have H := Lib.hid (speaks_any w hL)
  have h3 := fun (W : World) (hb : Below w.heap.size w W) => parseInt_any s W hs (hL.below hb)
  have h4 := fun (W : World) (hb : Below w.heap.size w W) => parseFloat_any s W hs (hL.below hb)
  have hno := fun n b => @one_form s.data.toList n b
  have hrng := parseInt_range s.data.toList
  obtain ⟨x, hx⟩ : ∃ x, Num.parseInt s.data.toList = x := ⟨_, rfl⟩
  obtain ⟨y, hy⟩ : ∃ y, Num.parse s.data.toList = y := ⟨_, rfl⟩
  have hf := fun n (e : x = (n, 0)) => Num.itoa_of_parse (l := s.data.toList) (n := n) (hx.trans e)
  have hg := fun b (e : y = some b) => Num.fmt_parse (s := s.data.toList) (b := b) (hy.trans e)
  rw [hx] at h3 hno hrng
  rw [hy] at h4 hno
  obtain ⟨v, k⟩ := x
  have h5 := fun (W : World) (hb : Below w.heap.size w W) => fmtInt_any v W hrng.1 hrng.2 (hL.below hb)
  have h6 := fun (b : Nat) (hbb : b < 18446744073709551616) (W : World) (hb : Below w.heap.size w W) => fmtFloat_any b W hbb (hL.below hb)
  have hself : (⟨s.data.toList.toArray⟩ : ByteArray) = s := by cases s; simp
  have H3 := Lib.hid h3
  have H4 := Lib.hid h4
  have H5 := Lib.hid h5
  have H6 := Lib.hid h6
  have HF := Lib.hid hf
  have HG := Lib.hid hg
  have HNO := Lib.hid hno
  have HSELF := Lib.hid hself
  clear hL h3 h4 h5 h6 hx hy hf hg hno hself hrng
  by_cases hk : k = 0
  · subst hk
    have h7 := fun W hb => H5.out W hb
    rw [HF.out v rfl, HSELF.out] at h7
    have H7 := Lib.hid h7
    clear h7
    cases y with
    | some b => exact (HNO.out v b rfl rfl).elim
    | none =>
      go_enter Tryd.func9, Tryd.ntmps9
      go_wp2_with fail
      refine H.out.mono ?_
      rintro e w1 ⟨rfl, hb⟩
      have HB1 := Lib.hid hb
      clear hb
      go_wp2_with fail
      refine (H3.out w1 HB1.out).mono ?_
      rintro e w2 ⟨rfl, hb⟩
      have HB2 : Hid (Below w.heap.size w w2) := HB1.out.trans (hb.mono HB1.out.size)
      clear hb
      go_wp2_with fail
      refine (H7.out w2 HB2.out).mono ?_
      rintro e w3 ⟨rfl, hb⟩
      have HB3 : Hid (Below w.heap.size w w3) := HB2.out.trans (hb.mono HB2.out.size)
      clear hb
      go_wp2_with fail
      refine (H4.out w3 HB3.out).mono ?_
      rintro e w4 ⟨rfl, hb⟩
      have HB4 : Hid (Below w.heap.size w w4) := HB3.out.trans (hb.mono HB3.out.size)
      clear hb
      go_wp2
      go_ret
      exact ⟨by simp, HB4.out⟩
  · have hk1 : ((k : Int) == 0) = false := by rw [beq_eq_false_iff_ne]; omega
    have hk2 : ((k : Int) != 0) = true := by rw [bne_iff_ne]; omega
    cases y with
    | none =>
      go_enter Tryd.func9, Tryd.ntmps9
      go_wp2_with fail
      refine H.out.mono ?_
      rintro e w1 ⟨rfl, hb⟩
      have HB1 := Lib.hid hb
      clear hb
      go_wp2_with fail
      refine (H3.out w1 HB1.out).mono ?_
      rintro e w2 ⟨rfl, hb⟩
      have HB2 : Hid (Below w.heap.size w w2) := HB1.out.trans (hb.mono HB1.out.size)
      clear hb
      go_wp2_with fail
      refine (H4.out w2 HB2.out).mono ?_
      rintro e w4 ⟨rfl, hb⟩
      have HB4 : Hid (Below w.heap.size w w4) := HB2.out.trans (hb.mono HB2.out.size)
      clear hb
      go_wp2
      go_ret
      exact ⟨by simp, HB4.out⟩
    | some b =>
      obtain ⟨g1, g2, -⟩ := HG.out b rfl
      have h7 := fun W hb => H6.out b g2 W hb
      rw [g1, HSELF.out] at h7
      have H7 := Lib.hid h7
      clear h7 g1 g2
      go_enter Tryd.func9, Tryd.ntmps9
      go_wp2_with fail
      refine H.out.mono ?_
      rintro e w1 ⟨rfl, hb⟩
      have HB1 := Lib.hid hb
      clear hb
      go_wp2_with fail
      refine (H3.out w1 HB1.out).mono ?_
      rintro e w2 ⟨rfl, hb⟩
      have HB2 : Hid (Below w.heap.size w w2) := HB1.out.trans (hb.mono HB1.out.size)
      clear hb
      go_wp2_with fail
      refine (H4.out w2 HB2.out).mono ?_
      rintro e w3 ⟨rfl, hb⟩
      have HB3 : Hid (Below w.heap.size w w3) := HB2.out.trans (hb.mono HB2.out.size)
      clear hb
      go_wp2_with fail
      refine (H7.out w3 HB3.out).mono ?_
      rintro e w4 ⟨rfl, hb⟩
      have HB4 : Hid (Below w.heap.size w w4) := HB3.out.trans (hb.mono HB3.out.size)
      clear hb
      go_wp2
      go_ret
      exact ⟨by simp, HB4.out⟩
end Go.Proofs.YtmadpmlpofccmaaDoor
