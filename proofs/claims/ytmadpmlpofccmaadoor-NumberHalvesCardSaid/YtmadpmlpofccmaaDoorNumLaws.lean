/- Layer 5 (number): ParseFloat at every text; the document's fixed answers; the laws NumberNames, NumberFormats, NumberParses. -/
import Derived.Test.YtmadpmlpofccmaaDoorNumPf
namespace Go.Proofs.YtmadpmlpofccmaaDoor
open Go.RowKit

set_option maxHeartbeats 1000000 in
theorem parseFloat_any (s : ByteArray) (w : World) (hs : s.size ≤ 1073741824) (hL : Laid w) :
    Calls Tryd.prog 19 #[.string s] w (FloatRes (Num.parse s.data.toList) w) := by
  by_cases hn : s.data.toList = Num.NANS
  · have t1 : (s.toList == [48, 120, 110, 97, 110]) = true := by rw [Lib.toList_data, hn]; rfl
    have hp : Num.parse s.data.toList = some 9221120237041090560 := by unfold Num.parse; rw [if_pos hn]
    rw [hp]
    clear hp hn hL
    go_enter Tryd.func19, Tryd.ntmps19
    go_wp2
    go_ret2
    exact ⟨rfl, Below.refl _ _⟩
  · by_cases hh : s.data.toList.head? = some 45
    · exact parseFloat1 s w hs hL hn hh
    · exact parseFloat0 s w hs hL hn hh

theorem sp_int : Num.parseInt [45, 55, 48] = (-70, 0) := by decide +kernel
theorem sp_205 : Lib.itoa 205 = [50, 48, 53] := Num.itoa_of_parse (by decide +kernel)
theorem sp_float : Num.parse [48, 120, 49, 46, 56, 112, 48] = some 4609434218613702656 := by decide +kernel
theorem sp_fmt : Num.fmt 13821547256400052224 = [45, 48, 120, 49, 109, 50] := (Num.fmt_parse (by decide +kernel : Num.parse [45, 48, 120, 49, 109, 50] = some 13821547256400052224)).1

set_option maxHeartbeats 4000000 in
set_option maxRecDepth 100000 in
theorem speaks_any (w : World) (hL : Laid w) :
    Calls Tryd.prog 12 #[] w fun e w' => e = .returned (.bool true) ∧ Below w.heap.size w w' := by
  have h1 := parseInt_any ⟨#[45, 55, 48]⟩ w (by decide) hL
  have e1 : (⟨#[45, 55, 48]⟩ : ByteArray).data.toList = [45, 55, 48] := rfl
  rw [e1, sp_int] at h1
  have h2 := fun (W : World) (hb : Below w.heap.size w W) => parseFloat_any ⟨#[48, 120, 49, 46, 56, 112, 48]⟩ W (by decide) (hL.below hb)
  have e2 : (⟨#[48, 120, 49, 46, 56, 112, 48]⟩ : ByteArray).data.toList = [48, 120, 49, 46, 56, 112, 48] := rfl
  rw [e2, sp_float] at h2
  have h3 := fun (W : World) (hb : Below w.heap.size w W) => fmtInt_any 205 W (by omega) (by omega) (hL.below hb)
  rw [sp_205] at h3
  have h4 := fun (W : World) (hb : Below w.heap.size w W) => fmtFloat_any 13821547256400052224 W (by omega) (hL.below hb)
  rw [sp_fmt] at h4
  have H1 := Lib.hid h1
  have H2 := Lib.hid h2
  have H3 := Lib.hid h3
  have H4 := Lib.hid h4
  clear h1 h2 h3 h4 e1 e2 hL
  go_enter Tryd.func12, Tryd.ntmps12
  go_wp2_with fail
  refine H1.out.mono ?_
  rintro e w1 ⟨rfl, hb⟩
  have HB1 := Lib.hid hb
  clear hb
  go_wp2_with fail
  refine (H2.out w1 HB1.out).mono ?_
  rintro e w2 ⟨rfl, hb⟩
  have HB2 : Hid (Below w.heap.size w w2) := HB1.out.trans (hb.mono HB1.out.size)
  clear hb
  go_wp2_with fail
  refine (H3.out w2 HB2.out).mono ?_
  rintro e w3 ⟨rfl, hb⟩
  have HB3 : Hid (Below w.heap.size w w3) := HB2.out.trans (hb.mono HB2.out.size)
  clear hb
  go_wp2_with fail
  refine (H4.out w3 HB3.out).mono ?_
  rintro e w4 ⟨rfl, hb⟩
  have HB4 : Hid (Below w.heap.size w w4) := HB3.out.trans (hb.mono HB3.out.size)
  clear hb
  go_wp2
  go_ret
  exact ⟨rfl, HB4.out⟩

set_option maxHeartbeats 1000000 in
theorem numberNames_any (w : World) (hL : Laid w) :
    Calls Tryd.prog 3 #[] w fun e w' => e = .returned (.bool true) ∧ Below w.heap.size w w' := by
  have H := Lib.hid (speaks_any w hL)
  clear hL
  go_enter Tryd.func3, Tryd.ntmps3
  go_wp2_with fail
  refine H.out.mono ?_
  rintro e w1 ⟨rfl, hb⟩
  have HB1 := Lib.hid hb
  clear hb
  go_wp2
  go_ret
  exact ⟨rfl, HB1.out⟩

set_option maxHeartbeats 4000000 in
set_option maxRecDepth 100000 in
theorem numberFormats_any (n : Int) (w : World) (h0 : -9223372036854775808 ≤ n) (h1 : n ≤ 9223372036854775807) (hL : Laid w) :
    Calls Tryd.prog 4 #[.int .i64 n] w fun e w' => e = .returned (.bool true) ∧ Below w.heap.size w w' := by
  have H := Lib.hid (speaks_any w hL)
  obtain ⟨r, hr⟩ : ∃ r, Lib.itoa n = r := ⟨_, rfl⟩
  have h3 := fun (W : World) (hb : Below w.heap.size w W) => fmtInt_any n W h0 h1 (hL.below hb)
  have h4 := fun (W : World) => refFmtInt_any n W h0 h1
  rw [hr] at h3 h4
  have H3 := Lib.hid h3
  have H4 := Lib.hid h4
  clear hL h3 h4 hr
  go_enter Tryd.func4, Tryd.ntmps4
  go_wp2_with fail
  refine H.out.mono ?_
  rintro e w1 ⟨rfl, hb⟩
  have HB1 := Lib.hid hb
  clear hb
  go_wp2_with fail
  refine (H3.out w1 HB1.out).mono ?_
  rintro e w2 ⟨rfl, hb⟩
  have HB2 : Hid (Below w.heap.size w w2) := HB1.out.trans (hb.mono HB1.out.size)
  clear hb
  go_wp2_with fail
  refine (H4.out w2).mono ?_
  rintro e w3 ⟨rfl, hb⟩
  have HB3 : Hid (Below w.heap.size w w3) := HB2.out.trans (hb.mono HB2.out.size)
  clear hb
  go_wp2
  go_ret
  exact ⟨by simp, HB3.out⟩

set_option maxHeartbeats 4000000 in
set_option maxRecDepth 100000 in
theorem numberParses_any (s : ByteArray) (w : World) (hs : s.size ≤ 1073741824) (hL : Laid w) :
    Calls Tryd.prog 5 #[.string s] w fun e w' => e = .returned (.bool true) ∧ Below w.heap.size w w' := by
  have H := Lib.hid (speaks_any w hL)
  have h3 := fun (W : World) (hb : Below w.heap.size w W) => parseInt_any s W hs (hL.below hb)
  have h4 := fun (W : World) => refParseInt_any s W hs
  obtain ⟨x, hx⟩ : ∃ x, Num.parseInt s.data.toList = x := ⟨_, rfl⟩
  rw [hx] at h3 h4
  obtain ⟨v, n⟩ := x
  have H3 := Lib.hid h3
  have H4 := Lib.hid h4
  clear hL h3 h4 hx
  go_enter Tryd.func5, Tryd.ntmps5
  go_wp2_with fail
  refine H.out.mono ?_
  rintro e w1 ⟨rfl, hb⟩
  have HB1 := Lib.hid hb
  clear hb
  go_wp2_with fail
  refine (H3.out w1 HB1.out).mono ?_
  rintro e w2 ⟨rfl, hb⟩
  have HB2 : Hid (Below w.heap.size w w2) := HB1.out.trans (hb.mono HB1.out.size)
  clear hb
  go_wp2_with fail
  refine (H4.out w2).mono ?_
  rintro e w3 ⟨rfl, hb⟩
  have HB3 : Hid (Below w.heap.size w w3) := HB2.out.trans (hb.mono HB2.out.size)
  clear hb
  go_wp2
  go_ret
  exact ⟨by simp, HB3.out⟩
end Go.Proofs.YtmadpmlpofccmaaDoor
