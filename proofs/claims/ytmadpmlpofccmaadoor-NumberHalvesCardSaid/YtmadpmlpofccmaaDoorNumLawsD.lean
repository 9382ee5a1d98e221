/- Layer 5 (number): the laws NumberFloats, NumberReads and NumberHalves. -/
import Derived.Test.YtmadpmlpofccmaaDoorNumLawsC
import Derived.Test.YtmadpmlpofccmaaDoorRefParse
import Derived.Deep.QuietTactic
import Derived.BigQuiet
namespace Go.Proofs.YtmadpmlpofccmaaDoor
open Go.RowKit

set_option maxHeartbeats 4000000 in
set_option maxRecDepth 100000 in
theorem numberFloats_any (b : Int) (w : World) (g0 : 0 ≤ b) (g1 : b ≤ 18446744073709551615) (hL : Laid w) :
    Calls Tryd.prog 6 #[.int .u64 b] w fun e w' => e = .returned (.bool true) ∧ Below w.heap.size w w' := by
  obtain ⟨b, rfl⟩ : ∃ m : Nat, b = (m : Int) := ⟨b.toNat, by omega⟩
  have H := Lib.hid (speaks_any w hL)
  have h3 := fun (W : World) (hb : Below w.heap.size w W) => fmtFloat_any b W (by omega) (hL.below hb)
  have h4 := fun (W : World) => refFmt_any b W (by omega)
  obtain ⟨r, hr⟩ : ∃ r, Num.fmt b = r := ⟨_, rfl⟩
  rw [hr] at h3 h4
  have H3 := Lib.hid h3
  have H4 := Lib.hid h4
  clear hL h3 h4 hr
  go_enter Tryd.func6, Tryd.ntmps6
  go_wp2_with fail
  refine H.out.mono ?_
  rintro e w1 ⟨rfl, hb⟩
  have HB1 := Lib.hid hb
  clear hb
  go_wp2_with fail
  refine (H3.out w1 HB1.out).mono ?_
  rintro e w2 ⟨rfl, hb⟩
  have HB2 : Hid (Below w.heap.size w w2) := HB1.out.trans (hb.mono HB1.out.size)
  clear hb
  go_wp2_with fail
  refine (H4.out w2).mono ?_
  rintro e w3 ⟨rfl, hb⟩
  have HB3 : Hid (Below w.heap.size w w3) := HB2.out.trans (hb.mono HB2.out.size)
  clear hb
  go_wp2
  go_ret
  exact ⟨by simp, HB3.out⟩

set_option maxHeartbeats 4000000 in
set_option maxRecDepth 100000 in
theorem numberReads_any (s : ByteArray) (w : World) (hs : s.size ≤ 1073741824) (hL : Laid w) :
    Calls Tryd.prog 7 #[.string s] w fun e w' => e = .returned (.bool true) ∧ Below w.heap.size w w' := by
  have H := Lib.hid (speaks_any w hL)
  have h3 := fun (W : World) (hb : Below w.heap.size w W) => parseFloat_any s W hs (hL.below hb)
  have h4 := fun (W : World) => refParseFloat_any s W hs
  rw [Num.refParse_eq] at h4
  obtain ⟨x, hx⟩ : ∃ x, Num.parse s.data.toList = x := ⟨_, rfl⟩
  rw [hx] at h3 h4
  obtain ⟨v, hv⟩ : ∃ v : Int, ((x.getD 0 : Nat) : Int) = v := ⟨_, rfl⟩
  obtain ⟨n, hn⟩ : ∃ n : Int, (if x.isSome then 0 else 52) = n := ⟨_, rfl⟩
  unfold FloatRes at h3 h4
  simp only [hv, hn] at h3 h4
  have H3 := Lib.hid h3
  have H4 := Lib.hid h4
  clear hL h3 h4 hx
  have hn1 : 0 ≤ n := by rw [← hn]; split <;> omega
  have hn2 : n ≤ 52 := by rw [← hn]; split <;> omega
  clear hn hv
  go_enter Tryd.func7, Tryd.ntmps7
  go_wp2_with fail
  refine H.out.mono ?_
  rintro e w1 ⟨rfl, hb⟩
  have HB1 := Lib.hid hb
  clear hb
  go_wp2_with fail
  refine (H3.out w1 HB1.out).mono ?_
  rintro e w2 ⟨rfl, hb⟩
  have HB2 : Hid (Below w.heap.size w w2) := HB1.out.trans (hb.mono HB1.out.size)
  clear hb
  go_wp2_with fail
  refine (H4.out w2).mono ?_
  rintro e w3 ⟨rfl, hb⟩
  have HB3 : Hid (Below w.heap.size w w3) := HB2.out.trans (hb.mono HB2.out.size)
  clear hb
  go_wp2
  go_ret
  exact ⟨by simp, HB3.out⟩

theorem form_p {f : Nat} {e : Nat} : Num.form f (e : Int) = [48, 120, 49] ++ Num.fracS f ++ 112 :: Lib.itoa (e : Int) := by
  unfold Num.form Num.expS
  rw [if_neg (by omega)]
  simp
theorem form_head_not (f : Nat) : ∀ x ∈ [48, 120, 49] ++ Num.fracS f, x ≠ 112 := by
  intro x hx
  rcases List.mem_append.1 hx with h | h
  · simp at h
    rcases h with rfl | rfl | rfl <;> decide
  · exact (Num.fracS_not f x h).1

theorem at_mid {z : ByteArray} {u r : List UInt8} {n : Nat} (hz : z.data.toList = u ++ 112 :: r) (hn : u.length = n) (i : n < z.size) : z[n]'i = 112 := by
  subst hn
  have h1 := Lib.data_getElem? z u.length i
  rw [hz] at h1
  simp at h1
  exact h1.symm
theorem below_drew {B : Nat} {a w : World} (h : Below B a w) (n : Nat) : Below B a (w.drewN n) := ⟨h.os, h.tape, h.output, h.size, h.block⟩

set_option maxHeartbeats 8000000 in
set_option maxRecDepth 100000 in
theorem numberHalves_any (b : Int) (w : World) (g0 : 0 ≤ b) (g1 : b ≤ 18446744073709551615) (hL : Laid w) :
    Calls Tryd.prog 11 #[.int .u64 b] w fun e w' => e = .returned (.bool true) ∧ Below w.heap.size w w' := by
  obtain ⟨b, rfl⟩ : ∃ m : Nat, b = (m : Int) := ⟨b.toNat, by omega⟩
  have H := Lib.hid (speaks_any w hL)
  have hand := and_low63 b (by omega)
  obtain ⟨a, ha⟩ : ∃ a, b % 9223372036854775808 = a := ⟨_, rfl⟩
  have hab : a < 9223372036854775808 := by omega
  rw [ha] at hand
  obtain ⟨x, hx⟩ : ∃ x, a / 4503599627370496 = x := ⟨_, rfl⟩
  have k1 : (a : Int) / 4503599627370496 = x := by omega
  have hxb : x ≤ 2047 := by omega
  by_cases hr : x < 1024 ∨ 2045 < x
  · have x1 : (x : Int) ≤ 2047 := by omega
    clear ha hab hx hL
    by_cases h1 : x < 1024
    · have t1 : decide ((x : Int) < 1024) = true := decide_eq_true (by omega)
      clear h1 hr
      go_enter Tryd.func11, Tryd.ntmps11
      go_wp2_with fail
      refine H.out.mono ?_
      rintro e w1 ⟨rfl, hb⟩
      have HB1 := Lib.hid hb
      clear hb
      go_wp2
      go_ret
      exact ⟨rfl, HB1.out⟩
    · have t1 : decide ((x : Int) < 1024) = false := decide_eq_false (by omega)
      have t2 : decide (2045 < (x : Int)) = true := decide_eq_true (by omega)
      clear h1 hr
      go_enter Tryd.func11, Tryd.ntmps11
      go_wp2_with fail
      refine H.out.mono ?_
      rintro e w1 ⟨rfl, hb⟩
      have HB1 := Lib.hid hb
      clear hb
      go_wp2
      go_ret
      exact ⟨rfl, HB1.out⟩
  have t1 : decide ((x : Int) < 1024) = false := decide_eq_false (by omega)
  have t2 : decide (2045 < (x : Int)) = false := decide_eq_false (by omega)
  obtain ⟨m, hm⟩ : ∃ m, x = m + 1023 := ⟨x - 1023, by omega⟩
  have xi1 : (x : Int) ≤ 2045 := by omega
  have xi2 : (1024 : Int) ≤ x := by omega
  have t3 : ((m : Int) == (x : Int) - 1023) = true := by rw [beq_iff_eq]; omega
  have t4 : (((m + 1 : Nat) : Int) == (m : Int) + 1) = true := by rw [beq_iff_eq]; omega
  obtain ⟨f, hf⟩ : ∃ f, a % 4503599627370496 = f := ⟨_, rfl⟩
  obtain ⟨c, hc⟩ : ∃ c, a + 4503599627370496 = c := ⟨_, rfl⟩
  have e1 : Num.fmt a = Num.form f (m : Int) := by
    rw [fmt_low hab, if_neg (by omega)]
    unfold Num.fmtU
    rw [if_neg (by omega), if_neg (by omega)]
    unfold Num.nfrac Num.nexp
    rw [if_neg (by omega), if_neg (by omega), hf, hx, hm]
    congr 1
    omega
  have e2 : Num.fmt c = Num.form f ((m + 1 : Nat) : Int) := by
    rw [fmt_low (by omega), if_neg (by omega)]
    unfold Num.fmtU
    rw [if_neg (by omega), if_neg (by omega)]
    unfold Num.nfrac Num.nexp
    rw [if_neg (by omega), if_neg (by omega), show c % 4503599627370496 = f by omega, show c / 4503599627370496 = m + 1 + 1023 by omega]
    congr 1
    omega
  rw [form_p] at e1 e2
  obtain ⟨u, hu⟩ : ∃ u, [48, 120, 49] ++ Num.fracS f = u := ⟨_, rfl⟩
  have hun := form_head_not f
  rw [hu] at e1 e2 hun
  have h5 := fun (W : World) (hb : Below w.heap.size w W) => fmtFloat_any a W (by omega) (hL.below hb)
  have h6 := fun (W : World) (hb : Below w.heap.size w W) => fmtFloat_any c W (by omega) (hL.below hb)
  rw [e1] at h5
  rw [e2] at h6
  obtain ⟨r1, hr1⟩ : ∃ r, Lib.itoa (m : Int) = r := ⟨_, rfl⟩
  obtain ⟨r2, hr2⟩ : ∃ r, Lib.itoa ((m + 1 : Nat) : Int) = r := ⟨_, rfl⟩
  have p1 := Num.parse_itoa (m : Int) (by omega) (by omega)
  have p2 := Num.parse_itoa ((m + 1 : Nat) : Int) (by omega) (by omega)
  have l1 := itoa_len20 (n := (m : Int)) (by omega) (by omega)
  have l2 := itoa_len20 (n := ((m + 1 : Nat) : Int)) (by omega) (by omega)
  rw [hr1] at p1 l1 h5
  rw [hr2] at p2 l2 h6
  have hul : u.length ≤ 17 := by rw [← hu, List.length_append]; have := fracS_len f; simp; omega
  obtain ⟨n, hn⟩ : ∃ n, u.length = n := ⟨_, rfl⟩
  obtain ⟨z1, hz1⟩ : ∃ z : ByteArray, (⟨(u ++ 112 :: r1).toArray⟩ : ByteArray) = z := ⟨_, rfl⟩
  obtain ⟨z2, hz2⟩ : ∃ z : ByteArray, (⟨(u ++ 112 :: r2).toArray⟩ : ByteArray) = z := ⟨_, rfl⟩
  obtain ⟨up, hup⟩ : ∃ z : ByteArray, (⟨u.toArray⟩ : ByteArray) = z := ⟨_, rfl⟩
  obtain ⟨y1, hy1⟩ : ∃ z : ByteArray, (⟨r1.toArray⟩ : ByteArray) = z := ⟨_, rfl⟩
  obtain ⟨y2, hy2⟩ : ∃ z : ByteArray, (⟨r2.toArray⟩ : ByteArray) = z := ⟨_, rfl⟩
  have s1 : z1.size = n + 1 + r1.length := by rw [← hz1, size_list, List.length_append, List.length_cons, hn]; omega
  have s2 : z2.size = n + 1 + r2.length := by rw [← hz2, size_list, List.length_append, List.length_cons, hn]; omega
  have d1 : z1.data.toList = u ++ 112 :: r1 := by rw [← hz1]
  have d2 : z2.data.toList = u ++ 112 :: r2 := by rw [← hz2]
  have x1 : z1.extract 0 n = up := by
    rw [← hup]; apply ByteArray.ext; apply Array.toList_inj.1; rw [Lib.extract_data, d1]; simp [← hn]
  have x2 : z2.extract 0 n = up := by
    rw [← hup]; apply ByteArray.ext; apply Array.toList_inj.1; rw [Lib.extract_data, d2]; simp [← hn]
  have x3 : z1.extract (n + 1) z1.size = y1 := by
    rw [← hy1]; apply ByteArray.ext; apply Array.toList_inj.1; rw [Lib.extract_data, d1, List.take_of_length_le (by simp; omega)]; simp [← hn]
  have x4 : z2.extract (n + 1) z2.size = y2 := by
    rw [← hy2]; apply ByteArray.ext; apply Array.toList_inj.1; rw [Lib.extract_data, d2, List.take_of_length_le (by simp; omega)]; simp [← hn]
  have i1 : n < z1.size := by omega
  have i2 : n < z2.size := by omega
  have c1 : z1[n]'i1 = 112 := at_mid d1 hn i1
  have c2 : z2[n]'i2 = 112 := at_mid d2 hn i2
  have cn : ∀ k (hk : k < n) (hk2 : k < z1.size), z1[k]'hk2 ≠ 112 := by
    intro k hk hk2
    have h1 := Lib.data_getElem? z1 k hk2
    rw [d1, List.getElem?_append_left (by omega)] at h1
    exact hun _ (List.mem_of_getElem? h1)
  have h7 := fun (W : World) (hb : Below w.heap.size w W) => parseInt_any y1 W (by rw [← hy1, size_list]; omega) (hL.below hb)
  have h8 := fun (W : World) (hb : Below w.heap.size w W) => parseInt_any y2 W (by rw [← hy2, size_list]; omega) (hL.below hb)
  have q1 : y1.data.toList = r1 := by rw [← hy1]
  have q2 : y2.data.toList = r2 := by rw [← hy2]
  rw [q1, p1] at h7
  rw [q2, p2] at h8
  rw [hz1] at h5
  rw [hz2] at h6
  have kc : (a : Int) + 4503599627370496 = c := by omega
  have ai : (a : Int) ≤ 9218868437227405312 := by omega
  have mi : (m : Int) ≤ 1022 := by omega
  have n17 : n ≤ 17 := by omega
  have z1b : z1.size ≤ 40 := by omega
  have z2b : z2.size ≤ 40 := by omega
  have H5 := Lib.hid h5
  have H6 := Lib.hid h6
  have H7 := Lib.hid h7
  have H8 := Lib.hid h8
  have CN := Lib.hid cn
  have C1 := Lib.hid c1
  have C2 := Lib.hid c2
  have X1 := Lib.hid x1
  have X2 := Lib.hid x2
  have X3 := Lib.hid x3
  have X4 := Lib.hid x4
  clear hxb hm h5 h6 h7 h8 cn c1 c2 x1 x2 x3 x4 q1 q2 d1 d2 s1 s2 hy1 hy2 hup hz1 hz2 hn hul l1 l2 p1 p2 hr1 hr2 hun hu e1 e2 hc hf hr hx ha hab hL
  go_enter Tryd.func11, Tryd.ntmps11
  go_wp2_with fail
  refine H.out.mono ?_
  rintro e w1 ⟨rfl, hb⟩
  have HB1 := Lib.hid hb
  clear hb
  go_wp2_with fail
  refine (H5.out w1 HB1.out).mono ?_
  rintro e w2 ⟨rfl, hb⟩
  have HB2 : Hid (Below w.heap.size w w2) := HB1.out.trans (hb.mono HB1.out.size)
  clear hb
  go_wp2_with fail
  refine (H6.out w2 HB2.out).mono ?_
  rintro e w3 ⟨rfl, hb⟩
  have HB3 : Hid (Below w.heap.size w w3) := HB2.out.trans (hb.mono HB2.out.size)
  clear hb kc ai
  go_upto_block 0 with fail
  go_cut [7] (fun s7 wx => s7 = .int .i64 (n : Int) ∧ w3 = wx)
  case first =>
    go_wp2_with fail
    go_loopg [7] n (fun g s7 wr => ∃ k : Nat, k + g = n ∧ s7 = .int .i64 (k : Int) ∧ w3 = wr)
    case atStart => exact ⟨0, by omega, rfl, rfl⟩
    case round =>
      obtain ⟨k, hk, rfl, rfl⟩ := hrel
      have hkl : k < z1.size := by omega
      have hki : (k : Int) < z1.size := by omega
      have HK := Lib.hid hk
      cases gk with
      | zero =>
        obtain rfl : k = n := by omega
        have t5 : (((z1[k]'hkl).toNat : Int) != 112) = false := by rw [C1.out]; rfl
        clear hk
        go_wp2_with fail
        go_meet
        exact ⟨rfl, rfl⟩
      | succ g =>
        have hne := CN.out k (by omega) hkl
        have t5 : (((z1[k]'hkl).toNat : Int) != 112) = true := by
          rw [bne_iff_ne]
          intro e
          exact hne (UInt8.toNat_inj.1 (by show (z1[k]'hkl).toNat = 112; omega))
        clear hk hne
        go_wp2
        go_roundg g
        case measure => omega
        case rel => exact ⟨k + 1, by have := HK.out; omega, int_eq' (by omega), rfl⟩
  case rest =>
    obtain ⟨rfl, rfl⟩ := hcut
    go_upto_region 12 with fail
    go_cut [65] (fun s65 wx => s65 = .bool false ∧ ∃ q, wx = w3.drewN q)
    case first =>
      have t5 : (((z2[n]'i2).toNat : Int) != 112) = false := by rw [C2.out]; rfl
      have d1 : decide (z1.size ≤ n) = false := decide_eq_false (by omega)
      have d2 : decide (z2.size ≤ n) = false := decide_eq_false (by omega)
      have x1 := X1.out
      have x2 := X2.out
      go_quiet (fail)
      all_goals go_wp2_with fail
      go_meet
      exact ⟨rfl, _, rfl⟩
    case rest =>
      obtain ⟨rfl, q, rfl⟩ := hcut
      have x3 := X3.out
      have x4 := X4.out
      have HB4 : Hid (Below w.heap.size w (w3.drewN q)) := below_drew HB3.out q
      go_wp2_with fail
      refine (H7.out _ HB4.out).mono ?_
      rintro e w4 ⟨rfl, hb⟩
      have HB5 : Hid (Below w.heap.size w w4) := HB4.out.trans (hb.mono HB4.out.size)
      clear hb
      go_wp2_with fail
      refine (H8.out w4 HB5.out).mono ?_
      rintro e w5 ⟨rfl, hb⟩
      have HB6 : Hid (Below w.heap.size w w5) := HB5.out.trans (hb.mono HB5.out.size)
      clear hb
      go_wp2
      go_ret
      exact ⟨rfl, HB6.out⟩
end Go.Proofs.YtmadpmlpofccmaaDoor
