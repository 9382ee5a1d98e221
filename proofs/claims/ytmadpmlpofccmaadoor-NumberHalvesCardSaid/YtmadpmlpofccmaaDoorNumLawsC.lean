/- Layer 5 (number): the laws NumberSigns and NumberHalves. -/
import Derived.Test.YtmadpmlpofccmaaDoorNumLawsB
namespace Go.Proofs.YtmadpmlpofccmaaDoor
open Go.RowKit

theorem and_low63 (b : Nat) (hb : b < 18446744073709551616) : bits BinOp.and IntKind.u64 (b : Int) 9223372036854775807 = ((b % 9223372036854775808 : Nat) : Int) := by
  rw [show (9223372036854775807 : Int) = ((9223372036854775807 : Nat) : Int) from rfl, bits_and_u64_nat _ _ hb (by omega), show (9223372036854775807 : Nat) = 2 ^ 63 - 1 from rfl, Nat.and_two_pow_sub_one_eq_mod]
theorem or_top (a : Nat) (ha : a < 9223372036854775808) : bits BinOp.or IntKind.u64 (a : Int) 9223372036854775808 = ((a + 9223372036854775808 : Nat) : Int) := by
  rw [show (9223372036854775808 : Int) = ((9223372036854775808 : Nat) : Int) from rfl, bits_or_u64_nat _ _ (by omega) (by omega)]
  congr 1
  have h := Nat.two_pow_add_eq_or_of_lt (i := 63) (b := a) ha 1
  rw [Nat.or_comm]
  rw [show (9223372036854775808 : Nat) = 2 ^ 63 * 1 from rfl, ← h]
  omega
theorem fmt_low {a : Nat} (h : a < 9223372036854775808) : Num.fmt a = if 9218868437227405312 < a then Num.NANS else Num.fmtU a := by
  unfold Num.fmt
  rw [Nat.mod_eq_of_lt h, decide_eq_false (by omega)]
  rfl
theorem fmt_high {a : Nat} (h : a < 9223372036854775808) : Num.fmt (a + 9223372036854775808) = if 9218868437227405312 < a then Num.NANS else 45 :: Num.fmtU a := by
  unfold Num.fmt
  rw [show (a + 9223372036854775808) % 9223372036854775808 = a by omega, decide_eq_true (by omega)]
  rfl
theorem itoa_minus {n : Int} (h : 0 < n) : Lib.itoa (-n) = 45 :: Lib.itoa n := by
  unfold Lib.itoa
  rw [if_pos (by omega), if_neg (by omega), Int.natAbs_neg]
  congr 1
  congr 1
  omega

set_option maxHeartbeats 8000000 in
set_option maxRecDepth 100000 in
theorem numberSigns_any (n b : Int) (w : World) (h0 : -9223372036854775808 ≤ n) (h1 : n ≤ 9223372036854775807) (g0 : 0 ≤ b) (g1 : b ≤ 18446744073709551615) (hL : Laid w) :
    Calls Tryd.prog 10 #[.int .i64 n, .int .u64 b] w fun e w' => e = .returned (.bool true) ∧ Below w.heap.size w w' := by
  obtain ⟨b, rfl⟩ : ∃ m : Nat, b = (m : Int) := ⟨b.toNat, by omega⟩
  have H := Lib.hid (speaks_any w hL)
  have hand := and_low63 b (by omega)
  obtain ⟨a, ha⟩ : ∃ a, b % 9223372036854775808 = a := ⟨_, rfl⟩
  have hab : a < 9223372036854775808 := by omega
  rw [ha] at hand
  have hor := or_top a hab
  obtain ⟨c, hc⟩ : ∃ c, a + 9223372036854775808 = c := ⟨_, rfl⟩
  rw [hc] at hor
  have h7 := fun (W : World) => nan_any a W (by omega)
  rw [Nat.mod_eq_of_lt hab] at h7
  have h5 := fun (W : World) (hb : Below w.heap.size w W) => fmtFloat_any a W (by omega) (hL.below hb)
  have h6 := fun (W : World) (hb : Below w.heap.size w W) => fmtFloat_any c W (by omega) (hL.below hb)
  rw [fmt_low hab] at h5
  rw [← hc, fmt_high hab, hc] at h6
  have HLD := Lib.hid hL
  obtain ⟨r, hr⟩ : ∃ r, Lib.itoa n = r := ⟨_, rfl⟩
  have h3 := fun (W : World) (hb : Below w.heap.size w W) => fmtInt_any n W h0 h1 (hL.below hb)
  rw [hr] at h3
  have hai : (a : Int) ≤ 9223372036854775807 := by omega
  have hrl : r.length ≤ 21 := by rw [← hr]; exact itoa_len20 h0 h1
  have HR := Lib.hid hr
  have H3 := Lib.hid h3
  by_cases hn : 0 < n
  · have t1 : decide (0 < n) = true := decide_eq_true hn
    have h4 := fun (W : World) (hb : Below w.heap.size w W) => fmtInt_any (-n) W (by omega) (by omega) (hL.below hb)
    rw [itoa_minus hn, hr] at h4
    have H4 := Lib.hid h4
    have happ : (⟨#[45]⟩ ++ ⟨r.toArray⟩ : ByteArray) = ⟨(45 :: r).toArray⟩ := str_app [45] r
    have HAPP := Lib.hid happ
    clear h4 h3 hr happ hL
    by_cases hx : 9218868437227405312 < a
    · rw [decide_eq_true hx] at h7
      rw [if_pos hx] at h5 h6
      have H5 := Lib.hid h5
      have H6 := Lib.hid h6
      have H7 := Lib.hid h7
      clear h5 h6 h7 ha hx hc hab
      go_enter Tryd.func10, Tryd.ntmps10
      go_wp2_with fail
      refine H.out.mono ?_
      rintro e w1 ⟨rfl, hb⟩
      have HB1 := Lib.hid hb
      clear hb
      go_wp2_with fail
      refine (H4.out w1 HB1.out).mono ?_
      rintro e w2 ⟨rfl, hb⟩
      have HB2 : Hid (Below w.heap.size w w2) := HB1.out.trans (hb.mono HB1.out.size)
      clear hb
      go_wp2_with fail
      refine (H3.out w2 HB2.out).mono ?_
      rintro e w3 ⟨rfl, hb⟩
      have HB3 : Hid (Below w.heap.size w w3) := HB2.out.trans (hb.mono HB2.out.size)
      clear hb
      rw [← HAPP.out]
      go_wp2_with fail
      refine (H7.out w3).mono ?_
      rintro e wn ⟨rfl, rfl⟩
      go_wp2_with fail
      refine (H5.out w3 HB3.out).mono ?_
      rintro e w4 ⟨rfl, hb⟩
      have HB4 : Hid (Below w.heap.size w w4) := HB3.out.trans (hb.mono HB3.out.size)
      clear hb
      go_wp2_with fail
      refine (H6.out w4 HB4.out).mono ?_
      rintro e w5 ⟨rfl, hb⟩
      have HB5 : Hid (Below w.heap.size w w5) := HB4.out.trans (hb.mono HB4.out.size)
      clear hb
      go_wp2
      go_ret
      exact ⟨by simp, HB5.out⟩
    · rw [decide_eq_false hx] at h7
      rw [if_neg hx] at h5 h6
      obtain ⟨q, hq⟩ : ∃ q, Num.fmtU a = q := ⟨_, rfl⟩
      have hql : q.length ≤ 23 := by rw [← hq]; exact fmtU_len (by omega)
      rw [hq] at h5 h6
      have happ2 : (⟨#[45]⟩ ++ ⟨q.toArray⟩ : ByteArray) = ⟨(45 :: q).toArray⟩ := str_app [45] q
      have HAPP2 := Lib.hid happ2
      clear hq happ2
      have H5 := Lib.hid h5
      have H6 := Lib.hid h6
      have H7 := Lib.hid h7
      clear h5 h6 h7 ha hx hc hab
      go_enter Tryd.func10, Tryd.ntmps10
      go_wp2_with fail
      refine H.out.mono ?_
      rintro e w1 ⟨rfl, hb⟩
      have HB1 := Lib.hid hb
      clear hb
      go_wp2_with fail
      refine (H4.out w1 HB1.out).mono ?_
      rintro e w2 ⟨rfl, hb⟩
      have HB2 : Hid (Below w.heap.size w w2) := HB1.out.trans (hb.mono HB1.out.size)
      clear hb
      go_wp2_with fail
      refine (H3.out w2 HB2.out).mono ?_
      rintro e w3 ⟨rfl, hb⟩
      have HB3 : Hid (Below w.heap.size w w3) := HB2.out.trans (hb.mono HB2.out.size)
      clear hb
      rw [← HAPP.out]
      go_wp2_with fail
      refine (H7.out w3).mono ?_
      rintro e wn ⟨rfl, rfl⟩
      go_wp2_with fail
      refine (H6.out w3 HB3.out).mono ?_
      rintro e w4 ⟨rfl, hb⟩
      have HB4 : Hid (Below w.heap.size w w4) := HB3.out.trans (hb.mono HB3.out.size)
      clear hb
      go_wp2_with fail
      refine (H5.out w4 HB4.out).mono ?_
      rintro e w5 ⟨rfl, hb⟩
      have HB5 : Hid (Below w.heap.size w w5) := HB4.out.trans (hb.mono HB4.out.size)
      clear hb
      rw [← HAPP2.out]
      go_wp2
      go_ret
      exact ⟨by simp, HB5.out⟩
  · have t1 : decide (0 < n) = false := decide_eq_false hn
    clear h3 hr hL
    by_cases hx : 9218868437227405312 < a
    · rw [decide_eq_true hx] at h7
      rw [if_pos hx] at h5 h6
      have H5 := Lib.hid h5
      have H6 := Lib.hid h6
      have H7 := Lib.hid h7
      clear h5 h6 h7 ha hx hc hab
      go_enter Tryd.func10, Tryd.ntmps10
      go_wp2_with fail
      refine H.out.mono ?_
      rintro e w1 ⟨rfl, hb⟩
      have HB1 := Lib.hid hb
      clear hb
      go_wp2_with fail
      refine (H7.out w1).mono ?_
      rintro e wn ⟨rfl, rfl⟩
      go_wp2_with fail
      refine (H5.out w1 HB1.out).mono ?_
      rintro e w2 ⟨rfl, hb⟩
      have HB2 : Hid (Below w.heap.size w w2) := HB1.out.trans (hb.mono HB1.out.size)
      clear hb
      go_wp2_with fail
      refine (H6.out w2 HB2.out).mono ?_
      rintro e w3 ⟨rfl, hb⟩
      have HB3 : Hid (Below w.heap.size w w3) := HB2.out.trans (hb.mono HB2.out.size)
      clear hb
      go_wp2
      go_ret
      exact ⟨by simp, HB3.out⟩
    · rw [decide_eq_false hx] at h7
      rw [if_neg hx] at h5 h6
      obtain ⟨q, hq⟩ : ∃ q, Num.fmtU a = q := ⟨_, rfl⟩
      have hql : q.length ≤ 23 := by rw [← hq]; exact fmtU_len (by omega)
      rw [hq] at h5 h6
      have happ2 : (⟨#[45]⟩ ++ ⟨q.toArray⟩ : ByteArray) = ⟨(45 :: q).toArray⟩ := str_app [45] q
      have HAPP2 := Lib.hid happ2
      clear hq happ2
      have H5 := Lib.hid h5
      have H6 := Lib.hid h6
      have H7 := Lib.hid h7
      clear h5 h6 h7 ha hx hc hab
      go_enter Tryd.func10, Tryd.ntmps10
      go_wp2_with fail
      refine H.out.mono ?_
      rintro e w1 ⟨rfl, hb⟩
      have HB1 := Lib.hid hb
      clear hb
      go_wp2_with fail
      refine (H7.out w1).mono ?_
      rintro e wn ⟨rfl, rfl⟩
      go_wp2_with fail
      refine (H6.out w1 HB1.out).mono ?_
      rintro e w2 ⟨rfl, hb⟩
      have HB2 : Hid (Below w.heap.size w w2) := HB1.out.trans (hb.mono HB1.out.size)
      clear hb
      go_wp2_with fail
      refine (H5.out w2 HB2.out).mono ?_
      rintro e w3 ⟨rfl, hb⟩
      have HB3 : Hid (Below w.heap.size w w3) := HB2.out.trans (hb.mono HB2.out.size)
      clear hb
      rw [← HAPP2.out]
      go_wp2
      go_ret
      exact ⟨by simp, HB3.out⟩
end Go.Proofs.YtmadpmlpofccmaaDoor
