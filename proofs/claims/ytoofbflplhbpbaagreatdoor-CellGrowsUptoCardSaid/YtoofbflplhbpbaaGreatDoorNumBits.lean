/- Layer 5 (number): the document's ParseInt at every text; bits.TrailingZeros64; strconv.FormatUint at base 16 of a number of 14 digits; the document's hex. -/
import Derived.Test.YtoofbflplhbpbaaGreatDoorNumInts
import Derived.Shelf.Spec.TrailingZeros
namespace Go.Proofs.YtoofbflplhbpbaaGreatDoor
open Go.RowKit

theorem refParseInt_any (s : ByteArray) (w : World) (hs : s.size ≤ 1073741824) :
    Calls Tryz.prog 164 #[.string s] w (IntRes (Num.parseInt s.data.toList) w) := by
  by_cases hpos : 0 < s.size
  · by_cases hc : (s[0]'hpos).toNat = 45
    · exact refParse1 s w hs hpos hc
    · exact refParse0 s w hs hpos hc
  · have hl : s.data.toList = [] := List.eq_nil_of_length_eq_zero (by rw [← Lib.size_eq]; omega)
    have hz : s.size = 0 := by omega
    have hE : ((0 : Int) == s.size) = true := by rw [hz]; rfl
    rw [hl, show Num.parseInt [] = (0, 50) from by decide]
    have hd : (s.size : Int) ≤ 0 := by omega
    have HZ := Lib.hid hz
    clear hz hl
    go_enter Tryz.func164, Tryz.ntmps164
    go_wp2
    go_ret2
    exact ⟨rfl, Below.refl _ _⟩

theorem var_cell {w : World} {n : String} {g : Nat} {cs : Array Value} (hg : Tryz.prog.globalNamed n = some g) (h : w.var? Tryz.prog n = some cs) (i : Nat) : w.cell? ⟨g, i, none⟩ = cs[i]? := by
  unfold World.var? at h
  rw [hg] at h
  simp only [Option.bind_some] at h
  split at h
  · rename_i h2
    cases h
    simp [World.cell?, h2]
  · cases h

set_option maxHeartbeats 1000000 in
/-- bits.TrailingZeros64 -/
theorem tz64_any (x : Nat) (hx0 : x ≠ 0) (hx : x < 18446744073709551616) (w : World) (hL : Laid w) :
    Calls Tryz.prog 174 #[.int .u64 x] w fun e w' => e = .returned (.int .i64 (Lib.ctz 64 x)) ∧ w = w' := by
  obtain ⟨hlow, hk⟩ := Lib.lowest_bit 64 x hx0 hx
  obtain ⟨hi, htab⟩ := Lib.deBruijn64_at _ hk
  obtain ⟨cs, h1, h2⟩ := hL.bru
  have hcell := (var_cell gBru h1 _).trans (h2 _ hi)
  rw [htab] at hcell
  have key := tz64_key x _ hx hx0 hlow
  obtain ⟨idx, hidx⟩ : ∃ i, 2 ^ Lib.ctz 64 x * 285870213051353865 % 18446744073709551616 / 288230376151711744 = i := ⟨_, rfl⟩
  rw [hidx] at key hcell hi
  obtain ⟨k, hkk⟩ : ∃ k, Lib.ctz 64 x = k := ⟨_, rfl⟩
  rw [hkk] at hcell hk ⊢
  have hne : ((x : Int) == 0) = false := by rw [beq_eq_false_iff_ne]; omega
  clear hlow htab h1 h2 hidx hkk hL
  go_enter Tryz.func174, Tryz.ntmps174
  go_wp2_with (simp only [key])
  go_ret
  exact ⟨rfl, rfl⟩

set_option maxHeartbeats 1000000 in
theorem tz16_any (w : World) (hL : Laid w) :
    Calls Tryz.prog 251 #[.int .u64 16] w fun e w' => e = .returned (.int .i64 4) ∧ w = w' := by
  have hc := tz64_any 16 (by omega) (by omega) w hL
  have h4 : Lib.ctz 64 16 = 4 := by decide
  rw [h4] at hc
  have HC := Lib.hid hc
  clear hc h4
  go_enter Tryz.func251, Tryz.ntmps251
  go_wp2_with fail
  refine HC.out.mono ?_
  rintro e w' ⟨rfl, rfl⟩
  go_wp2
  go_ret
  exact ⟨rfl, rfl⟩
theorem pow16_any (w : World) : Calls Tryz.prog 250 #[.int .i64 16] w fun e w' => e = .returned (.bool true) ∧ w = w' := by
  go_enter Tryz.func250, Tryz.ntmps250
  go_wp2
  go_ret
  exact ⟨rfl, rfl⟩

set_option maxHeartbeats 4000000 in
set_option maxRecDepth 100000 in
/-- the document's hex -/
theorem hex_any (n k : Nat) (w : World) (hn : n < 18446744073709551616) (hk : k ≤ 16) :
    Calls Tryz.prog 133 #[.int .u64 n, .int .i64 k] w fun e w' => e = .returned (.string ⟨(Num.hexN k n).toArray⟩) ∧ Below w.heap.size w w' := by
  go_enter Tryz.func133, Tryz.ntmps133
  go_wp2
  go_loopg [0, 5, 6] k (fun g a b i wr => ∃ (j m : Nat) (acc : List UInt8), j + g = k ∧ m < 18446744073709551616 ∧ acc.length = j ∧ a = .int .u64 m ∧ b = .string ⟨acc.toArray⟩ ∧ i = .int .i64 j ∧ Num.hexN k n = Num.hexN g m ++ acc ∧ Below w.heap.size w wr)
  case atStart => exact ⟨0, n, [], by omega, hn, rfl, rfl, rfl, rfl, by simp, Below.refl _ _⟩
  case round =>
    obtain ⟨j, m, acc, hj, hm, hl, rfl, rfl, rfl, hacc, hb⟩ := hrel
    have HJ := Lib.hid hj
    have HA := Lib.hid hacc
    have HB := Lib.hid hb
    have hal : acc.length ≤ 16 := by omega
    have HAL := Lib.hid hl
    clear hj hacc hb hl
    cases gk with
    | zero =>
      obtain rfl : k = j := by have := HJ.out; omega
      have hd : decide (k < k) = false := decide_eq_false (by omega)
      have ha := HA.out
      rw [Num.hexN, List.nil_append] at ha
      have HF := Lib.hid ha
      clear ha HA
      go_wp2
      go_ret
      exact ⟨by rw [HF.out]; rfl, HB.out⟩
    | succ g =>
      have hlt : j < k := by have := HJ.out; omega
      have hlt' : (j : Int) < k := by omega
      have hmb : (m : Int) ≤ 18446744073709551615 := by omega
      have hm0 : (0 : Int) ≤ m := by omega
      have hstep : Num.hexN (g + 1) m = Num.hexN g (m / 16) ++ [Num.hexd (m % 16)] := rfl
      obtain ⟨b, hbb⟩ : ∃ b, Num.hexd (m % 16) = b := ⟨_, rfl⟩
      have hfin : Num.hexN k n = Num.hexN g (m / 16) ++ (b :: acc) := by rw [HA.out, hstep, hbb, List.append_assoc]; rfl
      have HF := Lib.hid hfin
      by_cases h9 : m % 16 < 10
      · have hbv : (b.toNat : Int) = 48 + (m : Int) % 16 := by
          rw [← hbb]; unfold Num.hexd; rw [if_pos h9, dig_toNat h9]; omega
        have hcv := fun wx => conv_one wx (48 + (m : Int) % 16) b hbv
        have h9' : (m : Int) % 16 ≤ 9 := by omega
        clear hbb hfin hstep hbv h9
        go_wp2
        go_roundg g
        case measure => omega
        case rel => exact ⟨j + 1, m / 16, b :: acc, by have := HJ.out; omega, by omega, by simp [HAL.out], by go_num, by rw [str_app]; rfl, by go_num, HF.out, HB.out.alloc HB.out.size _⟩
      · have hbv : (b.toNat : Int) = 97 + (m : Int) % 16 - 10 := by
          rw [← hbb]; unfold Num.hexd; rw [if_neg h9]
          have : (UInt8.ofNat (87 + m % 16)).toNat = 87 + m % 16 := by simp; omega
          rw [this]; omega
        have hcv := fun wx => conv_one wx (97 + (m : Int) % 16 - 10) b hbv
        have h9' : (9 : Int) < (m : Int) % 16 := by omega
        clear hbb hfin hstep hbv h9
        go_wp2
        go_roundg g
        case measure => omega
        case rel => exact ⟨j + 1, m / 16, b :: acc, by have := HJ.out; omega, by omega, by simp [HAL.out], by go_num, by rw [str_app]; rfl, by go_num, HF.out, HB.out.alloc HB.out.size _⟩
end Go.Proofs.YtoofbflplhbpbaaGreatDoor
