/- Layer 5 (number): strconv.FormatUint at base 16, of a number of 14 digits. -/
import Derived.Test.YtoofbflplhbpbaaGreatDoorNumBits
import Derived.Test.YtoofbflplhbpbaaGreatDoorWords
namespace Go.Proofs.YtoofbflplhbpbaaGreatDoor
open Go.RowKit

theorem dig36_fin : ∀ d : Fin 16, (({ data := #[48, 49, 50, 51, 52, 53, 54, 55, 56, 57, 97, 98, 99, 100, 101, 102, 103, 104, 105, 106, 107, 108, 109, 110, 111, 112, 113, 114, 115, 116, 117, 118, 119, 120, 121, 122] } : ByteArray).data.toList)[d.val]? = some (Num.hexd d.val) := by decide +kernel
theorem dig36 (d : Nat) (h : d < 16) (h' : d < ({ data := #[48, 49, 50, 51, 52, 53, 54, 55, 56, 57, 97, 98, 99, 100, 101, 102, 103, 104, 105, 106, 107, 108, 109, 110, 111, 112, 113, 114, 115, 116, 117, 118, 119, 120, 121, 122] } : ByteArray).size) : ({ data := #[48, 49, 50, 51, 52, 53, 54, 55, 56, 57, 97, 98, 99, 100, 101, 102, 103, 104, 105, 106, 107, 108, 109, 110, 111, 112, 113, 114, 115, 116, 117, 118, 119, 120, 121, 122] } : ByteArray)[d]'h' = Num.hexd d := by
  have h1 := dig36_fin ⟨d, h⟩
  have h2 := Lib.data_getElem? ({ data := #[48, 49, 50, 51, 52, 53, 54, 55, 56, 57, 97, 98, 99, 100, 101, 102, 103, 104, 105, 106, 107, 108, 109, 110, 111, 112, 113, 114, 115, 116, 117, 118, 119, 120, 121, 122] } : ByteArray) d h'
  exact Option.some.inj (h2.symm.trans h1)
theorem hexN_cons : ∀ (j x : Nat), Num.hexN (j + 1) x = Num.hexd (x / 16 ^ j % 16) :: Num.hexN j x
  | 0, x => by simp [Num.hexN]
  | j + 1, x => by
    have h := hexN_cons j (x / 16)
    rw [Num.hexN, h, Num.hexN, Nat.div_div_eq_div_mul, Nat.pow_succ, Nat.mul_comm 16]
    rfl
/-- the last j bytes of 65 are x's last j hexadecimal digits -/
def Tail (cs : Array Value) (x j : Nat) : Prop := cs.size = 65 ∧ ∀ t, t < j → ∃ c, (Num.hexN j x)[t]? = some c ∧ cs[65 - j + t]? = some (.int .u8 (c.toNat : Int))

theorem Tail.next {cs : Array Value} {x j : Nat} (h : Tail cs x j) (hj : j < 65) {c : UInt8} (hc : Num.hexd (x / 16 ^ j % 16) = c) : Tail (cs.setIfInBounds (65 - j - 1) (.int .u8 (c.toNat : Int))) x (j + 1) := by
  refine ⟨by simp [h.1], fun t ht => ?_⟩
  rw [hexN_cons, hc]
  cases t with
  | zero =>
    refine ⟨c, rfl, ?_⟩
    rw [show 65 - (j + 1) + 0 = 65 - j - 1 by omega, Array.getElem?_setIfInBounds_self_of_lt (by rw [h.1]; omega)]
  | succ t =>
    obtain ⟨d, h1, h2⟩ := h.2 t (by omega)
    refine ⟨d, h1, ?_⟩
    rw [Array.getElem?_setIfInBounds_ne (by omega), show 65 - (j + 1) + (t + 1) = 65 - j + t by omega]
    exact h2

set_option maxHeartbeats 4000000 in
set_option maxRecDepth 100000 in
theorem formatBits_any (x : Nat) (w : World) (hL : Laid w) (h0 : 4503599627370496 ≤ x) (h1 : x < 9007199254740992) :
    Calls Tryz.prog 193 #[.slice none 0 0, .int .u64 x, .int .i64 16, .bool false, .bool false] w fun e w' => e = .returned (.tuple #[.slice none 0 0, .string ⟨(Num.hexN 14 x).toArray⟩]) ∧ Below w.heap.size w w' := by
  have HT := Lib.hid (fun (W : World) (hb : Below w.heap.size w W) => tz16_any W (hL.below hb))
  have HP := Lib.hid pow16_any
  have hx' : (x : Int) ≤ 18446744073709551615 := by omega
  clear hL
  go_enter Tryz.func193, Tryz.ntmps193
  go_wp2_with fail
  refine (HP.out _).mono ?_
  rintro e w' ⟨rfl, rfl⟩
  go_wp2_with fail
  refine (HT.out _ ((Below.refl _ _).alloc (Nat.le_refl _) _)).mono ?_
  rintro e w' ⟨rfl, rfl⟩
  obtain ⟨cs0, hcs0⟩ : ∃ cs, Tryz.zeroCells288 = cs := ⟨_, rfl⟩
  have hc0 : cs0.size = 65 := by rw [← hcs0]; kernel_rfl
  have hb0 : Blk (w.alloc (.cells cs0 288)) w.heap.size 288 cs0 := Blk.new _ _ _
  have hbl0 : Below w.heap.size w (w.alloc (.cells cs0 288)) := (Below.refl _ _).alloc (Nat.le_refl _) _
  rw [hcs0]
  generalize w.alloc (.cells cs0 288) = W0 at *
  have HC0 := Lib.hid hc0
  have HB0 := Lib.hid hb0
  have HBL := Lib.hid hbl0
  clear hcs0 hc0 hb0 hbl0
  go_wp2
  go_loopg [1, 13] 13 (fun g u i wr => ∃ (j : Nat) (cs : Array Value), j + g = 13 ∧ u = .int .u64 (x / 16 ^ j : Nat) ∧ i = .int .i64 (65 - (j : Int)) ∧ Blk wr w.heap.size 288 cs ∧ Tail cs x j ∧ Below w.heap.size w wr)
  case atStart => exact ⟨0, cs0, by omega, by simp, by simp, HB0.out, ⟨HC0.out, fun t ht => by omega⟩, HBL.out⟩
  case round =>
    obtain ⟨j, cs, hj, rfl, rfl, hb, htl, hbl⟩ := hrel
    have HJ := Lib.hid hj
    have HB := Lib.hid hb
    have HTL := Lib.hid htl
    have HBL' := Lib.hid hbl
    clear hj hb htl hbl
    cases gk with
    | zero =>
      obtain rfl : j = 13 := by have := HJ.out; omega
      obtain ⟨u, hu⟩ : ∃ u, x / 16 ^ 13 = u := ⟨_, rfl⟩
      have hu1 : u = 1 := by
        have e : (16 : Nat) ^ 13 = 4503599627370496 := by decide
        rw [e] at hu
        omega
      subst hu1
      rw [hu]
      have htn := HTL.out.next (c := 49) (by omega) (by rw [hu]; decide)
      obtain ⟨v0, hv0⟩ : ∃ v, cs[51]? = some v := ⟨_, Array.getElem?_eq_getElem (by rw [HTL.out.1]; omega)⟩
      have hcell := (HB.out.cell 51).trans hv0
      have hfz := HB.out.frozen 51
      have hbn := HB.out.set_ 51 (.int .u8 ((49 : UInt8).toNat : Int))
      have hconv := fun (q : Value) => run_convert_bytes_back (P := Tryz.prog) (wr.setCell ⟨w.heap.size, 51, none⟩ (.int .u8 49)) 55 9 5 ⟨w.heap.size, 51, none⟩ 14 (Num.hexN 14 x) Tryz.underlying55 Tryz.underlying5 Tryz.underlying9 (fun k hk => by
        rw [Num.hexN_len] at hk
        obtain ⟨d, h1, h2⟩ := htn.2 k hk
        have h3 := hbn.cell (51 + k)
        have e : (⟨w.heap.size, 51, none⟩ : Addr).add k = ⟨w.heap.size, 51 + k, none⟩ := by unfold Addr.add; split <;> simp_all
        rw [e]
        refine h3.trans ?_
        rw [show 51 + k = 65 - (13 + 1) + k by omega]
        obtain ⟨hlt, he⟩ := List.getElem?_eq_some_iff.1 h1
        refine h2.trans ?_
        rw [← he])
      have hcv := hconv undef
      rw [Num.hexN_len] at hcv
      have HFB := Lib.hid (HBL'.out.setCell (p := ⟨w.heap.size, 51, none⟩) (Nat.le_refl _) (.int .u8 49))
      have hdig := dig36 1 (by decide)
      rw [show Num.hexd 1 = 49 from by decide] at hdig
      clear hu hv0 htn hbn hconv
      go_wp2
      go_ret2
      exact ⟨rfl, HFB.out⟩
    | succ g =>
      have hj12 : j ≤ 12 := by have := HJ.out; omega
      obtain ⟨u, hu⟩ : ∃ u, x / 16 ^ j = u := ⟨_, rfl⟩
      have hu16 : 16 ≤ u := by
        rw [← hu, Nat.le_div_iff_mul_le (Nat.pow_pos (by decide))]
        have : 16 ^ (j + 1) ≤ 16 ^ 13 := Nat.pow_le_pow_right (by decide) (by omega)
        have e : (16 : Nat) ^ 13 = 4503599627370496 := by decide
        rw [Nat.pow_succ] at this
        omega
      have hux : u ≤ x := by rw [← hu]; exact Nat.div_le_self _ _
      have hub : (u : Int) ≤ 9007199254740992 := by omega
      have hu16' : (16 : Int) ≤ u := by omega
      have hd : decide ((16 : Int) ≤ u) = true := decide_eq_true hu16'
      have hand : bits BinOp.and IntKind.u64 (u : Int) 15 = ((u % 16 : Nat) : Int) := by
        rw [show (15 : Int) = ((15 : Nat) : Int) from rfl, bits_and_u64_nat u 15 (by omega) (by omega), show (15 : Nat) = 2 ^ 4 - 1 from rfl, Nat.and_two_pow_sub_one_eq_mod]
      rw [hu]
      have hjb : (j : Int) ≤ 12 := by omega
      obtain ⟨d, hdd⟩ : ∃ d, u % 16 = d := ⟨_, rfl⟩
      have hd16 : d < 16 := by omega
      rw [hdd] at hand
      have HU := Lib.hid hu
      have HDD := Lib.hid hdd
      obtain ⟨v0, hv0⟩ : ∃ v, cs[65 - j - 1]? = some v := ⟨_, Array.getElem?_eq_getElem (by rw [HTL.out.1]; omega)⟩
      have hcell := (HB.out.cell (65 - j - 1)).trans hv0
      have hfz := HB.out.frozen (65 - j - 1)
      obtain ⟨c, hc⟩ : ∃ c, Num.hexd d = c := ⟨_, rfl⟩
      have hdig := dig36 d hd16
      rw [hc] at hdig
      have htn := HTL.out.next (c := c) (by omega) (by rw [hu, hdd]; exact hc)
      have HTN := Lib.hid htn
      clear hu hdd hv0 hc htn
      go_wp2
      go_roundg g
      case measure => omega
      case rel =>
        refine ⟨j + 1, _, by have := HJ.out; omega, int_eq' ?_, int_eq' (by omega), HB.out.set_ (65 - j - 1) _, HTN.out, HBL'.out.setCell (p := ⟨w.heap.size, 65 - j - 1, none⟩) (Nat.le_refl _) _⟩
        rw [Nat.pow_succ, ← Nat.div_div_eq_div_mul, HU.out]
        rfl

set_option maxHeartbeats 1000000 in
theorem fmtUint_any (x : Nat) (w : World) (hL : Laid w) (h0 : 4503599627370496 ≤ x) (h1 : x < 9007199254740992) :
    Calls Tryz.prog 127 #[.int .u64 x, .int .i64 16] w fun e w' => e = .returned (.string ⟨(Num.hexN 14 x).toArray⟩) ∧ Below w.heap.size w w' := by
  have hin : Calls Tryz.prog 176 #[.int .u64 x, .int .i64 16] w fun e w' => e = .returned (.string ⟨(Num.hexN 14 x).toArray⟩) ∧ Below w.heap.size w w' := by
    have H := Lib.hid (formatBits_any x w hL h0 h1)
    clear hL
    go_enter Tryz.func176, Tryz.ntmps176
    go_wp2_with fail
    refine H.out.mono ?_
    rintro e w1 ⟨rfl, hb⟩
    have HB := Lib.hid hb
    clear hb
    go_wp2
    go_ret
    exact ⟨rfl, HB.out⟩
  have H := Lib.hid hin
  clear hL hin
  go_enter Tryz.func127, Tryz.ntmps127
  go_wp2_with fail
  refine H.out.mono ?_
  rintro e w1 ⟨rfl, hb⟩
  have HB := Lib.hid hb
  clear hb
  go_wp2
  go_ret
  exact ⟨rfl, HB.out⟩
end Go.Proofs.YtoofbflplhbpbaaGreatDoor
