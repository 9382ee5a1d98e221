/- Layer 5 (number): fraction, exponent and ParseFloat, the program's. -/
import Derived.Test.YtoofbflplhbpbaaGreatDoorNumFmt
namespace Go.Proofs.YtoofbflplhbpbaaGreatDoor
open Go.RowKit

theorem hexIx_fin : ∀ c : Fin 256, Lib.indexByte [48, 49, 50, 51, 52, 53, 54, 55, 56, 57, 97, 98, 99, 100, 101, 102] (UInt8.ofNat c.val) = match Num.hexv (UInt8.ofNat c.val) with | some d => (d : Int) | none => -1 := by decide +kernel
theorem hexIx (c : UInt8) : Lib.indexByte [48, 49, 50, 51, 52, 53, 54, 55, 56, 57, 97, 98, 99, 100, 101, 102] c = match Num.hexv c with | some d => (d : Int) | none => -1 := by
  have := hexIx_fin ⟨c.toNat, UInt8.toNat_lt c⟩
  simpa using this
theorem or_low (n d : Nat) (hn : n < 1152921504606846976) (hd : d < 16) : bits BinOp.or IntKind.u64 ((n : Int) * 16) (d : Int) = ((n * 16 + d : Nat) : Int) := by
  rw [show (n : Int) * 16 = ((n * 16 : Nat) : Int) by omega, bits_or_u64_nat _ _ (by omega) (by omega)]
  congr 1
  have h := Nat.two_pow_add_eq_or_of_lt (i := 4) (b := d) hd n
  rw [Nat.mul_comm, show (16 : Nat) = 2 ^ 4 from rfl, ← h]
theorem fracG_cons (c : UInt8) (h : List UInt8) : Num.fracG (c :: h) = if c ≠ 46 ∨ h = [] ∨ 13 < h.length ∨ h.getLast? = some 48 then none else (Num.hexVal h 0).map (· * 16 ^ (13 - h.length)) := rfl
def FracRes (r : Option Nat) (w : World) (e : Ending) (w' : World) : Prop := e = .returned (.tuple #[.int .u64 (r.getD 0 : Nat), .bool r.isSome]) ∧ w = w'
theorem hexVal_take {t : List UInt8} {k n : Nat} {c : UInt8} (h : Num.hexVal (t.take k) 0 = some n) (hc : t[k]? = some c) : Num.hexVal (t.take (k + 1)) 0 = (Num.hexv c).map (n * 16 + ·) := by
  obtain ⟨hk, e⟩ := List.getElem?_eq_some_iff.1 hc
  rw [List.take_succ_eq_append_getElem hk, Num.hexVal_app, h, e]
  simp only [Option.bind_some, Num.hexVal]
  cases Num.hexv c <;> rfl
theorem hexVal_lt : ∀ (t : List UInt8) (a n : Nat), Num.hexVal t a = some n → n < (a + 1) * 16 ^ t.length
  | [], a, n, h => by simp [Num.hexVal] at h; subst h; simp
  | c :: r, a, n, h => by
    simp only [Num.hexVal] at h
    cases hc : Num.hexv c with
    | none => rw [hc] at h; cases h
    | some d =>
      rw [hc] at h
      have h1 := hexVal_lt r _ n h
      have hd := Num.hexv_lt hc
      have h2 : (a * 16 + d + 1) * 16 ^ r.length ≤ ((a + 1) * 16) * 16 ^ r.length := Nat.mul_le_mul_right _ (by omega)
      rw [List.length_cons, Nat.pow_succ, Nat.mul_comm (16 ^ r.length) 16, ← Nat.mul_assoc]
      exact Nat.lt_of_lt_of_le h1 h2
theorem hexVal_stop : ∀ (t : List UInt8) (k a : Nat) (c : UInt8), t[k]? = some c → Num.hexv c = none → Num.hexVal t a = none
  | [], k, a, c, h, _ => by simp at h
  | x :: r, 0, a, c, h, hn => by
    simp at h
    subst h
    simp only [Num.hexVal]
    rw [hn]
  | x :: r, k + 1, a, c, h, hn => by
    simp only [List.getElem?_cons_succ] at h
    simp only [Num.hexVal]
    cases Num.hexv x with
    | none => rfl
    | some d => exact hexVal_stop r k _ c h hn

set_option maxHeartbeats 4000000 in
set_option maxRecDepth 100000 in
theorem fraction_any (s : ByteArray) (w : World) (hs : s.size ≤ 1073741824) :
    Calls Tryz.prog 172 #[.string s] w (FracRes (Num.fracG s.data.toList) w) := by
  obtain ⟨l, hl⟩ : ∃ l, s.data.toList = l := ⟨_, rfl⟩
  rw [hl]
  cases l with
  | nil =>
    have h0 : s.size = 0 := by rw [Lib.size_eq, hl]; rfl
    have hsn : s.toList.isEmpty = true := by rw [Lib.toList_data, hl]; rfl
    have hse : (s.toList == []) = true := by rw [Lib.toList_data, hl]; rfl
    clear hl h0
    go_enter Tryz.func172, Tryz.ntmps172
    go_wp2
    go_ret2
    exact ⟨rfl, rfl⟩
  | cons c t =>
    have hsz : s.size = t.length + 1 := by rw [Lib.size_eq, hl]; rfl
    have hpos : 0 < s.size := by omega
    have hp1 : (1 : Int) ≤ s.size := by omega
    have hp0 : (0 : Int) < s.size := by omega
    have hsn : s.toList.isEmpty = false := by rw [Lib.toList_data, hl]; rfl
    have hse : (s.toList == []) = false := by rw [Lib.toList_data, hl]; rfl
    have h0 : s[0]'hpos = c := by
      have h1 := Lib.data_getElem? s 0 hpos
      rw [hl] at h1
      simpa using h1.symm
    obtain ⟨z, hz⟩ : ∃ z, s.extract 1 s.size = z := ⟨_, rfl⟩
    have hzl : z.data.toList = t := by
      rw [← hz, Lib.extract_data, hl]
      simp
      exact List.take_of_length_le (by omega)
    have hzs : z.size = t.length := by rw [Lib.size_eq, hzl]
    have hzb : z.size ≤ 1073741824 := by omega
    have HZL := Lib.hid hzl
    have HZS := Lib.hid hzs
    clear hl hsz
    by_cases h46 : c = 46
    · have t1 : (((s[0]'hpos).toNat : Int) != 46) = false := by rw [h0, h46]; rfl
      cases t with
      | nil =>
        have hzn : z.toList.isEmpty = true := by rw [Lib.toList_data, hzl]; rfl
        have hze : (z.toList == []) = true := by rw [Lib.toList_data, hzl]; rfl
        have hr : Num.fracG [c] = none := by unfold Num.fracG; simp
        rw [hr]
        clear h0 hzl hzs hr h46
        go_enter Tryz.func172, Tryz.ntmps172
        go_wp2
        go_ret2
        exact ⟨rfl, rfl⟩
      | cons x y =>
        have hzn : z.toList.isEmpty = false := by rw [Lib.toList_data, hzl]; rfl
        have hze : (z.toList == []) = false := by rw [Lib.toList_data, hzl]; rfl
        by_cases h13 : 13 < (x :: y).length
        · have hr : Num.fracG (c :: x :: y) = none := by
            rw [fracG_cons, if_pos (.inr (.inr (.inl h13)))]
          rw [hr]
          have t2 : (13 : Int) < z.size := by omega
          clear h0 hzl hzs hr h46 h13
          go_enter Tryz.func172, Tryz.ntmps172
          go_wp2
          go_ret2
          exact ⟨rfl, rfl⟩
        · obtain ⟨t, ht⟩ : ∃ t, x :: y = t := ⟨_, rfl⟩
          rw [ht] at hzl hzs h13 HZL HZS ⊢
          have htn : t ≠ [] := by rw [← ht]; simp
          have hzp : 0 < z.size := by rw [hzs, ← ht]; simp
          have hzp1 : (1 : Int) ≤ z.size := by omega
          have t2 : (z.size : Int) ≤ 13 := by omega
          have hzm : z.size - 1 < z.size := by omega
          have hlast : t.getLast? = some (z[z.size - 1]'hzm) := by
            have h1 := Lib.data_getElem? z (z.size - 1) hzm
            rw [hzl] at h1
            rw [List.getLast?_eq_getElem?, ← hzs, h1]
          have ez : ((z.size : Int) - 1).toNat = z.size - 1 := by omega
          by_cases h48 : (z[z.size - 1]'hzm) = 48
          · have hr : Num.fracG (c :: t) = none := by
              rw [fracG_cons, if_pos (.inr (.inr (.inr (by rw [hlast, h48]))))]
            rw [hr]
            have t3 : (((z[z.size - 1]'hzm).toNat : Int) == 48) = true := by rw [h48]; rfl
            have EZ := Lib.hid ez
            clear h0 hzl hzs hr h46 h13 hlast h48 ht htn ez
            go_enter Tryz.func172, Tryz.ntmps172
            go_wp2
            go_ret2
            exact ⟨rfl, rfl⟩
          · have t3 : (((z[z.size - 1]'hzm).toNat : Int) == 48) = false := by
              rw [beq_eq_false_iff_ne]
              intro e
              exact h48 (UInt8.toNat_inj.1 (by show (z[z.size - 1]'hzm).toNat = 48; omega))
            have hr : Num.fracG (c :: t) = (Num.hexVal t 0).map (· * 16 ^ (13 - t.length)) := by
              rw [fracG_cons, if_neg]
              rintro (h | h | h | h)
              · exact h h46
              · exact htn h
              · exact h13 h
              · rw [hlast] at h
                exact h48 (Option.some.inj h)
            obtain ⟨R, hR⟩ : ∃ R, Num.fracG (c :: t) = R := ⟨_, rfl⟩
            rw [hR]
            rw [hR] at hr
            have HR := Lib.hid hr
            have hzg : ∀ (k : Nat) (h : k < z.size), t[k]? = some (z[k]'h) := fun k h => by rw [← hzl]; exact Lib.data_getElem? z k h
            have HZG := Lib.hid hzg
            clear h0 hzl hzs hr h46 h13 hlast h48 ht htn ez hR hzg
            go_enter Tryz.func172, Tryz.ntmps172
            go_wp2
            clear t3
            go_loopg [5, 34] z.size (fun g a i wr => ∃ (k n : Nat), k + g = z.size ∧ i = .int .i64 k ∧ a = .int .u64 n ∧ Num.hexVal (t.take k) 0 = some n ∧ w = wr)
            case atStart => exact ⟨0, 0, by omega, rfl, rfl, rfl, rfl⟩
            case round =>
              obtain ⟨k, n, hk, rfl, rfl, hv, rfl⟩ := hrel
              have HK := Lib.hid hk
              have HV := Lib.hid hv
              have hnl := hexVal_lt _ _ _ hv
              have htl : (t.take k).length ≤ k := List.length_take_le _ _
              clear hk hv
              cases gk with
              | zero =>
                have hkz : k = z.size := by have := HK.out; omega
                have hfin : Num.hexVal t 0 = some n := by
                  have := HV.out
                  rwa [List.take_of_length_le (by rw [hkz, HZS.out]; exact Nat.le_refl _)] at this
                have hr := HR.out
                rw [hfin] at hr
                have htz : t.length = z.size := HZS.out.symm
                rw [Option.map_some, htz] at hr
                obtain ⟨m, hm⟩ : ∃ m, z.size = m := ⟨_, rfl⟩
                have hnm : n < 16 ^ m := by
                  have h1 := hexVal_lt _ _ _ hfin
                  rw [htz, hm] at h1
                  omega
                have hpw : 16 ^ m * 16 ^ (13 - m) = 4503599627370496 := by
                  rw [← Nat.pow_add, show m + (13 - m) = 13 by omega]
                have hsh : IntKind.u64.wrap ((n : Int) * 2 ^ (52 - 4 * m)) = ((n * 16 ^ (13 - m) : Nat) : Int) := by
                  have e1 : (2 : Nat) ^ (52 - 4 * m) = 16 ^ (13 - m) := by rw [show 52 - 4 * m = 4 * (13 - m) by omega, Nat.pow_mul]
                  have e2 : (n : Int) * 2 ^ (52 - 4 * m) = ((n * 16 ^ (13 - m) : Nat) : Int) := by rw [← e1]; simp
                  have h3 : n * 16 ^ (13 - m) < 16 ^ m * 16 ^ (13 - m) := Nat.mul_lt_mul_of_pos_right hnm (Nat.pow_pos (by decide))
                  rw [hpw] at h3
                  rw [e2, IntKind.wrap_u64]
                  omega
                rw [hm] at hr
                have HR2 := Lib.hid hr
                have hkd : decide (k < z.size) = false := decide_eq_false (by omega)
                have em : (52 - 4 * (z.size : Int)).toNat = 52 - 4 * m := by omega
                have e0 : (0 : Int) ≤ 52 - 4 * (z.size : Int) := by omega
                have HM := Lib.hid hm
                clear hkz hfin hr htz hm hnm hpw
                go_wp2
                go_ret2
                refine ⟨?_, rfl⟩
                rw [HR2.out]
                have e9 : ((n * 16 ^ (13 - m) : Nat) : Int) = (n : Int) * 16 ^ (13 - m) := by simp
                show Ending.returned (.tuple #[.int .u64 ((n : Int) * 16 ^ (13 - m)), .bool true]) = .returned (.tuple #[.int .u64 ((n * 16 ^ (13 - m) : Nat) : Int), .bool true])
                rw [e9]
              | succ g =>
                have hlt : k < z.size := by have := HK.out; omega
                have hlt' : (k : Int) < z.size := by omega
                obtain ⟨x, hx⟩ : ∃ x, z[k]'hlt = x := ⟨_, rfl⟩
                have hget := HZG.out k hlt
                rw [hx] at hget
                have hix := hexIx x
                have hci := Tryz.strings_IndexByte ⟨#[48, 49, 50, 51, 52, 53, 54, 55, 56, 57, 97, 98, 99, 100, 101, 102]⟩ ((z[k]'hlt).toNat : Int) w
                have exx : ((((z[k]'hlt).toNat : Int)).toNat.toUInt8) = x := by rw [hx]; simp
                rw [exx] at hci
                cases hv : Num.hexv x with
                | none =>
                  rw [hv] at hix
                  have hci2 : Calls Tryz.prog 117 #[.string ⟨#[48, 49, 50, 51, 52, 53, 54, 55, 56, 57, 97, 98, 99, 100, 101, 102]⟩, .int .u8 ((z[k]'hlt).toNat : Int)] w fun e w' => e = .returned (.int .i64 (-1)) ∧ w = w' := hci.mono fun e w' ⟨h1, h2⟩ => ⟨by rw [h1]; exact congrArg (fun q => Ending.returned (Value.int .i64 q)) hix, h2.symm⟩
                  have HCI := Lib.hid hci2
                  have hr := HR.out
                  rw [hexVal_stop t k 0 x hget hv] at hr
                  rw [hr]
                  clear hx hget hix hci exx hv hci2 hr hnl htl
                  go_wp2_with fail
                  refine HCI.out.mono ?_
                  rintro e w' ⟨rfl, rfl⟩
                  go_wp2
                  go_ret2
                  exact ⟨rfl, rfl⟩
                | some d =>
                  rw [hv] at hix
                  have hd := Num.hexv_lt hv
                  have hci2 : Calls Tryz.prog 117 #[.string ⟨#[48, 49, 50, 51, 52, 53, 54, 55, 56, 57, 97, 98, 99, 100, 101, 102]⟩, .int .u8 ((z[k]'hlt).toNat : Int)] w fun e w' => e = .returned (.int .i64 d) ∧ w = w' := hci.mono fun e w' ⟨h1, h2⟩ => ⟨by rw [h1]; exact congrArg (fun q => Ending.returned (Value.int .i64 q)) hix, h2.symm⟩
                  have HCI := Lib.hid hci2
                  have hnx := hexVal_take HV.out hget
                  rw [hv, Option.map_some] at hnx
                  have HNX := Lib.hid hnx
                  have hp12 : 16 ^ (t.take k).length ≤ 16 ^ 12 := Nat.pow_le_pow_right (by decide) (by omega)
                  have e12 : (16 : Nat) ^ 12 = 281474976710656 := by decide
                  have hnb : n < 281474976710656 := by omega
                  have hor := or_low n d (by omega) hd
                  have hdi : (0 : Int) ≤ d := by omega
                  have hdi2 : (d : Int) ≤ 15 := by omega
                  have hni : (n : Int) ≤ 281474976710656 := by omega
                  clear hx hget hix hci exx hv hci2 hnl htl hnx hp12 e12
                  go_wp2_with fail
                  refine HCI.out.mono ?_
                  rintro e w' ⟨rfl, rfl⟩
                  go_wp2
                  go_roundg g
                  case measure => omega
                  case rel => exact ⟨k + 1, _, by have := HK.out; omega, by go_num, rfl, HNX.out, rfl⟩
    · have t1 : (((s[0]'hpos).toNat : Int) != 46) = true := by
        rw [h0, bne_iff_ne]
        intro e
        exact h46 (UInt8.toNat_inj.1 (by show c.toNat = 46; omega))
      have hr : Num.fracG (c :: t) = none := by rw [fracG_cons, if_pos (.inl h46)]
      rw [hr]
      clear h0 hzl hzs hr h46
      go_enter Tryz.func172, Tryz.ntmps172
      go_wp2
      go_ret2
      exact ⟨rfl, rfl⟩
end Go.Proofs.YtoofbflplhbpbaaGreatDoor
