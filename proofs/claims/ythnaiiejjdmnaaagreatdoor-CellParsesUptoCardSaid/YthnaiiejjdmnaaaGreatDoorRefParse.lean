/- Layer 5 (number): ParseFloat, the document's. -/
import Derived.Test.YthnaiiejjdmnaaaGreatDoorRefGuess
import Derived.Test.YthnaiiejjdmnaaaGreatDoorNumLawsB
namespace Go.Proofs.YthnaiiejjdmnaaaGreatDoor
open Go.RowKit

theorem refNum_guess (t : List UInt8) (x : Nat) (h1 : x = if t = Num.ZERO then 0 else if t = Num.INFS then 9218868437227405312 else Num.guess t) : Num.refNum t = x := h1.symm
theorem gEnd_lt (x : Nat × Int) (h : x.1 < 9007199254740992) : Num.gEnd x < 18446744073709551616 ∨ 2045 < x.2 + 1022 := by
  unfold Num.gEnd
  split <;> omega
theorem guess_lt (t : List UInt8) : Num.guess t < 18446744073709551616 := by
  unfold Num.guess
  split
  · omega
  · obtain ⟨Y, hY⟩ : ∃ Y, Num.gSig 13 (if t[3]? = some 46 then t.drop 4 else t.drop 3) 1 = Y := ⟨_, rfl⟩
    have hb := Num.gSig_bound 13 (if t[3]? = some 46 then t.drop 4 else t.drop 3) 1 2 (by omega)
    rw [hY] at hb ⊢
    unfold Num.gTail
    split
    · omega
    · rename_i c r _
      obtain ⟨R, hR⟩ : ∃ R, Num.gDown 64 (Y.1 * 16 ^ Y.2.2) (Num.gSgn c (Num.gExp 4 r 0)) = R := ⟨_, rfl⟩
      have h2 := Num.gDown_le 64 (Y.1 * 16 ^ Y.2.2) (Num.gSgn c (Num.gExp 4 r 0))
      rw [hR] at h2 ⊢
      have e := pow13
      unfold Num.gEnd
      split <;> omega

set_option maxHeartbeats 16000000 in
set_option maxRecDepth 100000 in
theorem refParseFloat_any (s : ByteArray) (w : World) (hs : s.size ≤ 1073741824) :
    Calls Tryz.prog 63 #[.string s] w (FloatRes (Num.refParse s.data.toList) w) := by
  by_cases hn : s.data.toList = Num.NANS
  · have t1 : (s.toList == [48, 120, 110, 97, 110]) = true := by rw [Lib.toList_data, hn]; rfl
    have hp : Num.refParse s.data.toList = some 9221120237041090560 := by unfold Num.refParse; rw [if_pos hn]
    rw [hp]
    clear hp hn
    go_enter Tryz.func63, Tryz.ntmps63
    go_wp2
    go_ret2
    exact ⟨rfl, Below.refl _ _⟩
  have t1 : (s.toList == [48, 120, 110, 97, 110]) = false := by rw [Lib.toList_data]; exact list_beq hn
  obtain ⟨neg, hneg⟩ : ∃ n, decide (s.data.toList.head? = some 45) = n := ⟨_, rfl⟩
  obtain ⟨t, ht⟩ : ∃ t : ByteArray, (if neg = true then s.extract 1 s.size else s) = t := ⟨_, rfl⟩
  obtain ⟨G, hG⟩ : ∃ g : Nat, (if neg = true then 9223372036854775808 else 0) = g := ⟨_, rfl⟩
  have htl : t.data.toList = if neg = true then s.data.toList.drop 1 else s.data.toList := by
    rw [← ht]
    split
    · rw [Lib.extract_data]
      exact List.take_of_length_le (by rw [List.length_drop, ← Lib.size_eq]; exact Nat.le_refl _)
    · rfl
  have hts : t.size ≤ 1073741824 := by
    have h1 := Lib.size_eq s
    rw [Lib.size_eq t, htl]
    split
    · rw [List.length_drop]; omega
    · omega
  have hres : Num.refParse s.data.toList = if Num.refNum t.data.toList ≤ 9218868437227405312 ∧ Num.fmt (G + Num.refNum t.data.toList) = s.data.toList then some (G + Num.refNum t.data.toList) else none := by
    unfold Num.refParse
    rw [if_neg hn, htl, ← hG]
    by_cases hh : s.data.toList.head? = some 45
    · rw [decide_eq_true hh] at hneg
      subst hneg
      rw [if_pos hh]
      rfl
    · rw [decide_eq_false hh] at hneg
      subst hneg
      rw [if_neg hh]
      rfl
  obtain ⟨r, hr⟩ : ∃ r, Num.refParse s.data.toList = r := ⟨_, rfl⟩
  rw [hr] at hres ⊢
  have hg1 : G ≤ 9223372036854775808 := by rw [← hG]; split <;> omega
  have hnp : neg = true → 1 ≤ s.size := by
    intro h
    rw [h] at hneg
    have h1 := of_decide_eq_true hneg
    cases hl : s.data.toList with
    | nil => rw [hl] at h1; cases h1
    | cons c l => rw [Lib.size_eq, hl]; simp
  have HNP := Lib.hid hnp
  have HRES := Lib.hid hres
  have HG := Lib.hid hG
  have HT := Lib.hid ht
  have HNEG := Lib.hid hneg
  have HG1 := Lib.hid hg1
  clear hnp hres hG ht hneg htl hr hn hg1
  go_enter Tryz.func63, Tryz.ntmps63
  go_upto_region 4 with fail
  go_cut [17] (fun s17 wx => s17 = .bool neg ∧ w = wx)
  case first =>
    by_cases hpos : 0 < s.size
    · have hp : (0 : Int) < s.size := by omega
      have hh := head_beq s hpos
      have p1 : decide (0 < s.size) = true := decide_eq_true hpos
      by_cases h45 : s[0]'hpos = 45
      · have t2 : (((s[0]'hpos).toNat : Int) == 45) = true := by rw [h45]; rfl
        have hv : true = neg := by rw [← HNEG.out, hh, h45]; rfl
        have HV := Lib.hid hv
        clear hh h45 hv
        go_wp2_with fail
        go_meet
        exact ⟨by rw [HV.out], rfl⟩
      · have t2 : (((s[0]'hpos).toNat : Int) == 45) = false := by
          rw [beq_eq_false_iff_ne]
          intro e
          exact h45 (UInt8.toNat_inj.1 (by show (s[0]'hpos).toNat = 45; omega))
        have hv : false = neg := by rw [← HNEG.out, hh, decide_eq_false (by simpa using h45)]
        have HV := Lib.hid hv
        clear hh h45 hv
        go_wp2_with fail
        go_meet
        exact ⟨by rw [HV.out], rfl⟩
    · have hz : s.size = 0 := by omega
      have p1 : decide (0 < s.size) = false := decide_eq_false hpos
      have p2 : (s.size : Int) ≤ 0 := by omega
      have hl : s.data.toList = [] := List.eq_nil_of_length_eq_zero (by rw [← Lib.size_eq]; exact hz)
      have hv : false = neg := by rw [← HNEG.out, hl]; rfl
      have HV := Lib.hid hv
      clear hz hl hv
      go_wp2_with fail
      go_meet
      exact ⟨by rw [HV.out], rfl⟩
  case rest =>
    obtain ⟨rfl, rfl⟩ := hcut
    clear HNEG
    go_upto_if 17 with fail
    go_cut [4, 5] (fun s4 s5 wx => s4 = .int .u64 (G : Int) ∧ s5 = .string t ∧ w = wx)
    case first =>
      cases neg with
      | true =>
        have hx : s.extract 1 s.size = t := by have := HT.out; rw [if_pos rfl] at this; exact this
        have hg : G = 9223372036854775808 := by have := HG.out; rw [if_pos rfl] at this; exact this.symm
        have hsz : 1 ≤ s.size := HNP.out rfl
        have HGG := Lib.hid hg
        clear hg
        go_wp2_with fail
        go_meet
        exact ⟨int_eq' (by have := HGG.out; omega), rfl, rfl⟩
      | false =>
        have hx : s = t := by have := HT.out; rw [if_neg (by decide)] at this; exact this
        have hg : G = 0 := by have := HG.out; rw [if_neg (by decide)] at this; exact this.symm
        have HX := Lib.hid hx
        have HGG := Lib.hid hg
        clear hg hx
        go_wp2_with fail
        go_meet
        exact ⟨int_eq' (by have := HGG.out; omega), by rw [HX.out], rfl⟩
    case rest =>
      obtain ⟨rfl, rfl, rfl⟩ := hcut
      obtain ⟨g0, hg0⟩ : ∃ g0, Num.guess t.data.toList = g0 := ⟨_, rfl⟩
      have hgs := fun (W : World) => guess_any t W hts
      have hgl := guess_lt t.data.toList
      rw [hg0] at hgs hgl
      have HGS := Lib.hid hgs
      obtain ⟨B1, hB1⟩ : ∃ b, (if t.data.toList = Num.INFS then 9218868437227405312 else g0) = b := ⟨_, rfl⟩
      obtain ⟨B, hB⟩ : ∃ b, Num.refNum t.data.toList = b := ⟨_, rfl⟩
      have hB2 : (if t.data.toList = Num.ZERO then 0 else B1) = B := by rw [← hB, ← hB1, ← hg0]; rfl
      have hres := HRES.out
      rw [hB] at hres
      have HR := Lib.hid hres
      have HB1 := Lib.hid hB1
      have HB2 := Lib.hid hB2
      have hbl : B < 18446744073709551616 := by
        rw [← hB2, ← hB1]
        split
        · omega
        · split <;> omega
      have HBL := Lib.hid hbl
      clear hgs hg0 hB1 hB hB2 hres HRES hgl hbl HT HG
      go_wp2_with fail
      refine (HGS.out _).mono ?_
      rintro e w1 ⟨rfl, rfl⟩
      go_upto_if 23 with fail
      go_cut [6] (fun s6 wx => s6 = .int .u64 (B1 : Int) ∧ w = wx)
      case first =>
        by_cases hi : t.data.toList = Num.INFS
        · have t2 : (t.toList == [48, 120, 105, 110, 102]) = true := by rw [Lib.toList_data, hi]; rfl
          have hv : B1 = 9218868437227405312 := by rw [← HB1.out, if_pos hi]
          have HV := Lib.hid hv
          clear hi hv
          go_simp
          go_wp2_with fail
          go_meet
          exact ⟨int_eq' (by have := HV.out; omega), rfl⟩
        · have t2 : (t.toList == [48, 120, 105, 110, 102]) = false := by rw [Lib.toList_data]; exact list_beq hi
          have hv : B1 = g0 := by rw [← HB1.out, if_neg hi]
          have HV := Lib.hid hv
          clear hi hv
          go_simp
          go_wp2_with fail
          go_meet
          exact ⟨int_eq' (by have := HV.out; omega), rfl⟩
      case rest =>
        obtain ⟨rfl, rfl⟩ := hcut
        go_upto_if 25 with fail
        go_cut [6] (fun s6 wx => s6 = .int .u64 (B : Int) ∧ w = wx)
        case first =>
          by_cases hi : t.data.toList = Num.ZERO
          · have t2 : (t.toList == [48, 120, 48]) = true := by rw [Lib.toList_data, hi]; rfl
            have hv : B = 0 := by rw [← HB2.out, if_pos hi]
            have HV := Lib.hid hv
            clear hi hv
            go_simp
            go_wp2_with fail
            go_meet
            exact ⟨int_eq' (by have := HV.out; omega), rfl⟩
          · have t2 : (t.toList == [48, 120, 48]) = false := by rw [Lib.toList_data]; exact list_beq hi
            have hv : B = B1 := by rw [← HB2.out, if_neg hi]
            have HV := Lib.hid hv
            clear hi hv
            go_simp
            go_wp2_with fail
            go_meet
            exact ⟨int_eq' (by have := HV.out; omega), rfl⟩
        case rest =>
          obtain ⟨rfl, rfl⟩ := hcut
          clear HGS HB1 HB2
          by_cases hle : B ≤ 9218868437227405312
          · have t3 : decide ((B : Int) ≤ 9218868437227405312) = true := decide_eq_true (by omega)
            obtain ⟨X, hX⟩ : ∃ X, G + B = X := ⟨_, rfl⟩
            have hxs : (G : Int) + B = X := by omega
            have hxb : X < 18446744073709551616 := by have := HG1.out; omega
            have hf := fun (W : World) => refFmt_any X W hxb
            have hres := HR.out
            rw [hX] at hres
            obtain ⟨q, hq⟩ : ∃ q, Num.fmt X = q := ⟨_, rfl⟩
            have hql : q.length ≤ 24 := by rw [← hq]; exact fmt_len X
            rw [hq] at hf hres
            have HF := Lib.hid hf
            have HR2 := Lib.hid hres
            have xi : (X : Int) ≤ 18446744073709551615 := by omega
            have HXB := Lib.hid hxb
            clear hf hres hq hX hxb HR
            go_wp2_with fail
            refine (HF.out _).mono ?_
            rintro e w1 ⟨rfl, hb⟩
            have HB := Lib.hid hb
            clear hb
            by_cases hqs : q = s.data.toList
            · have t4 : (q == s.toList) = true := by rw [Lib.toList_data, hqs]; simp
              have hr : r = some X := by rw [HR2.out, if_pos ⟨hle, hqs⟩]
              have HR3 := Lib.hid hr
              clear hr hqs HR2 hle
              go_wp2
              go_ret2
              exact FloatRes.some_ HR3.out rfl HB.out
            · have t4 : (q == s.toList) = false := by rw [Lib.toList_data]; exact list_beq hqs
              have hr : r = none := by rw [HR2.out, if_neg (fun h => hqs h.2)]
              have HR3 := Lib.hid hr
              clear hr hqs HR2 hle
              go_wp2
              go_ret2
              exact FloatRes.none_ HR3.out HB.out
          · have t3 : decide ((B : Int) ≤ 9218868437227405312) = false := decide_eq_false (by omega)
            have hr : r = none := by rw [HR.out, if_neg (fun h => hle h.1)]
            have HR2 := Lib.hid hr
            clear hr hle HR
            go_wp2
            go_ret2
            exact FloatRes.none_ HR2.out (Below.refl _ _)
end Go.Proofs.YthnaiiejjdmnaaaGreatDoor
