/- Layer 5 (number): the document's guess. -/
import Derived.Test.YthnaiiejjdmnaaaGreatDoorRefFmt
namespace Go.Proofs.YthnaiiejjdmnaaaGreatDoor
open Go.RowKit

theorem gSig_zero (l : List UInt8) (s : Nat) : Num.gSig 0 l s = (s, l, 0) := by cases l <;> rfl
theorem gSig_nil (k s : Nat) : Num.gSig k [] s = (s, [], k) := by cases k <;> rfl
theorem gSig_pm (k : Nat) (c : UInt8) (r : List UInt8) (s : Nat) (h : Num.isPM c = true) : Num.gSig k (c :: r) s = (s, c :: r, k) := by
  cases k with
  | zero => rfl
  | succ k => simp only [Num.gSig]; rw [if_pos h]
theorem gSig_step (k : Nat) (c : UInt8) (r : List UInt8) (s : Nat) (h : Num.isPM c = false) : Num.gSig (k + 1) (c :: r) s = Num.gSig k r (s * 16 + Num.dgt c) := by
  simp only [Num.gSig]
  rw [h]
  simp
theorem gExp_zero (l : List UInt8) (e : Nat) : Num.gExp 0 l e = e := by cases l <;> rfl
theorem gExp_nil (k e : Nat) : Num.gExp k [] e = e := by cases k <;> rfl
theorem gExp_step (k : Nat) (c : UInt8) (r : List UInt8) (e : Nat) : Num.gExp (k + 1) (c :: r) e = Num.gExp k r (e * 10 + c.toNat % 16) := rfl
theorem drop_at {s : ByteArray} {k : Nat} (h : k < s.size) : s.data.toList.drop k = s[k] :: s.data.toList.drop (k + 1) := by
  have h1 : k < s.data.toList.length := by rw [← Lib.size_eq]; exact h
  rw [List.drop_eq_getElem_cons h1]
  rfl
theorem drop_end {s : ByteArray} {k : Nat} (h : s.size ≤ k) : s.data.toList.drop k = [] := List.drop_eq_nil_of_le (by rw [← Lib.size_eq]; exact h)
/-- what the first loop of guess leaves -/
def GS (l : List UInt8) (n : Nat) (sig k i : Nat) : Prop := Num.gSig 13 l 1 = (sig, l.drop i, k) ∧ n = n
theorem pow13 : (16 : Nat) ^ 13 = 4503599627370496 := by decide

set_option maxHeartbeats 16000000 in
set_option maxRecDepth 100000 in
theorem guess_any (s : ByteArray) (w : World) (hs : s.size ≤ 1073741824) :
    Calls Tryz.prog 96 #[.string s] w fun e w' => e = .returned (.int .u64 (Num.guess s.data.toList : Nat)) ∧ w = w' := by
  by_cases h5 : s.size < 5
  · have hg : Num.guess s.data.toList = 0 := by unfold Num.guess; rw [if_pos (by rw [← Lib.size_eq]; exact h5)]
    have h5' : (s.size : Int) ≤ 4 := by omega
    rw [hg]
    clear hg
    go_enter Tryz.func96, Tryz.ntmps96
    go_wp2
    go_ret
    exact ⟨rfl, rfl⟩
  have h5' : (5 : Int) ≤ s.size := by omega
  have hlt3 : 3 < s.size := by omega
  obtain ⟨A, hA⟩ : ∃ A, (if s.data.toList[3]? = some 46 then 4 else 3) = A := ⟨_, rfl⟩
  have hA1 : 3 ≤ A ∧ A ≤ 4 := by rw [← hA]; split <;> omega
  have hg : Num.guess s.data.toList = Num.gTail (Num.gSig 13 (s.data.toList.drop A) 1) := by
    unfold Num.guess
    rw [if_neg (by rw [← Lib.size_eq]; exact h5), ← hA]
    split <;> rfl
  obtain ⟨RES, hRES⟩ : ∃ r, Num.guess s.data.toList = r := ⟨_, rfl⟩
  rw [hRES] at hg ⊢
  have HRES := Lib.hid hg
  have hget := Lib.data_getElem? s 3 hlt3
  rw [hget] at hA
  have HA := Lib.hid hA
  clear hA hg hget hRES h5
  go_enter Tryz.func96, Tryz.ntmps96
  go_upto_if 14 with fail
  go_cut [5] (fun s5 wx => s5 = .int .i64 (A : Int) ∧ w = wx)
  case first =>
    by_cases h46 : s[3]'hlt3 = 46
    · have t1 : (((s[3]'hlt3).toNat : Int) == 46) = true := by rw [h46]; rfl
      have hAv : A = 4 := by have := HA.out; rw [h46, if_pos rfl] at this; exact this.symm
      subst hAv
      clear HA h46
      go_wp2_with fail
      go_meet
      exact ⟨rfl, rfl⟩
    · have t1 : (((s[3]'hlt3).toNat : Int) == 46) = false := by
        rw [beq_eq_false_iff_ne]
        intro e
        exact h46 (UInt8.toNat_inj.1 (by show (s[3]'hlt3).toNat = 46; omega))
      have hAv : A = 3 := by have := HA.out; rw [if_neg (by simpa using h46)] at this; exact this.symm
      subst hAv
      clear HA h46
      go_wp2_with fail
      go_meet
      exact ⟨rfl, rfl⟩
  case rest =>
    obtain ⟨rfl, rfl⟩ := hcut
    clear HA
    obtain ⟨hA1, hA2⟩ := hA1
    have hA3 : A ≤ s.size := by omega
    obtain ⟨Y, hY⟩ : ∃ Y, Num.gSig 13 (s.data.toList.drop A) 1 = Y := ⟨_, rfl⟩
    have hres := HRES.out
    rw [hY] at hres
    have hybd := Num.gSig_bound 13 (s.data.toList.drop A) 1 2 (by omega)
    rw [hY] at hybd
    have HY := Lib.hid hY
    have HR := Lib.hid hres
    have HYB := Lib.hid hybd
    clear hY hres HRES hybd
    go_upto_block 0 with fail
    go_cut [3, 4, 5] (fun s3 s4 s5 wx => ∃ (sig k i : Nat), Y = (sig, s.data.toList.drop i, k) ∧ k ≤ 13 ∧ i ≤ s.size ∧ s3 = .int .u64 (sig : Int) ∧ s4 = .int .i64 (13 - (k : Int)) ∧ s5 = .int .i64 (i : Int) ∧ w = wx)
    case first =>
      go_wp2_with fail
      go_loopg [3, 4, 5] 13 (fun g s3 s4 s5 wr => ∃ (sig i : Nat), Num.gSig g (s.data.toList.drop i) sig = Y ∧ g ≤ 13 ∧ i ≤ s.size ∧ sig < 2 * 16 ^ (13 - g) ∧ s3 = .int .u64 (sig : Int) ∧ s4 = .int .i64 (13 - (g : Int)) ∧ s5 = .int .i64 (i : Int) ∧ w = wr)
      case atStart => exact ⟨1, A, HY.out, by omega, hA3, by decide, rfl, rfl, rfl, rfl⟩
      case round =>
        obtain ⟨sig, i, hyy, hg, hi, hsig, rfl, rfl, rfl, rfl⟩ := hrel
        have HYY := Lib.hid hyy
        have hsb : sig < 9007199254740992 := by
          have e1 : 2 * 16 ^ (13 - gk) ≤ 2 * 16 ^ 13 := Nat.mul_le_mul_left _ (Nat.pow_le_pow_right (by decide) (by omega))
          have e2 := pow13
          omega
        have HSIG := Lib.hid hsig
        clear hyy hsig
        have ii : (i : Int) ≤ 1073741824 := by omega
        have gi : (gk : Int) ≤ 13 := by omega
        by_cases hend : s.size ≤ i
        · have t1 : decide (i < s.size) = false := decide_eq_false (by omega)
          have hl := drop_end hend
          have hy2 : Y = (sig, s.data.toList.drop i, gk) := by rw [← HYY.out, hl, gSig_nil]
          have HY2 := Lib.hid hy2
          clear hl hy2 hsb
          go_wp2_with fail
          go_meet
          exact ⟨sig, gk, i, HY2.out, hg, hi, rfl, rfl, rfl, rfl⟩
        · have hlt : i < s.size := by omega
          have hi3 : (i : Int) < s.size := by omega
          have hdrop := drop_at hlt
          obtain ⟨c, hc⟩ : ∃ c, s[i]'hlt = c := ⟨_, rfl⟩
          rw [hc] at hdrop
          clear hend
          by_cases hp : c = 112
          · have t1 : (((s[i]'hlt).toNat : Int) != 112) = false := by rw [hc, hp]; rfl
            have hy2 : Y = (sig, s.data.toList.drop i, gk) := by rw [← HYY.out, hdrop, gSig_pm _ _ _ _ (by rw [hp]; rfl)]
            have HY2 := Lib.hid hy2
            clear hy2 hsb hdrop hc hp
            go_wp2_with fail
            go_meet
            exact ⟨sig, gk, i, HY2.out, hg, hi, rfl, rfl, rfl, rfl⟩
          have t1 : (((s[i]'hlt).toNat : Int) != 112) = true := by
            rw [hc, bne_iff_ne]
            intro e
            exact hp (UInt8.toNat_inj.1 (by show c.toNat = 112; omega))
          by_cases hm : c = 109
          · have t2 : (((s[i]'hlt).toNat : Int) != 109) = false := by rw [hc, hm]; rfl
            have hy2 : Y = (sig, s.data.toList.drop i, gk) := by rw [← HYY.out, hdrop, gSig_pm _ _ _ _ (by rw [hm]; rfl)]
            have HY2 := Lib.hid hy2
            clear hy2 hsb hdrop hc hm hp
            go_wp2_with fail
            go_meet
            exact ⟨sig, gk, i, HY2.out, hg, hi, rfl, rfl, rfl, rfl⟩
          have t2 : (((s[i]'hlt).toNat : Int) != 109) = true := by
            rw [hc, bne_iff_ne]
            intro e
            exact hm (UInt8.toNat_inj.1 (by show c.toNat = 109; omega))
          have hpm : Num.isPM c = false := by simp [Num.isPM, hp, hm]
          cases gk with
          | zero =>
            have hy2 : Y = (sig, s.data.toList.drop i, 0) := by rw [← HYY.out, gSig_zero]
            have HY2 := Lib.hid hy2
            clear hy2 hsb hdrop hc hm hp hpm
            go_wp2_with fail
            go_meet
            exact ⟨sig, 0, i, HY2.out, hg, hi, rfl, rfl, rfl, rfl⟩
          | succ g =>
            have hsig2 : sig < 562949953421312 := by
              have h1 := HSIG.out
              have e1 : 2 * 16 ^ (13 - (g + 1)) ≤ 2 * 16 ^ 12 := Nat.mul_le_mul_left _ (Nat.pow_le_pow_right (by decide) (by omega))
              have e2 : (16 : Nat) ^ 12 = 281474976710656 := by decide
              omega
            have hsigN : ∀ d, d < 16 → sig * 16 + d < 2 * 16 ^ (13 - g) := by
              intro d hd
              have h1 := HSIG.out
              have e1 : 2 * 16 ^ (13 - g) = (2 * 16 ^ (13 - (g + 1))) * 16 := by
                rw [show 13 - g = (13 - (g + 1)) + 1 by omega, Nat.pow_succ, Nat.mul_assoc]
              omega
            have si : (sig : Int) < 562949953421312 := by omega
            have hy2 : Num.gSig g (s.data.toList.drop (i + 1)) (sig * 16 + Num.dgt c) = Y := by rw [← HYY.out, hdrop, gSig_step _ _ _ _ hpm]
            obtain ⟨P, hP⟩ : ∃ P : Int, 13 - ((g + 1 : Nat) : Int) = P := ⟨_, rfl⟩
            rw [hP]
            have tP : decide (P < 13) = true := decide_eq_true (by omega)
            have pP : P ≤ 12 := by omega
            have pP0 : 0 ≤ P := by omega
            have HP := Lib.hid hP
            clear hP gi
            have hcv : (c.toNat : Int) ≤ 255 := by have := UInt8.toNat_lt c; omega
            by_cases hr : 97 ≤ c.toNat ∧ c.toNat ≤ 102
            · have hd : Num.dgt c = c.toNat - 87 := by unfold Num.dgt; rw [if_pos hr]
              have t3 : decide (97 ≤ ((s[i]'hlt).toNat : Int)) = true := by rw [hc]; exact decide_eq_true (by omega)
              have t4 : decide (((s[i]'hlt).toNat : Int) ≤ 102) = true := by rw [hc]; exact decide_eq_true (by omega)
              have b1 : (97 : Int) ≤ (s[i]'hlt).toNat := by rw [hc]; omega
              have b2 : ((s[i]'hlt).toNat : Int) ≤ 102 := by rw [hc]; omega
              rw [hd] at hy2
              have hN := hsigN (c.toNat - 87) (by omega)
              have HD := Lib.hid hy2
              have HN := Lib.hid hN
              have HC := Lib.hid hc
              have HRR := Lib.hid hr
              clear hy2 hN hd hr hsigN hsig2 hsb hdrop hc hm hp hpm hcv
              go_wp2
              go_roundg g
              case measure => omega
              case rel => exact ⟨sig * 16 + (c.toNat - 87), i + 1, HD.out, by omega, by omega, HN.out, int_eq' (by rw [HC.out]; have := HRR.out; omega), int_eq' (by have := HP.out; omega), int_eq' (by omega), rfl⟩
            · have hd : Num.dgt c = c.toNat % 16 := by unfold Num.dgt; rw [if_neg hr]
              rw [hd] at hy2
              have hN := hsigN (c.toNat % 16) (by omega)
              have HD := Lib.hid hy2
              have HN := Lib.hid hN
              have HC := Lib.hid hc
              have b0 : ((s[i]'hlt).toNat : Int) ≤ 255 := by rw [hc]; omega
              have b1 : (0 : Int) ≤ (s[i]'hlt).toNat := by omega
              by_cases h97 : c.toNat < 97
              · have t3 : decide (97 ≤ ((s[i]'hlt).toNat : Int)) = false := by rw [hc]; exact decide_eq_false (by omega)
                clear hy2 hN hd hr hsigN hsig2 hsb hdrop hc hm hp hpm hcv h97
                go_wp2
                go_roundg g
                case measure => omega
                case rel => exact ⟨sig * 16 + c.toNat % 16, i + 1, HD.out, by omega, by omega, HN.out, int_eq' (by rw [HC.out]; omega), int_eq' (by have := HP.out; omega), int_eq' (by omega), rfl⟩
              · have t3 : decide (97 ≤ ((s[i]'hlt).toNat : Int)) = true := by rw [hc]; exact decide_eq_true (by omega)
                have t4 : decide (((s[i]'hlt).toNat : Int) ≤ 102) = false := by rw [hc]; exact decide_eq_false (by omega)
                clear hy2 hN hd hr hsigN hsig2 hsb hdrop hc hm hp hpm hcv h97
                go_wp2
                go_roundg g
                case measure => omega
                case rel => exact ⟨sig * 16 + c.toNat % 16, i + 1, HD.out, by omega, by omega, HN.out, int_eq' (by rw [HC.out]; omega), int_eq' (by have := HP.out; omega), int_eq' (by omega), rfl⟩
    case rest =>
      obtain ⟨sig, k, i, rfl, hk, hi, rfl, rfl, rfl, rfl⟩ := hcut
      have hyb : sig * 16 ^ k < 9007199254740992 := by
        have h1 := HYB.out
        have e := pow13
        simp only at h1
        omega
      obtain ⟨S, hS⟩ : ∃ S, sig * 16 ^ k = S := ⟨_, rfl⟩
      rw [hS] at hyb
      have hr := HR.out
      have ht : Num.gTail (sig, s.data.toList.drop i, k) = match s.data.toList.drop i with
        | [] => 0
        | c :: r => Num.gEnd (Num.gDown 64 S (Num.gSgn c (Num.gExp 4 r 0))) := by rw [← hS]; rfl
      rw [ht] at hr
      have HR2 := Lib.hid hr
      have HS := Lib.hid hS
      have HSB := Lib.hid hyb
      clear ht hr HR HY HYB hS hyb
      go_upto_block 2 with fail
      go_cut [3, 4] (fun s3 s4 wx => s3 = .int .u64 (S : Int) ∧ s4 = .int .i64 13 ∧ w = wx)
      case first =>
        go_wp2_with fail
        go_loopg [3, 4] k (fun g s3 s4 wr => ∃ x : Nat, x * 16 ^ g = S ∧ g ≤ 13 ∧ s3 = .int .u64 (x : Int) ∧ s4 = .int .i64 (13 - (g : Int)) ∧ w = wr)
        case atStart => exact ⟨sig, HS.out, hk, rfl, rfl, rfl⟩
        case round =>
          obtain ⟨x, hx, hg, rfl, rfl, rfl⟩ := hrel
          obtain ⟨P, hP⟩ : ∃ P : Int, 13 - (gk : Int) = P := ⟨_, rfl⟩
          rw [hP]
          have pP : P ≤ 13 := by omega
          have pP0 : 0 ≤ P := by omega
          have HP := Lib.hid hP
          have HX := Lib.hid hx
          cases gk with
          | zero =>
            have tP : decide (P < 13) = false := decide_eq_false (by omega)
            clear hP hx
            go_wp2_with fail
            go_meet
            exact ⟨int_eq' (by have := HX.out; rw [Nat.pow_zero, Nat.mul_one] at this; omega), int_eq' (by have := HP.out; omega), rfl⟩
          | succ g =>
            have tP : decide (P < 13) = true := decide_eq_true (by omega)
            have hx2 : x * 16 < 9007199254740992 := by
              have h1 := HSB.out
              rw [← hx, Nat.pow_succ, Nat.mul_comm (16 ^ g), ← Nat.mul_assoc] at h1
              have h2 := Nat.le_mul_of_pos_right (x * 16) (Nat.pow_pos (n := g) (show 0 < 16 by decide))
              omega
            have xi : (x : Int) < 562949953421312 := by omega
            have hx3 : x * 16 * 16 ^ g = S := by rw [← hx, Nat.pow_succ, Nat.mul_comm (16 ^ g), ← Nat.mul_assoc]
            have HX3 := Lib.hid hx3
            clear hP hx hx2 hx3
            go_wp2
            go_roundg g
            case measure => omega
            case rel => exact ⟨x * 16, HX3.out, by omega, int_eq' (by omega), int_eq' (by have := HP.out; omega), rfl⟩
      case rest =>
        obtain ⟨rfl, rfl, rfl⟩ := hcut
        clear HS
        by_cases hend : s.size ≤ i
        · have t1 : decide (s.size ≤ i) = true := decide_eq_true hend
          have hr : RES = 0 := by rw [HR2.out, drop_end hend]
          have HR3 := Lib.hid hr
          clear hr hend
          go_wp2
          go_ret
          exact ⟨by rw [HR3.out]; rfl, rfl⟩
        have hlt : i < s.size := by omega
        have hi3 : (i : Int) < s.size := by omega
        have ii : (i : Int) ≤ 1073741824 := by omega
        have t1 : decide (s.size ≤ i) = false := decide_eq_false hend
        obtain ⟨c, hc⟩ : ∃ c, s[i]'hlt = c := ⟨_, rfl⟩
        have hdrop := drop_at hlt
        rw [hc] at hdrop
        obtain ⟨X, hX⟩ : ∃ X, Num.gExp 4 (s.data.toList.drop (i + 1)) 0 = X := ⟨_, rfl⟩
        have hxb : X ≤ 20000 := by
          rw [← hX]
          have := Num.gExp_bound 4 (s.data.toList.drop (i + 1)) 0
          omega
        have hr : RES = Num.gEnd (Num.gDown 64 S (Num.gSgn c X)) := by rw [HR2.out, hdrop, ← hX]
        have HX := Lib.hid hX
        have HR3 := Lib.hid hr
        have HC := Lib.hid hc
        clear HR2 hr hX hdrop hc hend
        go_upto_block 4 with fail
        go_cut [7, 8] (fun s7 s8 wx => s7 = .int .i64 (X : Int) ∧ w = wx)
        case first =>
          go_wp2_with fail
          go_loopg [7, 8] 4 (fun g s7 s8 wr => ∃ (x j : Nat), Num.gExp g (s.data.toList.drop j) x = X ∧ j + g = i + 5 ∧ g ≤ 4 ∧ x + 2 ≤ 2 * 10 ^ (4 - g) ∧ s7 = .int .i64 (x : Int) ∧ s8 = .int .i64 (j : Int) ∧ w = wr)
          case atStart => exact ⟨0, i + 1, HX.out, by omega, by omega, by decide, rfl, int_eq' (by omega), rfl⟩
          case round =>
            obtain ⟨x, j, hx, hj, hg, hxb2, rfl, rfl, rfl⟩ := hrel
            have xi : (x : Int) ≤ 20000 := by
              have e1 : 2 * 10 ^ (4 - gk) ≤ 2 * 10 ^ 4 := Nat.mul_le_mul_left _ (Nat.pow_le_pow_right (by decide) (by omega))
              omega
            have ji : (j : Int) ≤ 1073741832 := by omega
            have HJ := Lib.hid hj
            have HXX := Lib.hid hx
            have HXB := Lib.hid hxb2
            clear hj hxb2
            by_cases hend : s.size ≤ j
            · have t2 : decide (j < s.size) = false := decide_eq_false (by omega)
              rw [drop_end hend, gExp_nil] at hx
              have HX2 := Lib.hid hx
              clear hx hend
              go_wp2_with fail
              go_meet
              exact ⟨int_eq' (by have := HX2.out; omega), rfl⟩
            have hjlt : j < s.size := by omega
            have t2 : decide (j < s.size) = true := decide_eq_true hjlt
            cases gk with
            | zero =>
              have t3 : decide ((j : Int) < (i : Int) + 5) = false := decide_eq_false (by have := HJ.out; omega)
              rw [gExp_zero] at hx
              have HX2 := Lib.hid hx
              clear hx hend
              go_wp2_with fail
              go_meet
              exact ⟨int_eq' (by have := HX2.out; omega), rfl⟩
            | succ g =>
              have t3 : decide ((j : Int) < (i : Int) + 5) = true := decide_eq_true (by have := HJ.out; omega)
              have ji3 : (j : Int) < s.size := by omega
              obtain ⟨d, hd⟩ : ∃ d, s[j]'hjlt = d := ⟨_, rfl⟩
              have hdr := drop_at hjlt
              rw [hd] at hdr
              rw [hdr, gExp_step] at hx
              have hN : x * 10 + d.toNat % 16 + 2 ≤ 2 * 10 ^ (4 - g) := by
                have h1 := HXB.out
                rw [show 4 - g = (4 - (g + 1)) + 1 by omega, Nat.pow_succ, ← Nat.mul_assoc]
                omega
              have d1 : ((s[j]'hjlt).toNat : Int) ≤ 255 := by have := UInt8.toNat_lt (s[j]'hjlt); omega
              have d0 : (0 : Int) ≤ (s[j]'hjlt).toNat := by omega
              have HX2 := Lib.hid hx
              have HN := Lib.hid hN
              have HD := Lib.hid hd
              clear hx hend hdr hN hd
              go_wp2
              go_roundg g
              case measure => omega
              case rel => exact ⟨x * 10 + d.toNat % 16, j + 1, HX2.out, by have := HJ.out; omega, by omega, HN.out, int_eq' (by rw [HD.out]; omega), int_eq' (by omega), rfl⟩
        case rest =>
          obtain ⟨rfl, rfl⟩ := hcut
          obtain ⟨E, hE⟩ : ∃ E, Num.gSgn c X = E := ⟨_, rfl⟩
          have hr := HR3.out
          rw [hE] at hr
          have hEb : -20000 ≤ E ∧ E ≤ 20000 := by rw [← hE]; unfold Num.gSgn; split <;> omega
          have HE := Lib.hid hE
          have HR4 := Lib.hid hr
          clear hr hE HR3 HX
          have xi : (X : Int) ≤ 20000 := by omega
          go_upto_if 99 with fail
          go_cut [7] (fun s7 wx => s7 = .int .i64 E ∧ w = wx)
          case first =>
            by_cases hm : c = 109
            · have hv : E = -(X : Int) := by rw [← HE.out]; unfold Num.gSgn; rw [if_pos hm]
              have HV := Lib.hid hv
              have t9 : (((s[i]'hlt).toNat : Int) == 109) = true := by rw [HC.out, hm]; rfl
              clear hv hm
              go_simp
              go_wp2_with fail
              go_meet
              exact ⟨int_eq' HV.out.symm, rfl⟩
            · have hv : E = (X : Int) := by rw [← HE.out]; unfold Num.gSgn; rw [if_neg hm]
              have HV := Lib.hid hv
              have t9 : (((s[i]'hlt).toNat : Int) == 109) = false := by
                rw [HC.out, beq_eq_false_iff_ne]
                intro e
                exact hm (UInt8.toNat_inj.1 (by show c.toNat = 109; omega))
              clear hv hm
              go_simp
              go_wp2_with fail
              go_meet
              exact ⟨int_eq' HV.out.symm, rfl⟩
          case rest =>
            obtain ⟨rfl, rfl⟩ := hcut
            obtain ⟨hE1, hE2⟩ := hEb
            clear HC HE
            obtain ⟨R, hR⟩ : ∃ R, Num.gDown 64 S E = R := ⟨_, rfl⟩
            have hr := HR4.out
            rw [hR] at hr
            have HR5 := Lib.hid hr
            have HR := Lib.hid hR
            clear hr hR HR4
            go_upto_block 6 with fail
            go_cut [3, 7] (fun s3 s7 wx => ∃ (x : Nat) (e : Int), R = (x, e) ∧ x ≤ S ∧ (x = 0 ∨ -1022 ≤ e) ∧ e ≤ 20000 ∧ -20000 ≤ e ∧ s3 = .int .u64 (x : Int) ∧ s7 = .int .i64 e ∧ w = wx)
            case first =>
              go_wp2_with fail
              go_loopg [3, 7] 64 (fun g s3 s7 wr => ∃ (x : Nat) (e : Int), Num.gDown g x e = R ∧ x < 2 ^ g ∧ x ≤ S ∧ e ≤ 20000 ∧ -20000 ≤ e ∧ s3 = .int .u64 (x : Int) ∧ s7 = .int .i64 e ∧ w = wr)
              case atStart => exact ⟨S, E, HR.out, by have := HSB.out; omega, Nat.le_refl _, hE2, hE1, rfl, rfl, rfl⟩
              case round =>
                obtain ⟨x, e, hx, hxg, hxs, he1, he2, rfl, rfl, rfl⟩ := hrel
                have HXG := Lib.hid hxg
                have HXS := Lib.hid hxs
                have x0 : (0 : Int) ≤ x := by omega
                clear hxg hxs
                by_cases hc : e < -1022 ∧ 0 < x
                · obtain ⟨h1, h2⟩ := hc
                  have t1 : decide (e < -1022) = true := decide_eq_true h1
                  have t2 : decide (0 < x) = true := decide_eq_true h2
                  have t3 : decide ((0 : Int) < x) = true := decide_eq_true (by omega)
                  obtain ⟨g, rfl⟩ : ∃ g, gk = g + 1 := by
                    cases gk with
                    | zero => have := HXG.out; rw [Nat.pow_zero] at this; omega
                    | succ g => exact ⟨g, rfl⟩
                  have hx2 : Num.gDown g (x / 2) (e + 1) = R := by
                    rw [← hx]
                    simp only [Num.gDown]
                    rw [if_pos ⟨h1, h2⟩]
                  have HX2 := Lib.hid hx2
                  have xi2 : (x : Int) ≤ 9007199254740992 := by have := HXS.out; have := HSB.out; omega
                  clear hx hx2
                  go_wp2
                  go_roundg g
                  case measure => omega
                  case rel => exact ⟨x / 2, e + 1, HX2.out, by have := HXG.out; rw [Nat.pow_succ] at this; omega, by have := HXS.out; omega, by omega, by omega, int_eq' (by omega), rfl, rfl⟩
                · rw [Num.gDown_stop hc] at hx
                  have HX2 := Lib.hid hx.symm
                  have hor : x = 0 ∨ -1022 ≤ e := by omega
                  have HOR := Lib.hid hor
                  by_cases h1 : e < -1022
                  · have t1 : decide (e < -1022) = true := decide_eq_true h1
                    obtain rfl : x = 0 := by omega
                    clear hx hc hor
                    go_wp2_with fail
                    go_meet
                    exact ⟨0, e, HX2.out, HXS.out, .inl rfl, he1, he2, rfl, rfl, rfl⟩
                  · have t1 : decide (e < -1022) = false := decide_eq_false h1
                    clear hx hc hor
                    go_wp2_with fail
                    go_meet
                    exact ⟨x, e, HX2.out, HXS.out, HOR.out, he1, he2, rfl, rfl, rfl⟩
            case rest =>
              obtain ⟨x, e, hR, hxs, hor, he1, he2, rfl, rfl, rfl⟩ := hcut
              have hxb : x < 9007199254740992 := by have := HSB.out; omega
              have hr := HR5.out
              rw [hR] at hr
              have hv : RES = if x < 4503599627370496 ∨ 1023 < e then x % 4503599627370496 else (e + 1022).toNat * 4503599627370496 + x := hr
              have x0 : (0 : Int) ≤ x := by omega
              clear hr hR HR HR5
              by_cases h1 : x < 4503599627370496
              · have t1 : decide ((x : Int) < 4503599627370496) = true := decide_eq_true (by omega)
                rw [if_pos (.inl h1)] at hv
                have HV := Lib.hid hv
                clear hv h1 hxb hxs hor
                go_wp2
                go_ret
                exact ⟨by rw [HV.out]; exact congrArg Ending.returned (int_eq' (by omega)), rfl⟩
              · have t1 : decide ((x : Int) < 4503599627370496) = false := decide_eq_false (by omega)
                by_cases h2 : 1023 < e
                · have t2 : decide (1023 < e) = true := decide_eq_true h2
                  rw [if_pos (.inr h2)] at hv
                  have HV := Lib.hid hv
                  clear hv h1 hxb hxs hor
                  go_wp2
                  go_ret
                  exact ⟨by rw [HV.out]; exact congrArg Ending.returned (int_eq' (by omega)), rfl⟩
                · have t2 : decide (1023 < e) = false := decide_eq_false h2
                  rw [if_neg (by omega)] at hv
                  have HV := Lib.hid hv
                  have e1 : e ≤ 1023 := by omega
                  have e2 : -1022 ≤ e := by omega
                  have xi : (x : Int) < 9007199254740992 := by omega
                  clear hv h1 h2 hxb hxs hor
                  go_wp2
                  go_ret
                  exact ⟨by rw [HV.out]; exact congrArg Ending.returned (int_eq' (by omega)), rfl⟩
end Go.Proofs.YthnaiiejjdmnaaaGreatDoor
