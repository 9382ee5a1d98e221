/- Layer 5 (number): FormatFloat, the document's. -/
import Derived.Test.YthnaiiejjdmnaaaGreatDoorNumFmt
import Derived.Deep.DeepCutAuto
import Derived.Deep.CutBlock
namespace Go.Proofs.YthnaiiejjdmnaaaGreatDoor
open Go.RowKit

theorem trim_take (l : List UInt8) (n : Nat) (h : n < l.length) : Lib.trimRightS (l.take (n + 1)) [48] = if l[n]'h = 48 then Lib.trimRightS (l.take n) [48] else l.take (n + 1) := by
  have e : l.take (n + 1) = l.take n ++ [l[n]'h] := by simp
  rw [e]
  exact Num.trim_snoc _ _
theorem trim_zero13 : Lib.trimRightS (Num.hexN 13 0) [48] = [] := by decide
theorem trim_empty {f : Nat} (hf : f < 4503599627370496) (h : Lib.trimRightS (Num.hexN 13 f) [48] = []) : f = 0 := by
  obtain ⟨j, h1, _⟩ := Num.trim_split _ (Num.hexN 13 f) rfl
  rw [h, List.nil_append] at h1
  have h2 := Num.hexVal_hexN 13 f 0 (by have e : (16 : Nat) ^ 13 = 4503599627370496 := by decide
                                        omega)
  rw [h1, Num.hexVal_zeros] at h2
  have h3 := Option.some.inj h2
  omega
theorem fracS_cases {f : Nat} (hf : f < 4503599627370496) {tl : List UInt8} (h : Lib.trimRightS (Num.hexN 13 f) [48] = tl) : Num.fracS f = if tl = [] then [] else 46 :: tl := by
  unfold Num.fracS
  by_cases h0 : f = 0
  · subst h0
    rw [trim_zero13] at h
    subst h
    rfl
  · rw [if_neg h0, h, if_neg (fun e => h0 (trim_empty hf (h.trans e)))]

set_option maxHeartbeats 16000000 in
set_option maxRecDepth 100000 in
/-- the document's FormatFloat -/
theorem refFmt_any (b : Nat) (w : World) (hb : b < 18446744073709551616) :
    Calls Tryz.prog 55 #[.int .u64 b] w fun e w' => e = .returned (.string ⟨(Num.fmt b).toArray⟩) ∧ Below w.heap.size w w' := by
  obtain ⟨a, ha⟩ : ∃ a, b % 9223372036854775808 = a := ⟨_, rfl⟩
  obtain ⟨neg, hneg⟩ : ∃ n, decide (9223372036854775808 ≤ b) = n := ⟨_, rfl⟩
  have hf : Num.fmt b = if 9218868437227405312 < a then Num.NANS else Num.sg neg ++ Num.fmtU a := by unfold Num.fmt; rw [ha, hneg]
  obtain ⟨SG, hSG⟩ : ∃ s : ByteArray, (⟨(Num.sg neg).toArray⟩ : ByteArray) = s := ⟨_, rfl⟩
  have hsgl : SG.size ≤ 1 := by rw [← hSG, size_list]; cases neg <;> simp [Num.sg]
  have hai : (a : Int) ≤ 9223372036854775807 := by omega
  have hai0 : (0 : Int) ≤ a := by omega
  have HA := Lib.hid ha
  have HNEG := Lib.hid hneg
  have HSG := Lib.hid hSG
  obtain ⟨RES, hRES⟩ : ∃ r, Num.fmt b = r := ⟨_, rfl⟩
  rw [hRES] at hf ⊢
  have HRES := Lib.hid hf
  clear ha hneg hSG hf hRES
  go_enter Tryz.func55, Tryz.ntmps55
  go_upto_if 9 with fail
  go_cut [0, 3] (fun s0 s3 wx => s0 = .int .u64 a ∧ s3 = .string SG ∧ w = wx)
  case first =>
    by_cases hs : 9223372036854775808 ≤ b
    · have bs : decide (9223372036854775808 ≤ (b : Int)) = true := decide_eq_true (by omega)
      have hbi : (9223372036854775808 : Int) ≤ b := by omega
      have hbi2 : (b : Int) ≤ 18446744073709551615 := by omega
      have hsg : SG = ⟨#[45]⟩ := by rw [← HSG.out, ← HNEG.out, decide_eq_true hs]; rfl
      have hv : (b : Int) - 9223372036854775808 = a := by have := HA.out; omega
      have HV := Lib.hid hv
      have HS := Lib.hid hsg
      clear hv hsg hs hb
      go_simp
      go_wp2_with fail
      go_meet
      exact ⟨int_eq' HV.out, by rw [HS.out], rfl⟩
    · have bs : decide (9223372036854775808 ≤ (b : Int)) = false := decide_eq_false (by omega)
      have hsg : SG = ⟨#[]⟩ := by rw [← HSG.out, ← HNEG.out, decide_eq_false hs]; rfl
      have hv : (b : Int) = a := by have := HA.out; omega
      have HV := Lib.hid hv
      have HS := Lib.hid hsg
      clear hv hsg hs hb
      go_simp
      go_wp2_with fail
      go_meet
      exact ⟨int_eq' HV.out, by rw [HS.out], rfl⟩
  case rest =>
    obtain ⟨rfl, rfl, rfl⟩ := hcut
    clear HNEG HA
    by_cases hnan : 9218868437227405312 < a
    · have hr : RES = Num.NANS := by rw [HRES.out, if_pos hnan]
      have HR := Lib.hid hr
      clear hr
      have b2 : decide (9218868437227405312 < (a : Int)) = true := decide_eq_true (by omega)
      clear hnan hb
      go_wp2
      go_ret
      exact ⟨by rw [HR.out]; rfl, Below.refl _ _⟩
    have b2 : decide (9218868437227405312 < (a : Int)) = false := decide_eq_false (by omega)
    by_cases hinf : a = 9218868437227405312
    · have e1 : Num.fmtU a = Num.INFS := by unfold Num.fmtU; rw [if_pos hinf]
      have hr : RES = Num.sg neg ++ Num.INFS := by rw [HRES.out, if_neg hnan, e1]
      have HR := Lib.hid hr
      have b3 : ((a : Int) == 9218868437227405312) = true := by rw [beq_iff_eq]; omega
      clear hnan hinf e1 hb hr
      go_wp2
      go_ret
      exact ⟨by rw [HR.out, ← HSG.out, str_app]; rfl, Below.refl _ _⟩
    have b3 : ((a : Int) == 9218868437227405312) = false := by rw [beq_eq_false_iff_ne]; omega
    by_cases h0 : a = 0
    · have e1 : Num.fmtU a = Num.ZERO := by unfold Num.fmtU; rw [if_neg hinf, if_pos h0]
      have hr : RES = Num.sg neg ++ Num.ZERO := by rw [HRES.out, if_neg hnan, e1]
      have HR := Lib.hid hr
      have b4 : ((a : Int) == 0) = true := by rw [beq_iff_eq]; omega
      clear hnan hinf h0 e1 hb hr
      go_wp2
      go_ret
      exact ⟨by rw [HR.out, ← HSG.out, str_app]; rfl, Below.refl _ _⟩
    have b4 : ((a : Int) == 0) = false := by rw [beq_eq_false_iff_ne]; omega
    have e1 : Num.fmtU a = Num.form (Num.nfrac a) (Num.nexp a) := by unfold Num.fmtU; rw [if_neg hinf, if_neg h0]
    have hr : RES = Num.sg neg ++ Num.form (Num.nfrac a) (Num.nexp a) := by rw [HRES.out, if_neg hnan, e1]
    obtain ⟨p1, p2, p3, -, -⟩ := Num.nparts h0 (by omega)
    obtain ⟨E, hE⟩ : ∃ E, Num.nexp a = E := ⟨_, rfl⟩
    obtain ⟨f, hf⟩ : ∃ f, Num.nfrac a = f := ⟨_, rfl⟩
    rw [hE, hf] at hr
    have HR := Lib.hid hr
    rw [hE] at p2 p3
    rw [hf] at p1
    obtain ⟨X, hX⟩ : ∃ X, E + 1023 = X := ⟨_, rfl⟩
    obtain ⟨G, hG⟩ : ∃ G, f + 4503599627370496 = G := ⟨_, rfl⟩
    have hx1 : X ≤ 2046 := by omega
    have hx2 : -51 ≤ X := by omega
    have hg1 : (G : Int) < 9007199254740992 := by omega
    have hg2 : (4503599627370496 : Int) ≤ G := by omega
    have HE := Lib.hid hE
    have HF := Lib.hid hf
    have HX := Lib.hid hX
    have HG := Lib.hid hG
    have H0 := Lib.hid h0
    have HN := Lib.hid hnan
    have HI := Lib.hid hinf
    have hai2 : (a : Int) ≤ 9218868437227405312 := by omega
    clear hE hf hX hG e1 h0 hnan hinf hb hr HRES
    go_upto_if 29 with fail
    go_cut [4, 5] (fun s4 s5 wx => s4 = .int .i64 X ∧ s5 = .int .u64 G ∧ w = wx)
    case first =>
      clear hx1 hx2 hg1 hg2 p1 p2 p3
      by_cases hx : a < 4503599627370496
      · obtain ⟨u1, u2, u3, u4⟩ := Num.up_spec H0.out hx
        have en : X = 1 - (Num.up a : Int) := by rw [← HX.out, ← HE.out]; unfold Num.nexp; rw [if_pos hx]; omega
        have fn : G = a * 2 ^ Num.up a := by rw [← HG.out, ← HF.out]; unfold Num.nfrac; rw [if_pos hx]; omega
        obtain ⟨U, hU⟩ : ∃ U, Num.up a = U := ⟨_, rfl⟩
        rw [hU] at u1 u2 u3 u4 en fn
        have k1 : (a : Int) / 4503599627370496 = 0 := by omega
        have ha1 : (a : Int) < 4503599627370496 := by omega
        have hU1 : (1 : Int) ≤ U := by omega
        have hU2 : (U : Int) ≤ 52 := by omega
        have HEN := Lib.hid en
        have HFN := Lib.hid fn
        have HU2 := Lib.hid u2
        have HU3 := Lib.hid u3
        have HU4 := Lib.hid u4
        clear en fn hU u1 u2 u3 u4 hx
        refine wp_cond_true (by simp only [k1]; rfl) ?_
        go_wp2_with fail
        go_loopg [4, 5] U (fun g x y wr => ∃ j : Nat, j + g = U ∧ x = .int .i64 (1 - (j : Int)) ∧ y = .int .u64 ((a * 2 ^ j : Nat) : Int) ∧ w = wr)
        case atStart => exact ⟨0, by omega, rfl, by simp, rfl⟩
        case round =>
          obtain ⟨j, hj, rfl, rfl, rfl⟩ := hrel
          have HJ := Lib.hid hj
          clear hj
          cases gk with
          | succ g =>
            have hj1 : j + 1 ≤ U := by have := HJ.out; omega
            obtain ⟨y, hy⟩ : ∃ y, a * 2 ^ j = y := ⟨_, rfl⟩
            have hyb : y < 4503599627370496 := by
              have e1 : a * 2 ^ (j + 1) ≤ a * 2 ^ U := Nat.mul_le_mul_left _ (Nat.pow_le_pow_right (by decide) hj1)
              rw [Nat.pow_succ, ← Nat.mul_assoc, hy] at e1
              have := HU4.out
              omega
            have hy2 : a * 2 ^ (j + 1) = y * 2 := by rw [Nat.pow_succ, ← Nat.mul_assoc, hy]
            rw [hy]
            have HY := Lib.hid hy2
            have yi : (y : Int) < 4503599627370496 := by omega
            have ji : (j : Int) ≤ 52 := by have := HU2.out; omega
            clear hy hy2
            go_wp2
            go_roundg g
            case measure => omega
            case rel => exact ⟨j + 1, by have := HJ.out; omega, int_eq' (by omega), by rw [HY.out]; exact int_eq' (by omega), rfl⟩
          | zero =>
            obtain rfl : j = U := by have := HJ.out; omega
            obtain ⟨y, hy⟩ : ∃ y, a * 2 ^ j = y := ⟨_, rfl⟩
            rw [hy]
            have yi : (4503599627370496 : Int) ≤ y := by have := HU3.out; omega
            have dy : decide ((y : Int) < 4503599627370496) = false := decide_eq_false (by omega)
            have HY := Lib.hid hy
            clear hy hai hai2 ha1 b2 b3 b4 k1
            go_wp2_with fail
            go_meet
            exact ⟨int_eq' HEN.out.symm, int_eq' (by rw [HFN.out, HY.out]), rfl⟩
      · have en : X = ((a / 4503599627370496 : Nat) : Int) := by rw [← HX.out, ← HE.out]; unfold Num.nexp; rw [if_neg hx]; omega
        have fn : G = a % 4503599627370496 + 4503599627370496 := by rw [← HG.out, ← HF.out]; unfold Num.nfrac; rw [if_neg hx]
        have t1 : ((a : Int) / 4503599627370496 == 0) = false := by rw [beq_eq_false_iff_ne]; omega
        have HEN := Lib.hid en
        have HFN := Lib.hid fn
        have ha1 : (4503599627370496 : Int) ≤ a := by omega
        clear en fn hx
        refine wp_cond_false (by simp only [t1]; rfl) ?_
        go_wp2_with fail
        go_meet
        exact ⟨int_eq' (by rw [HEN.out]; omega), int_eq' (by rw [HFN.out]; omega), rfl⟩
    case rest =>
      obtain ⟨rfl, rfl, rfl⟩ := hcut
      have kE : X - 1023 = E := by have := HX.out; omega
      have kG : (G : Int) - 4503599627370496 = f := by have := HG.out; omega
      obtain ⟨H13, h13⟩ : ∃ h, Num.hexN 13 f = h := ⟨_, rfl⟩
      have h13l : H13.length = 13 := by rw [← h13]; exact Num.hexN_len 13 f
      obtain ⟨z, hz⟩ : ∃ z : ByteArray, (⟨H13.toArray⟩ : ByteArray) = z := ⟨_, rfl⟩
      have hzl : z.size = 13 := by rw [← hz, size_list, h13l]
      have hzd : z.data.toList = H13 := by rw [← hz]
      obtain ⟨tl, htl⟩ : ∃ t, Lib.trimRightS H13 [48] = t := ⟨_, rfl⟩
      have hfr := fracS_cases (tl := tl) p1 (by rw [h13]; exact htl)
      have hhex := fun (W : World) => hex_any f 13 W (by omega) (by omega)
      rw [h13, hz] at hhex
      have HHEX := Lib.hid hhex
      have HFR := Lib.hid hfr
      have HZD := Lib.hid hzd
      have HL13 := Lib.hid h13l
      have HTL := Lib.hid htl
      clear hfr hhex h13 hz hzd h13l htl HE HF HX HG H0 HN HI b2 b3 b4 hai hai2 hai0
      go_wp2_with fail
      refine (HHEX.out _).mono ?_
      rintro e w1 ⟨rfl, hb1⟩
      have HB1 := Lib.hid hb1
      clear hb1
      clear hg1 hg2 p1 kG
      go_upto_block 2 with fail
      go_cut [7] (fun s7 wx => s7 = .int .i64 (tl.length : Int) ∧ tl = H13.take tl.length ∧ w1 = wx)
      case first =>
        go_wp2_with fail
        go_loopg [7] 13 (fun g x wr => g ≤ 13 ∧ x = .int .i64 (g : Int) ∧ Lib.trimRightS (H13.take g) [48] = tl ∧ w1 = wr)
        case atStart => exact ⟨by omega, rfl, by rw [List.take_of_length_le (by rw [HL13.out]; exact Nat.le_refl _)]; exact HTL.out, rfl⟩
        case round =>
          obtain ⟨hg, rfl, htk, rfl⟩ := hrel
          have HTK := Lib.hid htk
          clear htk
          cases gk with
          | zero =>
            have htl0 : [] = tl := HTK.out
            have HT := Lib.hid htl0
            clear htl0 HTK
            go_wp2_with fail
            go_meet
            exact ⟨by rw [← HT.out]; rfl, by rw [← HT.out]; rfl, rfl⟩
          | succ g =>
            have hlt : g < z.size := by omega
            have gi : (g : Int) ≤ 12 := by omega
            have hl13 : g < H13.length := by rw [HL13.out]; omega
            have hz0 : z[g]'hlt = H13[g]'hl13 := by
              have h1 := Lib.data_getElem? z g hlt
              rw [HZD.out, List.getElem?_eq_getElem hl13] at h1
              exact (Option.some.inj h1).symm
            have hstep := trim_take H13 g hl13
            rw [HTK.out] at hstep
            obtain ⟨c, hc⟩ : ∃ c, z[g]'hlt = c := ⟨_, rfl⟩
            rw [← hz0, hc] at hstep
            by_cases h48 : c = 48
            · have t5 : (((z[g]'hlt).toNat : Int) == 48) = true := by rw [hc, h48]; rfl
              rw [if_pos h48] at hstep
              have HS := Lib.hid hstep
              clear hstep hz0 hc h48 hl13
              go_wp2
              go_roundg g
              case measure => omega
              case rel => exact ⟨by omega, int_eq' (by omega), HS.out.symm, rfl⟩
            · have t5 : (((z[g]'hlt).toNat : Int) == 48) = false := by
                rw [hc, beq_eq_false_iff_ne]
                intro e
                exact h48 (UInt8.toNat_inj.1 (by show c.toNat = 48; omega))
              rw [if_neg h48] at hstep
              have hlen : tl.length = g + 1 := by
                rw [hstep, List.length_take, HL13.out]; omega
              have HS := Lib.hid hstep
              have HLEN := Lib.hid hlen
              clear hstep hz0 hc h48 hl13 hlen
              go_wp2_with fail
              go_meet
              exact ⟨int_eq' (by rw [HLEN.out]; omega), by rw [HLEN.out]; exact HS.out, rfl⟩
      case rest =>
        obtain ⟨rfl, htk, rfl⟩ := hcut
        have HTK := Lib.hid htk
        have htll : tl.length ≤ 13 := by
          have h1 := congrArg List.length htk
          rw [List.length_take, HL13.out] at h1
          omega
        obtain ⟨n, hn⟩ : ∃ n, tl.length = n := ⟨_, rfl⟩
        rw [hn]
        rw [hn] at htll
        have HN := Lib.hid hn
        clear htk hn
        obtain ⟨fs, hfs⟩ : ∃ x, Num.fracS f = x := ⟨_, rfl⟩
        have hfs2 : fs = if tl = [] then [] else 46 :: tl := by rw [← hfs]; exact HFR.out
        have hfsl : fs.length ≤ 14 := by
          rw [hfs2]
          split
          · simp
          · rw [List.length_cons, HN.out]; omega
        obtain ⟨S3, hS3⟩ : ∃ x : ByteArray, SG ++ ⟨#[48, 120, 49]⟩ ++ ⟨fs.toArray⟩ = x := ⟨_, rfl⟩
        have hs3l : S3.size ≤ 20 := by rw [← hS3, ByteArray.size_append, ByteArray.size_append]; have e : (⟨#[48, 120, 49]⟩ : ByteArray).size = 3 := rfl; have e2 : (⟨fs.toArray⟩ : ByteArray).size = fs.length := size_list fs; omega
        have HS3 := Lib.hid hS3
        have HFS := Lib.hid hfs
        have HFS2 := Lib.hid hfs2
        clear hS3 hfs hfs2 hfsl HFR
        go_upto_if 56 with fail
        go_cut [3] (fun s3 wx => s3 = .string S3 ∧ w1 = wx)
        case first =>
          by_cases ht0 : tl = []
          · have hn0 : n = 0 := by rw [← HN.out, ht0]; rfl
            have hs : SG ++ ⟨#[48, 120, 49]⟩ = S3 := by
              rw [← HS3.out, HFS2.out, if_pos ht0]
              apply ByteArray.ext
              simp
            have HS := Lib.hid hs
            subst hn0
            clear hs ht0
            go_wp2_with fail
            go_meet
            exact ⟨by rw [HS.out], rfl⟩
          · have hn1 : 0 < n := by
              have : tl.length ≠ 0 := fun e => ht0 (List.eq_nil_of_length_eq_zero e)
              rw [HN.out] at this
              omega
            have hn2 : (1 : Int) ≤ n := by omega
            have hext : z.extract 0 n = ⟨tl.toArray⟩ := by
              apply ByteArray.ext
              apply Array.toList_inj.1
              rw [Lib.extract_data, HZD.out]
              have := HTK.out
              rw [HN.out] at this
              rw [this]
              simp
            have hs : SG ++ ⟨#[48, 120, 49]⟩ ++ ⟨#[46]⟩ ++ z.extract 0 n = S3 := by
              rw [← HS3.out, HFS2.out, if_neg ht0, hext]
              apply ByteArray.ext
              simp
            have HS := Lib.hid hs
            clear hs ht0 hext
            have hn13 : n ≤ z.size := by omega
            go_wp2_with fail
            go_meet
            exact ⟨by rw [HS.out], rfl⟩
        case rest =>
          obtain ⟨rfl, rfl⟩ := hcut
          by_cases hneg : E < 0
          · obtain ⟨m, hm⟩ : ∃ m : Nat, -E = (m : Int) := ⟨(-E).toNat, by omega⟩
            obtain ⟨r, hr⟩ : ∃ r, Lib.decDigits m = r := ⟨_, rfl⟩
            have hrl : r.length ≤ 20 := by rw [← hr, Num.dec_len]; exact nDigits_le 19 m (by omega)
            have hex : Num.expS E = 109 :: r := by
              unfold Num.expS
              rw [if_pos hneg, hm, Lib.itoa_nonneg, hr]
            have HEX2 := Lib.hid hex
            have HDIG := Lib.hid (fun (W : World) => hr ▸ digits_any m W (by omega))
            have te4 : (m : Int) ≤ 2000 := by omega
            have te0 : (0 : Int) ≤ m := by omega
            have te1 : E ≤ -1 := by omega
            clear hr hex
            go_wp2_with fail
            refine (HDIG.out _).mono ?_
            rintro e w2 ⟨rfl, hb2⟩
            have HB2 := Lib.hid hb2
            clear hb2 hm
            go_wp2
            go_ret
            refine ⟨?_, HB1.out.trans (HB2.out.mono HB1.out.size)⟩
            rw [HR.out, ← HS3.out, ← HSG.out]
            unfold Num.form
            rw [HEX2.out, HFS.out]
            exact congrArg (fun q => Ending.returned (Value.string q)) (by apply ByteArray.ext; simp)
          · obtain ⟨m, hm⟩ : ∃ m : Nat, E = (m : Int) := ⟨E.toNat, by omega⟩
            subst hm
            obtain ⟨r, hr⟩ : ∃ r, Lib.decDigits m = r := ⟨_, rfl⟩
            have hrl : r.length ≤ 20 := by rw [← hr, Num.dec_len]; exact nDigits_le 19 m (by omega)
            have hex : Num.expS (m : Int) = 112 :: r := by
              unfold Num.expS
              rw [if_neg hneg, Lib.itoa_nonneg, hr]
            have HEX2 := Lib.hid hex
            have HDIG := Lib.hid (fun (W : World) => hr ▸ digits_any m W (by omega))
            have te0 : (0 : Int) ≤ m := by omega
            clear hr hex hneg
            go_wp2_with fail
            refine (HDIG.out _).mono ?_
            rintro e w2 ⟨rfl, hb2⟩
            have HB2 := Lib.hid hb2
            clear hb2
            go_wp2
            go_ret
            refine ⟨?_, HB1.out.trans (HB2.out.mono HB1.out.size)⟩
            rw [HR.out, ← HS3.out, ← HSG.out]
            unfold Num.form
            rw [HEX2.out, HFS.out]
            exact congrArg (fun q => Ending.returned (Value.string q)) (by apply ByteArray.ext; simp)
end Go.Proofs.YthnaiiejjdmnaaaGreatDoor
