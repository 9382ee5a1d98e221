/- Contracts and plain laws, part 38. -/
import Derived.Test.YtoofbflplhbpbaaGreatDoorLT37
import Derived.Lib.FrozenHead2
import Derived.Lib.ConvBytes
namespace Go.Proofs.YtoofbflplhbpbaaGreatDoor
open Go.RowKit
theorem trim_take (l : List UInt8) (n : Nat) (h : n < l.length) : Lib.trimRightS (l.take (n + 1)) [48] = if l[n]'h = 48 then Lib.trimRightS (l.take n) [48] else l.take (n + 1) := by
 have e : l.take (n + 1) = l.take n ++ [l[n]'h] := by simp
 rw [e]
 exact Num.trim_snoc _ _
theorem trim_zero13 : Lib.trimRightS (Num.hexN 13 0) [48] = [] := by decide
theorem trim_empty {f : Nat} (hf : f < 4503599627370496) (h : Lib.trimRightS (Num.hexN 13 f) [48] = []) : f = 0 := by
  obtain ⟨j, h1, _⟩ := Num.trim_split _ (Num.hexN 13 f) rfl
  rw [h, List.nil_append] at h1
  have h2 := Num.hexVal_hexN 13 f 0 (by have e : (16 : Nat) ^ 13 = 4503599627370496 := by decide
                                        omega)
  rw [h1, Num.hexVal_zeros] at h2
  have h3 := Option.some.inj h2
  omega
theorem fracS_cases {f : Nat} (hf : f < 4503599627370496) {tl : List UInt8} (h : Lib.trimRightS (Num.hexN 13 f) [48] = tl) : Num.fracS f = if tl = [] then [] else 46 :: tl := by
 unfold Num.fracS
 by_cases h0 : f = 0
 ·subst h0
  rw [trim_zero13] at h
  subst h
  rfl
 ·rw [if_neg h0, h, if_neg (fun e => h0 (trim_empty hf (h.trans e)))]
set_option maxHeartbeats 16000000 in
set_option maxRecDepth 100000 in
theorem refFmt_any (b : Nat) (w : World) (hb : b < 18446744073709551616) :
  Calls Tryz.prog 76 #[.int .u64 b] w fun e w' => e = .returned (.string ⟨(Num.fmt b).toArray⟩) ∧ Below w.heap.size w w' := by
 obtain ⟨a, ha⟩ : ∃ a, b % 9223372036854775808 = a := ⟨_, rfl⟩
 obtain ⟨neg, hneg⟩ : ∃ n, decide (9223372036854775808 ≤ b) = n := ⟨_, rfl⟩
 have hf : Num.fmt b = if 9218868437227405312 < a then Num.NANS else Num.sg neg ++ Num.fmtU a := by unfold Num.fmt; rw [ha, hneg]
 obtain ⟨SG, hSG⟩ : ∃ s : ByteArray, (⟨(Num.sg neg).toArray⟩ : ByteArray) = s := ⟨_, rfl⟩
 have hsgl : SG.size ≤ 1 := by rw [← hSG, size_list]; cases neg <;> simp [Num.sg]
 have hai : (a : Int) ≤ 9223372036854775807 := by omega
 have hai0 : (0 : Int) ≤ a := by omega
 have HA := hq7 ha
 have HNEG := hq7 hneg
 have HSG := hq7 hSG
 obtain ⟨RES, hRES⟩ : ∃ r, Num.fmt b = r := ⟨_, rfl⟩
 rw [hRES] at hf ⊢
 have HRES := hq7 hf
 clear ha hneg hSG hf hRES
 go_enter Tryz.func76, Tryz.ntmps76
 go_upto_if 9 with fail
 go_cut [0, 3] (fun s0 s3 wx => s0 = .int .u64 a ∧ s3 = .string SG ∧ w = wx)
 case first =>
  by_cases hs : 9223372036854775808 ≤ b
  ·have bs : decide (9223372036854775808 ≤ (b : Int)) = true := decide_eq_true (by omega)
   have hbi : (9223372036854775808 : Int) ≤ b := by omega
   have hbi2 : (b : Int) ≤ 18446744073709551615 := by omega
   have hsg : SG = ⟨#[45]⟩ := by rw [← HSG.out, ← HNEG.out, decide_eq_true hs]; rfl
   have hv : (b : Int) - 9223372036854775808 = a := by have := HA.out; omega
   have HV := hq7 hv
   have HS := hq7 hsg
   clear hv hsg hs hb
   go_simp
   go_wp2_with fail
   go_meet
   exact ⟨int_eq' HV.out, by rw [HS.out], rfl⟩
  ·have bs : decide (9223372036854775808 ≤ (b : Int)) = false := decide_eq_false (by omega)
   have hsg : SG = ⟨#[]⟩ := by rw [← HSG.out, ← HNEG.out, decide_eq_false hs]; rfl
   have hv : (b : Int) = a := by have := HA.out; omega
   have HV := hq7 hv
   have HS := hq7 hsg
   clear hv hsg hs hb
   go_simp
   go_wp2_with fail
   go_meet
   exact ⟨int_eq' HV.out, by rw [HS.out], rfl⟩
 case rest =>
  obtain ⟨rfl, rfl, rfl⟩ := hcut
  clear HNEG HA
  by_cases hnan : 9218868437227405312 < a
  ·have hr : RES = Num.NANS := by rw [HRES.out, if_pos hnan]
   have HR := hq7 hr
   clear hr
   have b2 : decide (9218868437227405312 < (a : Int)) = true := decide_eq_true (by omega)
   clear hnan hb
   go_wp2
   go_ret
   exact ⟨by rw [HR.out]; rfl, Below.refl _ _⟩
  have b2 : decide (9218868437227405312 < (a : Int)) = false := decide_eq_false (by omega)
  by_cases hinf : a = 9218868437227405312
  ·have e1 : Num.fmtU a = Num.INFS := by unfold Num.fmtU; rw [if_pos hinf]
   have hr : RES = Num.sg neg ++ Num.INFS := by rw [HRES.out, if_neg hnan, e1]
   have HR := hq7 hr
   have b3 : ((a : Int) == 9218868437227405312) = true := by rw [beq_iff_eq]; omega
   clear hnan hinf e1 hb hr
   go_wp2
   go_ret
   exact ⟨by rw [HR.out, ← HSG.out, str_app]; rfl, Below.refl _ _⟩
  have b3 : ((a : Int) == 9218868437227405312) = false := by rw [beq_eq_false_iff_ne]; omega
  by_cases h0 : a = 0
  ·have e1 : Num.fmtU a = Num.ZERO := by unfold Num.fmtU; rw [if_neg hinf, if_pos h0]
   have hr : RES = Num.sg neg ++ Num.ZERO := by rw [HRES.out, if_neg hnan, e1]
   have HR := hq7 hr
   have b4 : ((a : Int) == 0) = true := by rw [beq_iff_eq]; omega
   clear hnan hinf h0 e1 hb hr
   go_wp2
   go_ret
   exact ⟨by rw [HR.out, ← HSG.out, str_app]; rfl, Below.refl _ _⟩
  have b4 : ((a : Int) == 0) = false := by rw [beq_eq_false_iff_ne]; omega
  have e1 : Num.fmtU a = Num.form (Num.nfrac a) (Num.nexp a) := by unfold Num.fmtU; rw [if_neg hinf, if_neg h0]
  have hr : RES = Num.sg neg ++ Num.form (Num.nfrac a) (Num.nexp a) := by rw [HRES.out, if_neg hnan, e1]
  obtain ⟨p1, p2, p3, -, -⟩ := Num.nparts h0 (by omega)
  obtain ⟨E, hE⟩ : ∃ E, Num.nexp a = E := ⟨_, rfl⟩
  obtain ⟨f, hf⟩ : ∃ f, Num.nfrac a = f := ⟨_, rfl⟩
  rw [hE, hf] at hr
  have HR := hq7 hr
  rw [hE] at p2 p3
  rw [hf] at p1
  obtain ⟨X, hX⟩ : ∃ X, E + 1023 = X := ⟨_, rfl⟩
  obtain ⟨G, hG⟩ : ∃ G, f + 4503599627370496 = G := ⟨_, rfl⟩
  have hx1 : X ≤ 2046 := by omega
  have hx2 : -51 ≤ X := by omega
  have hg1 : (G : Int) < 9007199254740992 := by omega
  have hg2 : (4503599627370496 : Int) ≤ G := by omega
  have HE := hq7 hE
  have HF := hq7 hf
  have HX := hq7 hX
  have HG := hq7 hG
  have H0 := hq7 h0
  have HN := hq7 hnan
  have HI := hq7 hinf
  have hai2 : (a : Int) ≤ 9218868437227405312 := by omega
  clear hE hf hX hG e1 h0 hnan hinf hb hr HRES
  go_upto_if 29 with fail
  go_cut [4, 5] (fun s4 s5 wx => s4 = .int .i64 X ∧ s5 = .int .u64 G ∧ w = wx)
  case first =>
   clear hx1 hx2 hg1 hg2 p1 p2 p3
   by_cases hx : a < 4503599627370496
   ·obtain ⟨u1, u2, u3, u4⟩ := Num.up_spec H0.out hx
    have en : X = 1 - (Num.up a : Int) := by rw [← HX.out, ← HE.out]; unfold Num.nexp; rw [if_pos hx]; omega
    have fn : G = a * 2 ^ Num.up a := by rw [← HG.out, ← HF.out]; unfold Num.nfrac; rw [if_pos hx]; omega
    obtain ⟨U, hU⟩ : ∃ U, Num.up a = U := ⟨_, rfl⟩
    rw [hU] at u1 u2 u3 u4 en fn
    have k1 : (a : Int) / 4503599627370496 = 0 := by omega
    have ha1 : (a : Int) < 4503599627370496 := by omega
    have hU1 : (1 : Int) ≤ U := by omega
    have hU2 : (U : Int) ≤ 52 := by omega
    have HEN := hq7 en
    have HFN := hq7 fn
    have HU2 := hq7 u2
    have HU3 := hq7 u3
    have HU4 := hq7 u4
    clear en fn hU u1 u2 u3 u4 hx
    refine wp_cond_true (by simp only [k1]; rfl) ?_
    go_wp2_with fail
    go_loopg [4, 5] U (fun g x y wr => ∃ j : Nat, j + g = U ∧ x = .int .i64 (1 - (j : Int)) ∧ y = .int .u64 ((a * 2 ^ j : Nat) : Int) ∧ w = wr)
    case atStart => exact ⟨0, by omega, rfl, by simp, rfl⟩
    case round =>
     obtain ⟨j, hj, rfl, rfl, rfl⟩ := hrel
     have HJ := hq7 hj
     clear hj
     cases gk with
     | succ g =>
      have hj1 : j + 1 ≤ U := by have := HJ.out; omega
      obtain ⟨y, hy⟩ : ∃ y, a * 2 ^ j = y := ⟨_, rfl⟩
      have hyb : y < 4503599627370496 := by
       have e1 : a * 2 ^ (j + 1) ≤ a * 2 ^ U := Nat.mul_le_mul_left _ (Nat.pow_le_pow_right (by decide) hj1)
       rw [Nat.pow_succ, ← Nat.mul_assoc, hy] at e1
       have := HU4.out
       omega
      have hy2 : a * 2 ^ (j + 1) = y * 2 := by rw [Nat.pow_succ, ← Nat.mul_assoc, hy]
      rw [hy]
      have HY := hq7 hy2
      have yi : (y : Int) < 4503599627370496 := by omega
      have ji : (j : Int) ≤ 52 := by have := HU2.out; omega
      clear hy hy2
      go_wp2
      go_roundg g
      case measure => omega
      case rel => exact ⟨j + 1, by have := HJ.out; omega, int_eq' (by omega), by rw [HY.out]; exact int_eq' (by omega), rfl⟩
     | zero =>
      obtain rfl : j = U := by have := HJ.out; omega
      obtain ⟨y, hy⟩ : ∃ y, a * 2 ^ j = y := ⟨_, rfl⟩
      rw [hy]
      have yi : (4503599627370496 : Int) ≤ y := by have := HU3.out; omega
      have dy : decide ((y : Int) < 4503599627370496) = false := decide_eq_false (by omega)
      have HY := hq7 hy
      clear hy hai hai2 ha1 b2 b3 b4 k1
      go_wp2_with fail
      go_meet
      exact ⟨int_eq' HEN.out.symm, int_eq' (by rw [HFN.out, HY.out]), rfl⟩
   ·have en : X = ((a / 4503599627370496 : Nat) : Int) := by rw [← HX.out, ← HE.out]; unfold Num.nexp; rw [if_neg hx]; omega
    have fn : G = a % 4503599627370496 + 4503599627370496 := by rw [← HG.out, ← HF.out]; unfold Num.nfrac; rw [if_neg hx]
    have t1 : ((a : Int) / 4503599627370496 == 0) = false := by rw [beq_eq_false_iff_ne]; omega
    have HEN := hq7 en
    have HFN := hq7 fn
    have ha1 : (4503599627370496 : Int) ≤ a := by omega
    clear en fn hx
    refine wp_cond_false (by simp only [t1]; rfl) ?_
    go_wp2_with fail
    go_meet
    exact ⟨int_eq' (by rw [HEN.out]; omega), int_eq' (by rw [HFN.out]; omega), rfl⟩
  case rest =>
   obtain ⟨rfl, rfl, rfl⟩ := hcut
   have kE : X - 1023 = E := by have := HX.out; omega
   have kG : (G : Int) - 4503599627370496 = f := by have := HG.out; omega
   obtain ⟨H13, h13⟩ : ∃ h, Num.hexN 13 f = h := ⟨_, rfl⟩
   have h13l : H13.length = 13 := by rw [← h13]; exact Num.hexN_len 13 f
   obtain ⟨z, hz⟩ : ∃ z : ByteArray, (⟨H13.toArray⟩ : ByteArray) = z := ⟨_, rfl⟩
   have hzl : z.size = 13 := by rw [← hz, size_list, h13l]
   have hzd : z.data.toList = H13 := by rw [← hz]
   obtain ⟨tl, htl⟩ : ∃ t, Lib.trimRightS H13 [48] = t := ⟨_, rfl⟩
   have hfr := fracS_cases (tl := tl) p1 (by rw [h13]; exact htl)
   have hhex := fun (W : World) => hex_any f 13 W (by omega) (by omega)
   rw [h13, hz] at hhex
   have HHEX := hq7 hhex
   have HFR := hq7 hfr
   have HZD := hq7 hzd
   have HL13 := hq7 h13l
   have HTL := hq7 htl
   clear hfr hhex h13 hz hzd h13l htl HE HF HX HG H0 HN HI b2 b3 b4 hai hai2 hai0
   go_wp2_with fail
   refine (HHEX.out _).mono ?_
   rintro e w1 ⟨rfl, hb1⟩
   have HB1 := hq7 hb1
   clear hb1
   clear hg1 hg2 p1 kG
   go_upto_block 2 with fail
   go_cut [7] (fun s7 wx => s7 = .int .i64 (tl.length : Int) ∧ tl = H13.take tl.length ∧ w1 = wx)
   case first =>
    go_wp2_with fail
    go_loopg [7] 13 (fun g x wr => g ≤ 13 ∧ x = .int .i64 (g : Int) ∧ Lib.trimRightS (H13.take g) [48] = tl ∧ w1 = wr)
    case atStart => exact ⟨by omega, rfl, by rw [List.take_of_length_le (by rw [HL13.out]; exact Nat.le_refl _)]; exact HTL.out, rfl⟩
    case round =>
     obtain ⟨hg, rfl, htk, rfl⟩ := hrel
     have HTK := hq7 htk
     clear htk
     cases gk with
     | zero =>
      have htl0 : [] = tl := HTK.out
      have HT := hq7 htl0
      clear htl0 HTK
      go_wp2_with fail
      go_meet
      exact ⟨by rw [← HT.out]; rfl, by rw [← HT.out]; rfl, rfl⟩
     | succ g =>
      have hlt : g < z.size := by omega
      have gi : (g : Int) ≤ 12 := by omega
      have hl13 : g < H13.length := by rw [HL13.out]; omega
      have hz0 : z[g]'hlt = H13[g]'hl13 := by
       have h1 := Lib.data_getElem? z g hlt
       rw [HZD.out, List.getElem?_eq_getElem hl13] at h1
       exact (Option.some.inj h1).symm
      have hstep := trim_take H13 g hl13
      rw [HTK.out] at hstep
      obtain ⟨c, hc⟩ : ∃ c, z[g]'hlt = c := ⟨_, rfl⟩
      rw [← hz0, hc] at hstep
      by_cases h48 : c = 48
      ·have t5 : (((z[g]'hlt).toNat : Int) == 48) = true := by rw [hc, h48]; rfl
       rw [if_pos h48] at hstep
       have HS := hq7 hstep
       clear hstep hz0 hc h48 hl13
       go_wp2
       go_roundg g
       case measure => omega
       case rel => exact ⟨by omega, int_eq' (by omega), HS.out.symm, rfl⟩
      ·have t5 : (((z[g]'hlt).toNat : Int) == 48) = false := by
        rw [hc, beq_eq_false_iff_ne]
        intro e
        exact h48 (UInt8.toNat_inj.1 (by show c.toNat = 48; omega))
       rw [if_neg h48] at hstep
       have hlen : tl.length = g + 1 := by
        rw [hstep, List.length_take, HL13.out]; omega
       have HS := hq7 hstep
       have HLEN := hq7 hlen
       clear hstep hz0 hc h48 hl13 hlen
       go_wp2_with fail
       go_meet
       exact ⟨int_eq' (by rw [HLEN.out]; omega), by rw [HLEN.out]; exact HS.out, rfl⟩
   case rest =>
    obtain ⟨rfl, htk, rfl⟩ := hcut
    have HTK := hq7 htk
    have htll : tl.length ≤ 13 := by
     have h1 := congrArg List.length htk
     rw [List.length_take, HL13.out] at h1
     omega
    obtain ⟨n, hn⟩ : ∃ n, tl.length = n := ⟨_, rfl⟩
    rw [hn]
    rw [hn] at htll
    have HN := hq7 hn
    clear htk hn
    obtain ⟨fs, hfs⟩ : ∃ x, Num.fracS f = x := ⟨_, rfl⟩
    have hfs2 : fs = if tl = [] then [] else 46 :: tl := by rw [← hfs]; exact HFR.out
    have hfsl : fs.length ≤ 14 := by
     rw [hfs2]
     split
     ·simp
     ·rw [List.length_cons, HN.out]; omega
    obtain ⟨S3, hS3⟩ : ∃ x : ByteArray, SG ++ ⟨#[48, 120, 49]⟩ ++ ⟨fs.toArray⟩ = x := ⟨_, rfl⟩
    have hs3l : S3.size ≤ 20 := by rw [← hS3, ByteArray.size_append, ByteArray.size_append]; have e : (⟨#[48, 120, 49]⟩ : ByteArray).size = 3 := rfl; have e2 : (⟨fs.toArray⟩ : ByteArray).size = fs.length := size_list fs; omega
    have HS3 := hq7 hS3
    have HFS := hq7 hfs
    have HFS2 := hq7 hfs2
    clear hS3 hfs hfs2 hfsl HFR
    go_upto_if 56 with fail
    go_cut [3] (fun s3 wx => s3 = .string S3 ∧ w1 = wx)
    case first =>
     by_cases ht0 : tl = []
     ·have hn0 : n = 0 := by rw [← HN.out, ht0]; rfl
      have hs : SG ++ ⟨#[48, 120, 49]⟩ = S3 := by
       rw [← HS3.out, HFS2.out, if_pos ht0]
       apply ByteArray.ext
       simp
      have HS := hq7 hs
      subst hn0
      clear hs ht0
      go_wp2_with fail
      go_meet
      exact ⟨by rw [HS.out], rfl⟩
     ·have hn1 : 0 < n := by
       have : tl.length ≠ 0 := fun e => ht0 (List.eq_nil_of_length_eq_zero e)
       rw [HN.out] at this
       omega
      have hn2 : (1 : Int) ≤ n := by omega
      have hext : z.extract 0 n = ⟨tl.toArray⟩ := by
       apply ByteArray.ext
       apply Array.toList_inj.1
       rw [Lib.extract_data, HZD.out]
       have := HTK.out
       rw [HN.out] at this
       rw [this]
       simp
      have hs : SG ++ ⟨#[48, 120, 49]⟩ ++ ⟨#[46]⟩ ++ z.extract 0 n = S3 := by
       rw [← HS3.out, HFS2.out, if_neg ht0, hext]
       apply ByteArray.ext
       simp
      have HS := hq7 hs
      clear hs ht0 hext
      have hn13 : n ≤ z.size := by omega
      go_wp2_with fail
      go_meet
      exact ⟨by rw [HS.out], rfl⟩
    case rest =>
     obtain ⟨rfl, rfl⟩ := hcut
     by_cases hneg : E < 0
     ·obtain ⟨m, hm⟩ : ∃ m : Nat, -E = (m : Int) := ⟨(-E).toNat, by omega⟩
      obtain ⟨r, hr⟩ : ∃ r, Lib.decDigits m = r := ⟨_, rfl⟩
      have hrl : r.length ≤ 20 := by rw [← hr, Num.dec_len]; exact nDigits_le 19 m (by omega)
      have hex : Num.expS E = 109 :: r := by
       unfold Num.expS
       rw [if_pos hneg, hm, Lib.itoa_nonneg, hr]
      have HEX2 := hq7 hex
      have HDIG := hq7 (fun (W : World) => hr ▸ digits_any m W (by omega))
      have te4 : (m : Int) ≤ 2000 := by omega
      have te0 : (0 : Int) ≤ m := by omega
      have te1 : E ≤ -1 := by omega
      clear hr hex
      go_wp2_with fail
      refine (HDIG.out _).mono ?_
      rintro e w2 ⟨rfl, hb2⟩
      have HB2 := hq7 hb2
      clear hb2 hm
      go_wp2
      go_ret
      refine ⟨?_, HB1.out.trans (HB2.out.mono HB1.out.size)⟩
      rw [HR.out, ← HS3.out, ← HSG.out]
      unfold Num.form
      rw [HEX2.out, HFS.out]
      exact congrArg (fun q => Ending.returned (Value.string q)) (by apply ByteArray.ext; simp)
     ·obtain ⟨m, hm⟩ : ∃ m : Nat, E = (m : Int) := ⟨E.toNat, by omega⟩
      subst hm
      obtain ⟨r, hr⟩ : ∃ r, Lib.decDigits m = r := ⟨_, rfl⟩
      have hrl : r.length ≤ 20 := by rw [← hr, Num.dec_len]; exact nDigits_le 19 m (by omega)
      have hex : Num.expS (m : Int) = 112 :: r := by
       unfold Num.expS
       rw [if_neg hneg, Lib.itoa_nonneg, hr]
      have HEX2 := hq7 hex
      have HDIG := hq7 (fun (W : World) => hr ▸ digits_any m W (by omega))
      have te0 : (0 : Int) ≤ m := by omega
      clear hr hex hneg
      go_wp2_with fail
      refine (HDIG.out _).mono ?_
      rintro e w2 ⟨rfl, hb2⟩
      have HB2 := hq7 hb2
      clear hb2
      go_wp2
      go_ret
      refine ⟨?_, HB1.out.trans (HB2.out.mono HB1.out.size)⟩
      rw [HR.out, ← HS3.out, ← HSG.out]
      unfold Num.form
      rw [HEX2.out, HFS.out]
      exact congrArg (fun q => Ending.returned (Value.string q)) (by apply ByteArray.ext; simp)
end Go.Proofs.YtoofbflplhbpbaaGreatDoor
namespace Go.Proofs.YtoofbflplhbpbaaGreatDoor
open Go.RowKit
theorem bytesWorld_below (w : World) (s : ByteArray) : Below w.heap.size w (Lib.bytesWorld w 5 s) :=
 ⟨rfl, rfl, rfl, by rw [Lib.bytesWorld_size]; omega, fun i hi => Lib.bytesWorld_at_old w _ s i hi⟩
end Go.Proofs.YtoofbflplhbpbaaGreatDoor
namespace Go.Proofs.YtoofbflplhbpbaaGreatDoor
open Go.RowKit
set_option maxHeartbeats 4000000 in
set_option maxRecDepth 100000 in
theorem refNumS_any (k n : Int) (w : World) (hk1 : 1 ≤ k) (hk3 : k ≤ 3) (hn : Cel.In64 n) :
  Calls Tryz.prog 38 #[.int .i64 k, .int .i64 n] w fun e w' => e = .returned (.string ⟨(Cel.numS k n).toArray⟩) ∧ Below w.heap.size w w' := by
 obtain ⟨R, hR⟩ : ∃ R, Cel.numS k n = R := ⟨_, rfl⟩
 rw [hR]
 unfold Cel.numS at hR
 by_cases h2 : k = 2
 ·subst h2
  rw [if_pos rfl] at hR
  have hc := refFmtInt_any n w hn.1 hn.2
  rw [hR] at hc
  have HC := hq7 hc
  clear hn hk1 hk3 hc hR
  go_enter Tryz.func38, Tryz.ntmps38
  go_wp2_with fail
  refine HC.out.mono ?_
  rintro e w1 ⟨rfl, hb⟩
  have HB := hq7 hb
  clear hb
  go_wp2
  go_ret
  exact ⟨rfl, HB.out⟩
 by_cases h3 : k = 3
 ·subst h3
  rw [if_neg (by omega), if_pos rfl] at hR
  have hc := refFmt_any (Cel.u64 n) w (Cel.u64_lt n)
  rw [hR] at hc
  have hwr := u64_wrap n
  obtain ⟨b, hb⟩ : ∃ b, Cel.u64 n = b := ⟨_, rfl⟩
  rw [hb] at hc hwr
  have HC := hq7 hc
  have hu := undef_no
  clear hn hk1 hk3 hc hR h2 hb
  go_enter Tryz.func38, Tryz.ntmps38
  go_wp2_with fail
  refine HC.out.mono ?_
  rintro e w1 ⟨rfl, hb⟩
  have HB := hq7 hb
  clear hb
  go_wp2
  go_ret
  exact ⟨rfl, HB.out⟩
 ·obtain rfl : k = 1 := by omega
  rw [if_neg (by omega), if_neg (by omega)] at hR
  by_cases h0 : n = 0
  ·subst h0
   rw [if_pos rfl] at hR
   subst hR
   clear hn hk1 hk3 h2 h3
   go_enter Tryz.func38, Tryz.ntmps38
   go_wp2
   go_ret
   exact ⟨rfl, Below.refl _ _⟩
  ·rw [if_neg h0] at hR
   subst hR
   have t0 : (n == 0) = false := beq_eq_false_iff_ne.2 h0
   clear hn hk1 hk3 h2 h3 h0
   go_enter Tryz.func38, Tryz.ntmps38
   go_wp2
   go_ret
   exact ⟨rfl, Below.refl _ _⟩
end Go.Proofs.YtoofbflplhbpbaaGreatDoor
namespace Go.Proofs.YtoofbflplhbpbaaGreatDoor
open Go.RowKit
theorem own_bytes (w : World) (B : Nat) (l : List UInt8) (cs : Array Value) (hcs : cs = (Lib.byteCells l).toArray) (hB : B ≤ w.heap.size) (hl : l.length < 1073741824) : OwnB B (.slice (some ⟨w.heap.size, 0, none⟩) l.length l.length) l (w.alloc (.cells cs 5)) := by
 subst hcs
 refine ⟨by simp [Lib.byteCells], .inr ⟨w.heap.size, l.length, (Lib.byteCells l).toArray, rfl, hB, heap_alloc_new w _, Nat.le_refl _, by unfold maxLen; omega, by simp [Lib.byteCells], by simp [Lib.byteCells, List.take_of_length_le]⟩⟩
theorem step_append_bytes {ops : Array Oper} {o : Oper} {a : Act} {K : Act → World → Prop} {Q : Exit → Act → World → Prop} {E : Prop} (hgd : o.guard = none) (s x : Operand)
  (ho : o.op = .call { callee := .builtin .append, args := #[s, x], argTypes := #[55, 55] })
  (B : Nat) (v : Value) (l : List UInt8) (W : World) (hs : a.eval s = v) (h : OwnB B v l W) (bs : List UInt8) (us : List Value) (hu : us = Lib.byteCells bs) (m : Nat) (hm : bs.length = m)
  (hx : a.eval x = .slice (some ⟨W.heap.size, 0, none⟩) m m) (hl : l.length < 1073741824) (hm2 : m < 1073741824) (hB : B ≤ W.heap.size)
  (k : ∀ v' w', OwnB B v' (l ++ bs) w' → W.grownBy w' v.ownBlock → Below B W w' → K (a.put o.dst v') w') :
  if Region.wanted o (yielded ops a.tmps) = true then Oper.wp Tryz.prog o a (W.alloc (.cells us.toArray 5)) K Q else E := by
 have hw : Region.wanted o (yielded ops a.tmps) = true := by simp [Region.wanted, hgd]
 rw [if_pos hw]
 subst hu hm
 obtain ⟨i0, hi, hz0, hz1, hz2⟩ := info_parts info_byte
 have hr := Reads.of_own (c := bs.length) (own_bytes W W.heap.size bs _ rfl (Nat.le_refl _) hm2)
 refine wp_append_any (P := Tryz.prog) _ s x _ ho B 5 i0 _ 1 1 Tryz.underlying55 hi hz0 hz1 hz2 rfl (by decide) v l.length (Lib.byteCells l) hs (World.ownsRow.alloc h _) _ _ bs.length bs.length (Lib.byteCells bs) hx hr ?_ ?_ ?_ ?_ ?_
 ·intro u hu
  obtain ⟨b, _, rfl⟩ := List.mem_map.1 hu
  rfl
 ·unfold maxLen; omega
 ·omega
 ·simp; omega
 ·intro v' w' h1 h2 h3
  refine k v' w' ?_ (only_trans (only_alloc (only_refl W _) _) h2) ?_
  ·unfold OwnB
   rw [byteCells_app, List.length_append]
   exact h1
  ·exact ((Below.refl B W).alloc hB _).grown h2 (by simp; omega) (fun j e => (World.ownsRow.lt h j e).1)
structure RQRel (s : ByteArray) (w : World) (k : Nat) (acc : List UInt8) (v : Value) (wx : World) : Prop where
 text : acc = 39 :: (s.data.toList.take k).flatMap Lex.q1
 len : acc.length ≤ 4 * k + 1
 bel : Below w.heap.size w wx
 own : OwnB w.heap.size v acc wx
theorem RQRel.next {s : ByteArray} {w : World} {k : Nat} {acc acc' : List UInt8} {v v' : Value} {wx wy : World} (h : RQRel s w k acc v wx) (hk : k < s.size) (ha : acc' = acc ++ Lex.q1 (s[k]'hk)) (hb : Below w.heap.size wx wy) (hl : OwnB w.heap.size v' acc' wy) : RQRel s w (k + 1) acc' v' wy := by
 have h1 : k < s.data.toList.length := by rw [← Lib.size_eq]; exact hk
 have hq := (Lex.q1_len (s[k]'hk)).2
 have hlen := h.len
 refine ⟨?_, by rw [ha, List.length_append]; omega, h.bel.trans hb, hl⟩
 rw [ha, h.text, List.take_succ_eq_append_getElem h1, List.flatMap_append]
 simp only [List.cons_append, List.flatMap_cons, List.flatMap_nil, List.append_nil]
 rfl
set_option maxHeartbeats 8000000 in
set_option maxRecDepth 100000 in
theorem refQuote_any (s : ByteArray) (w : World) (hs : s.size ≤ 67108864) :
  Calls Tryz.prog 39 #[.string s] w fun e w' => e = .returned (.string ⟨(Lex.quote s.data.toList).toArray⟩) ∧ Below w.heap.size w w' := by
 go_enter Tryz.func39, Tryz.ntmps39
 go_wp2_with fail
 go_loopg [3, 4] s.size (fun g v x wx => ∃ (k : Nat) (acc : List UInt8), k + g = s.size ∧ x = .int .i64 k ∧ RQRel s w k acc v wx)
 case atStart => exact ⟨0, [39], by omega, rfl, ⟨by simp, by simp, (Below.refl _ _).alloc (Nat.le_refl _) _, own_bytes w _ [39] _ rfl (Nat.le_refl _) (by decide)⟩⟩
 case round =>
  obtain ⟨k, acc, hk, rfl, hrel⟩ := hrel
  have hlen := hrel.len
  have hsz := hrel.bel.size
  have HQ := hq7 hrel
  obtain ⟨A3, c3, rfl⟩ := own_form hrel.own
  clear hrel
  have hal : acc.length + 4 < 1073741824 := by omega
  cases gk with
  | zero =>
   obtain rfl : k = s.size := by omega
   have ht : acc ++ [39] = Lex.quote s.data.toList := by
    rw [HQ.out.text, List.take_of_length_le (by rw [← Lib.size_eq]; omega)]
    rfl
   have HT := hq7 ht
   clear ht
   go_wp2_with (at_builtin; refine wpList_append_bytes rfl (.tmp 59) (.tmp 60) rfl w.heap.size (.slice A3 acc.length c3) acc wr rfl HQ.out.own [39] [.int .u8 39] rfl 1 rfl rfl (by omega) (by decide) hsz ?_)
   intro v1 w1 hown1 hgr1 hbel1
   have hcv := hown1.conv
   have HB := hq7 (HQ.out.bel.trans hbel1)
   clear hown1 hgr1 hbel1
   go_wp2
   go_ret
   exact ⟨by rw [← HT.out]; rfl, HB.out⟩
  | succ g =>
   have hlt : k < s.size := by omega
   have hlti : (k : Int) < s.size := by omega
   have t1 : decide (k < s.size) = true := decide_eq_true hlt
   have hnext := fun (acc' : List UInt8) (v' : Value) (wy : World) (ha : acc' = acc ++ Lex.q1 (s[k]'hlt)) (hb : Below w.heap.size wr wy) (hl : OwnB w.heap.size v' acc' wy) => HQ.out.next hlt ha hb hl
   have HN := hq7 hnext
   have HO := hq7 HQ.out.own
   have HKG := hq7 hk
   have hk4 : k ≤ 67108864 := by omega
   obtain ⟨c, hc⟩ : ∃ c, s[k]'hlt = c := ⟨_, rfl⟩
   rw [hc] at HN
   clear hnext HQ hk hs
   by_cases h10 : c = 10
   ·subst h10
    go_wp2_with (at_builtin; refine wpList_append_bytes rfl (.tmp 18) (.tmp 19) rfl w.heap.size (.slice A3 acc.length c3) acc wr rfl HO.out [92, 110] [.int .u8 92, .int .u8 110] rfl 2 rfl rfl (by omega) (by decide) hsz ?_)
    intro v1 w1 hown1 hgr1 hbel1
    have HR := hq7 (HN.out _ _ _ (rfl) hbel1 hown1)
    clear hown1 hbel1
    go_wp2
    go_roundg g
    case measure => omega
    case rel => exact ⟨k + 1, _, by have := HKG.out; omega, int_eq' (by omega), HR.out⟩
   by_cases h13 : c = 13
   ·subst h13
    go_wp2_with (at_builtin; refine wpList_append_bytes rfl (.tmp 23) (.tmp 24) rfl w.heap.size (.slice A3 acc.length c3) acc wr rfl HO.out [92, 114] [.int .u8 92, .int .u8 114] rfl 2 rfl rfl (by omega) (by decide) hsz ?_)
    intro v1 w1 hown1 hgr1 hbel1
    have HR := hq7 (HN.out _ _ _ (rfl) hbel1 hown1)
    clear hown1 hbel1
    go_wp2
    go_roundg g
    case measure => omega
    case rel => exact ⟨k + 1, _, by have := HKG.out; omega, int_eq' (by omega), HR.out⟩
   by_cases h9 : c = 9
   ·subst h9
    go_wp2_with (at_builtin; refine wpList_append_bytes rfl (.tmp 28) (.tmp 29) rfl w.heap.size (.slice A3 acc.length c3) acc wr rfl HO.out [92, 116] [.int .u8 92, .int .u8 116] rfl 2 rfl rfl (by omega) (by decide) hsz ?_)
    intro v1 w1 hown1 hgr1 hbel1
    have HR := hq7 (HN.out _ _ _ (rfl) hbel1 hown1)
    clear hown1 hbel1
    go_wp2
    go_roundg g
    case measure => omega
    case rel => exact ⟨k + 1, _, by have := HKG.out; omega, int_eq' (by omega), HR.out⟩
   have t10 : (((c.toNat : Nat) : Int) == 10) = false := bq (k := 10) rfl (beq_eq_false_iff_ne.2 h10)
   have t13 : (((c.toNat : Nat) : Int) == 13) = false := bq (k := 13) rfl (beq_eq_false_iff_ne.2 h13)
   have t9 : (((c.toNat : Nat) : Int) == 9) = false := bq (k := 9) rfl (beq_eq_false_iff_ne.2 h9)
   have hcb := byte_le c
   by_cases hodd : Lex.odd c = true
   ·have HODD := hq7 (Lex.q1_odd h10 h13 h9 hodd)
    have hq1 : c.toNat / 16 < 16 := by have := UInt8.toNat_lt c; omega
    have hq2 : c.toNat % 16 < 16 := by omega
    have i1 : ((c.toNat : Int) / 16) < 16 := by omega
    have i2 : ((c.toNat : Int) % 16) < 16 := by omega
    have hd1 := fun h => dig16 (c.toNat / 16) hq1 h
    have hd2 := fun h => dig16 (c.toNat % 16) hq2 h
    obtain ⟨x1, hx1⟩ : ∃ x, Num.hexd (c.toNat / 16) = x := ⟨_, rfl⟩
    obtain ⟨x2, hx2⟩ : ∃ x, Num.hexd (c.toNat % 16) = x := ⟨_, rfl⟩
    rw [hx1, hx2] at HODD
    rw [hx1] at hd1
    rw [hx2] at hd2
    clear hx1 hx2 h10 h13 h9
    have hn1 : ((c.toNat : Int) / 16).toNat = c.toNat / 16 := by omega
    have hn2 : ((c.toNat : Int) % 16).toNat = c.toNat % 16 := by omega
    have z1 : (0 : Int) ≤ (c.toNat : Int) / 16 := by omega
    have z2 : (0 : Int) ≤ (c.toNat : Int) % 16 := by omega
    go_upto_region 12 with fail
    go_cut [36] (fun s36 wx => s36 = .bool true ∧ wr = wx)
    case first =>
     by_cases h32 : c.toNat < 32
     ·have u1 : decide ((c.toNat : Int) < 32) = true := decide_eq_true (by omega)
      clear h32 hodd hn1 hn2 z1 z2 i1 i2 hd1 hd2 hq1 hq2
      go_wp2_with fail
      go_meet
      exact ⟨rfl, rfl⟩
     ·have u1 : decide ((c.toNat : Int) < 32) = false := decide_eq_false (by omega)
      have u2 : decide (126 < (c.toNat : Int)) = true := decide_eq_true (by
       unfold Lex.odd at hodd
       rw [decide_eq_false h32, Bool.false_or, decide_eq_true_eq] at hodd
       omega)
      clear h32 hodd hn1 hn2 z1 z2 i1 i2 hd1 hd2 hq1 hq2
      go_wp2_with fail
      go_meet
      exact ⟨rfl, rfl⟩
    case rest =>
     obtain ⟨rfl, rfl⟩ := hcut
     clear hodd
     go_wp2_with fail
     have r1 : IntKind.u8.wrap ((c.toNat : Int) / 16) = (c.toNat : Int) / 16 := IntWalk.u8_in _ (by omega)
     have r3 : ((c.toNat : Int)).tmod 16 = (c.toNat : Int) % 16 := Int.tmod_eq_emod_of_nonneg (by omega)
     have r2 : IntKind.u8.wrap ((c.toNat : Int) % 16) = (c.toNat : Int) % 16 := IntWalk.u8_in _ (by omega)
     go_region_law (refine step_append_bytes rfl (.tmp 37) (.tmp 44) rfl w.heap.size (.slice A3 acc.length c3) acc wr.drew rfl HO.out [92, 120, x1, x2] [.int .u8 92, .int .u8 120, .int .u8 (x1.toNat : Int), .int .u8 (x2.toNat : Int)] rfl 4 rfl rfl (by omega) (by decide) hsz ?_; intro v1 w1 hown1 hgr1 hbel1)
     all_goals
      have HR := hq7 (HN.out _ _ _ (by rw [HODD.out]; simp) ((Below.refl _ _).drew.trans hbel1) hown1)
      clear hown1 hgr1 hbel1
      go_wp2
      go_roundg g
      case measure => omega
      case rel => exact ⟨k + 1, _, by have := HKG.out; omega, int_eq' (by omega), HR.out⟩
   have u1 : decide ((c.toNat : Int) < 32) = false := decide_eq_false (by
    intro h
    apply hodd
    unfold Lex.odd
    rw [decide_eq_true (show c.toNat < 32 by omega)]
    rfl)
   have u2 : decide (126 < (c.toNat : Int)) = false := decide_eq_false (by
    intro h
    apply hodd
    unfold Lex.odd
    rw [decide_eq_true (show 126 < c.toNat by omega), Bool.or_true])
   have ho : Lex.odd c = false := by simpa using hodd
   clear hodd
   by_cases h39 : c = 39
   ·subst h39
    go_wp2_with (at_builtin; refine wpList_append_bytes rfl (.tmp 52) (.tmp 53) rfl w.heap.size (.slice A3 acc.length c3) acc wr rfl HO.out [92] [.int .u8 92] rfl 1 rfl rfl (by omega) (by decide) hsz ?_)
    intro v1 w1 hown1 hgr1 hbel1
    have hsz2 := Nat.le_trans hsz hbel1.size
    have HO2 := hq7 hown1
    have HB2 := hq7 hbel1
    obtain ⟨A4, c4, e4⟩ := own_form hown1
    subst e4
    obtain ⟨n4, hn4⟩ : ∃ n, (acc ++ [92]).length = n := ⟨_, rfl⟩
    rw [hn4] at HO2
    rw [hn4]
    clear hown1 hgr1 hbel1 hn4
    go_wp2_with (at_builtin; refine wpList_append_bytes rfl (.tmp 55) (.tmp 57) rfl w.heap.size (.slice A4 n4 c4) (acc ++ [92]) w1 rfl HO2.out [39] [.int .u8 39] rfl 1 rfl rfl (by rw [List.length_append]; simp; omega) (by decide) hsz2 ?_)
    intro v2 w2 hown2 hgr2 hbel2
    have HR := hq7 (HN.out _ _ _ (by rw [Lex.q1_esc (by decide)]; simp) (HB2.out.trans hbel2) hown2)
    clear hown2 hgr2 hbel2
    go_wp2
    go_roundg g
    case measure => omega
    case rel => exact ⟨k + 1, _, by have := HKG.out; omega, int_eq' (by omega), HR.out⟩
   by_cases h92 : c = 92
   ·subst h92
    go_wp2_with (at_builtin; refine wpList_append_bytes rfl (.tmp 52) (.tmp 53) rfl w.heap.size (.slice A3 acc.length c3) acc wr rfl HO.out [92] [.int .u8 92] rfl 1 rfl rfl (by omega) (by decide) hsz ?_)
    intro v1 w1 hown1 hgr1 hbel1
    have hsz2 := Nat.le_trans hsz hbel1.size
    have HO2 := hq7 hown1
    have HB2 := hq7 hbel1
    obtain ⟨A4, c4, e4⟩ := own_form hown1
    subst e4
    obtain ⟨n4, hn4⟩ : ∃ n, (acc ++ [92]).length = n := ⟨_, rfl⟩
    rw [hn4] at HO2
    rw [hn4]
    clear hown1 hgr1 hbel1 hn4
    go_wp2_with (at_builtin; refine wpList_append_bytes rfl (.tmp 55) (.tmp 57) rfl w.heap.size (.slice A4 n4 c4) (acc ++ [92]) w1 rfl HO2.out [92] [.int .u8 92] rfl 1 rfl rfl (by rw [List.length_append]; simp; omega) (by decide) hsz2 ?_)
    intro v2 w2 hown2 hgr2 hbel2
    have HR := hq7 (HN.out _ _ _ (by rw [Lex.q1_esc (by decide)]; simp) (HB2.out.trans hbel2) hown2)
    clear hown2 hgr2 hbel2
    go_wp2
    go_roundg g
    case measure => omega
    case rel => exact ⟨k + 1, _, by have := HKG.out; omega, int_eq' (by omega), HR.out⟩
   have t92 : (((c.toNat : Nat) : Int) == 92) = false := bq (k := 92) rfl (beq_eq_false_iff_ne.2 h92)
   have t39 : (((c.toNat : Nat) : Int) == 39) = false := bq (k := 39) rfl (beq_eq_false_iff_ne.2 h39)
   have HP := hq7 (Lex.q1_plain h92 h39 ho)
   clear h10 h13 h9 h92 h39 ho
   go_wp2_with (at_builtin; refine wpList_append_bytes rfl (.tmp 55) (.tmp 57) rfl w.heap.size (.slice A3 acc.length c3) acc wr rfl HO.out [c] [.int .u8 (c.toNat : Int)] (byteCells_one _).symm 1 rfl rfl (by omega) (by decide) hsz ?_)
   intro v1 w1 hown1 hgr1 hbel1
   have HR := hq7 (HN.out _ _ _ (by rw [HP.out]) hbel1 hown1)
   clear hown1 hgr1 hbel1
   go_wp2
   go_roundg g
   case measure => omega
   case rel => exact ⟨k + 1, _, by have := HKG.out; omega, int_eq' (by omega), HR.out⟩
end Go.Proofs.YtoofbflplhbpbaaGreatDoor
