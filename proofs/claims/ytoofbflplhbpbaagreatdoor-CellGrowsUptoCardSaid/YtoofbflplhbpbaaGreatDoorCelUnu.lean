/- Layer 22 (cell): the program's unused. -/
import Derived.Test.YtoofbflplhbpbaaGreatDoorCelPChk
import Derived.Test.YtoofbflplhbpbaaGreatDoorCelChk
namespace Go.Proofs.YtoofbflplhbpbaaGreatDoor
open Go.RowKit

set_option maxHeartbeats 16000000 in
set_option maxRecDepth 100000 in
theorem unused_any (B : Nat) (u : Value) (v : Cel.V) (w : World) (h : VIn w B u v) (_hB : B ≤ w.heap.size) (hlo : 1 ≤ v.kind) (hhi : v.kind ≤ 8) :
    Calls Tryz.prog 66 #[u] w fun e w' => e = .returned (.bool (decide (Cel.Unused v))) ∧ Below w.heap.size w w' := by
  obtain ⟨A1, c1, A2, c2, rfl, -, -⟩ := h.ex
  have hnl := h.nl
  have hsl := h.sl
  have hb := fun (W : World) => base_any v.kind W h.kin
  clear h
  obtain ⟨k0, n0, t0, ns, ts⟩ := v
  simp only at hnl hsl hlo hhi hb ⊢
  obtain ⟨U, hU⟩ : ∃ U, decide (Cel.Unused ⟨k0, n0, t0, ns, ts⟩) = U := ⟨_, rfl⟩
  rw [hU]
  obtain ⟨nn, hnn⟩ : ∃ n, ns.length = n := ⟨_, rfl⟩
  obtain ⟨tn, htn⟩ : ∃ n, ts.length = n := ⟨_, rfl⟩
  obtain ⟨z, hz⟩ : ∃ z : ByteArray, (⟨t0.toArray⟩ : ByteArray) = z := ⟨_, rfl⟩
  have hzd : z.data.toList = t0 := by rw [← hz]
  rw [hnn] at hnl ⊢
  rw [htn] at hsl ⊢
  rw [hz]
  obtain ⟨W1, hW1⟩ : ∃ W1, w.alloc (.cells #[.int .i64 k0, .int .i64 n0, .string z, .slice A1 nn c1, .slice A2 tn c2] 25) = W1 := ⟨_, rfl⟩
  have hb1 : Below w.heap.size w W1 := by rw [← hW1]; exact (Below.refl _ w).alloc (Nat.le_refl _) _
  have k1 : Blk W1 w.heap.size 25 #[.int .i64 k0, .int .i64 n0, .string z, .slice A1 nn c1, .slice A2 tn c2] := by rw [← hW1]; exact Blk.new _ _ _
  have HB1 := Lib.hid hb1
  have HW1 := Lib.hid hW1
  have HNN := Lib.hid hnn
  have HTN := Lib.hid htn
  have HZD := Lib.hid hzd
  have HU := Lib.hid hU
  obtain ⟨a0, a1, a2, a3, a4, -⟩ := val_cells k1
  have hu := undef_no
  clear hnn htn hz k1 hb1 hW1 hzd hU
  by_cases hk : k0 < 4
  · have HK : Hid (1 ≤ k0 ∧ k0 < 4) := Lib.hid ⟨hlo, by omega⟩
    have hcb : Cel.cbase k0 = k0 := by unfold Cel.cbase; rw [if_neg (by omega)]
    rw [hcb] at hb
    have HB := Lib.hid hb
    have fc : (k0 == 4) = false := beq_eq_false_iff_ne.2 (by omega)
    have hc := trivial
    have fl : decide (4 < k0) = false := decide_eq_false (by omega)
    have fl' : k0 ≤ 4 := by omega
    clear hb hcb hc hlo hhi hk
    by_cases h : n0 ≠ 0
    · have fN : (n0 != 0) = true := bne_iff_ne.2 h
      have HN := Lib.hid h
      clear h
      by_cases h : t0.length ≠ 0
      · have fT : z.toList.isEmpty = false := by
          rw [List.isEmpty_eq_false_iff]
          exact fun e => h ((empty_len HZD.out).1 e)
        have HT := Lib.hid h
        clear h
        have HU2 : Hid (U = true) := by
          rw [← HU.out, unused_len, HNN.out, HTN.out]
          exact Lib.hid (decide_eq_true (by have := HK.out; have := HN.out; have := HT.out; omega))
        go_enter Tryz.func66, Tryz.ntmps66
        go_upto_region 1 with fail
        rw [HW1.out]
        go_wp2_with fail
        refine (HB.out _).mono ?_
        rintro e w' ⟨rfl, rfl⟩
        go_wp2
        go_ret
        exact ⟨by rw [HU2.out]; rfl, HB1.out⟩
      · have fT : z.toList.isEmpty = true := by
          rw [List.isEmpty_iff]
          exact (empty_len HZD.out).2 (by omega)
        have HT := Lib.hid h
        clear h
        by_cases h : 0 < nn
        · have fS : decide (0 < nn) = true := decide_eq_true h
          have gS : ((nn : Int) != 0) = true := by rw [bne_iff_ne]; omega
          have HS := Lib.hid h
          clear h
          have HU2 : Hid (U = true) := by
            rw [← HU.out, unused_len, HNN.out, HTN.out]
            exact Lib.hid (decide_eq_true (by have := HK.out; have := HN.out; have := HT.out; have := HS.out; omega))
          go_enter Tryz.func66, Tryz.ntmps66
          go_upto_region 1 with fail
          rw [HW1.out]
          go_wp2_with fail
          refine (HB.out _).mono ?_
          rintro e w' ⟨rfl, rfl⟩
          go_wp2
          go_ret
          exact ⟨by rw [HU2.out]; rfl, HB1.out⟩
        · have fS : decide (0 < nn) = false := decide_eq_false h
          have gS : ((nn : Int) != 0) = false := by rw [bne_eq_false_iff_eq]; omega
          have HS := Lib.hid h
          clear h
          by_cases h : 0 < tn
          · have fX : decide (0 < tn) = true := decide_eq_true h
            have gX : ((tn : Int) != 0) = true := by rw [bne_iff_ne]; omega
            have HX := Lib.hid h
            clear h
            have HU2 : Hid (U = true) := by
              rw [← HU.out, unused_len, HNN.out, HTN.out]
              exact Lib.hid (decide_eq_true (by have := HK.out; have := HN.out; have := HT.out; have := HS.out; have := HX.out; omega))
            go_enter Tryz.func66, Tryz.ntmps66
            go_upto_region 1 with fail
            rw [HW1.out]
            go_wp2_with fail
            refine (HB.out _).mono ?_
            rintro e w' ⟨rfl, rfl⟩
            go_wp2
            go_ret
            exact ⟨by rw [HU2.out]; rfl, HB1.out⟩
          · have fX : decide (0 < tn) = false := decide_eq_false h
            have gX : ((tn : Int) != 0) = false := by rw [bne_eq_false_iff_eq]; omega
            have HX := Lib.hid h
            clear h
            have HU2 : Hid (U = false) := by
              rw [← HU.out, unused_len, HNN.out, HTN.out]
              exact Lib.hid (decide_eq_false (by have := HK.out; have := HN.out; have := HT.out; have := HS.out; have := HX.out; omega))
            go_enter Tryz.func66, Tryz.ntmps66
            go_upto_region 1 with fail
            rw [HW1.out]
            go_wp2_with fail
            refine (HB.out _).mono ?_
            rintro e w' ⟨rfl, rfl⟩
            go_wp2
            go_ret
            exact ⟨by rw [HU2.out]; rfl, HB1.out⟩
    · have fN : (n0 != 0) = false := by simpa using h
      have HN := Lib.hid h
      clear h
      by_cases h : t0.length ≠ 0
      · have fT : z.toList.isEmpty = false := by
          rw [List.isEmpty_eq_false_iff]
          exact fun e => h ((empty_len HZD.out).1 e)
        have HT := Lib.hid h
        clear h
        have HU2 : Hid (U = true) := by
          rw [← HU.out, unused_len, HNN.out, HTN.out]
          exact Lib.hid (decide_eq_true (by have := HK.out; have := HN.out; have := HT.out; omega))
        go_enter Tryz.func66, Tryz.ntmps66
        go_upto_region 1 with fail
        rw [HW1.out]
        go_wp2_with fail
        refine (HB.out _).mono ?_
        rintro e w' ⟨rfl, rfl⟩
        go_wp2
        go_ret
        exact ⟨by rw [HU2.out]; rfl, HB1.out⟩
      · have fT : z.toList.isEmpty = true := by
          rw [List.isEmpty_iff]
          exact (empty_len HZD.out).2 (by omega)
        have HT := Lib.hid h
        clear h
        by_cases h : 0 < nn
        · have fS : decide (0 < nn) = true := decide_eq_true h
          have gS : ((nn : Int) != 0) = true := by rw [bne_iff_ne]; omega
          have HS := Lib.hid h
          clear h
          have HU2 : Hid (U = true) := by
            rw [← HU.out, unused_len, HNN.out, HTN.out]
            exact Lib.hid (decide_eq_true (by have := HK.out; have := HN.out; have := HT.out; have := HS.out; omega))
          go_enter Tryz.func66, Tryz.ntmps66
          go_upto_region 1 with fail
          rw [HW1.out]
          go_wp2_with fail
          refine (HB.out _).mono ?_
          rintro e w' ⟨rfl, rfl⟩
          go_wp2
          go_ret
          exact ⟨by rw [HU2.out]; rfl, HB1.out⟩
        · have fS : decide (0 < nn) = false := decide_eq_false h
          have gS : ((nn : Int) != 0) = false := by rw [bne_eq_false_iff_eq]; omega
          have HS := Lib.hid h
          clear h
          by_cases h : 0 < tn
          · have fX : decide (0 < tn) = true := decide_eq_true h
            have gX : ((tn : Int) != 0) = true := by rw [bne_iff_ne]; omega
            have HX := Lib.hid h
            clear h
            have HU2 : Hid (U = true) := by
              rw [← HU.out, unused_len, HNN.out, HTN.out]
              exact Lib.hid (decide_eq_true (by have := HK.out; have := HN.out; have := HT.out; have := HS.out; have := HX.out; omega))
            go_enter Tryz.func66, Tryz.ntmps66
            go_upto_region 1 with fail
            rw [HW1.out]
            go_wp2_with fail
            refine (HB.out _).mono ?_
            rintro e w' ⟨rfl, rfl⟩
            go_wp2
            go_ret
            exact ⟨by rw [HU2.out]; rfl, HB1.out⟩
          · have fX : decide (0 < tn) = false := decide_eq_false h
            have gX : ((tn : Int) != 0) = false := by rw [bne_eq_false_iff_eq]; omega
            have HX := Lib.hid h
            clear h
            have HU2 : Hid (U = false) := by
              rw [← HU.out, unused_len, HNN.out, HTN.out]
              exact Lib.hid (decide_eq_false (by have := HK.out; have := HN.out; have := HT.out; have := HS.out; have := HX.out; omega))
            go_enter Tryz.func66, Tryz.ntmps66
            go_upto_region 1 with fail
            rw [HW1.out]
            go_wp2_with fail
            refine (HB.out _).mono ?_
            rintro e w' ⟨rfl, rfl⟩
            go_wp2
            go_ret
            exact ⟨by rw [HU2.out]; rfl, HB1.out⟩
  by_cases hk : k0 = 4
  · have HK : Hid (1 ≤ k0 ∧ k0 = 4) := Lib.hid ⟨hlo, by omega⟩
    have hcb : Cel.cbase k0 = 4 := by unfold Cel.cbase; rw [if_neg (by omega)]; omega
    rw [hcb] at hb
    obtain ⟨c, hc⟩ : ∃ c, (4 : Int) = c := ⟨_, rfl⟩
    rw [hc] at hb
    have HB := Lib.hid hb
    have fc : (c == 4) = true := beq_iff_eq.2 (by omega)
    have fl : decide (4 < k0) = false := decide_eq_false (by omega)
    have fl' : k0 ≤ 4 := by omega
    clear hb hcb hc hlo hhi hk
    by_cases h : n0 ≠ 0
    · have fN : (n0 != 0) = true := bne_iff_ne.2 h
      have HN := Lib.hid h
      clear h
      have HU2 : Hid (U = true) := by
        rw [← HU.out, unused_len, HNN.out, HTN.out]
        exact Lib.hid (decide_eq_true (by have := HK.out; have := HN.out; omega))
      go_enter Tryz.func66, Tryz.ntmps66
      go_upto_region 1 with fail
      rw [HW1.out]
      go_wp2_with fail
      refine (HB.out _).mono ?_
      rintro e w' ⟨rfl, rfl⟩
      go_wp2
      go_ret
      exact ⟨by rw [HU2.out]; rfl, HB1.out⟩
    · have fN : (n0 != 0) = false := by simpa using h
      have HN := Lib.hid h
      clear h
      by_cases h : t0.length ≠ 0
      · have fT : z.toList.isEmpty = false := by
          rw [List.isEmpty_eq_false_iff]
          exact fun e => h ((empty_len HZD.out).1 e)
        have HT := Lib.hid h
        clear h
        by_cases h : 0 < nn
        · have fS : decide (0 < nn) = true := decide_eq_true h
          have gS : ((nn : Int) != 0) = true := by rw [bne_iff_ne]; omega
          have HS := Lib.hid h
          clear h
          have HU2 : Hid (U = true) := by
            rw [← HU.out, unused_len, HNN.out, HTN.out]
            exact Lib.hid (decide_eq_true (by have := HK.out; have := HN.out; have := HT.out; have := HS.out; omega))
          go_enter Tryz.func66, Tryz.ntmps66
          go_upto_region 1 with fail
          rw [HW1.out]
          go_wp2_with fail
          refine (HB.out _).mono ?_
          rintro e w' ⟨rfl, rfl⟩
          go_wp2
          go_ret
          exact ⟨by rw [HU2.out]; rfl, HB1.out⟩
        · have fS : decide (0 < nn) = false := decide_eq_false h
          have gS : ((nn : Int) != 0) = false := by rw [bne_eq_false_iff_eq]; omega
          have HS := Lib.hid h
          clear h
          by_cases h : 0 < tn
          · have fX : decide (0 < tn) = true := decide_eq_true h
            have gX : ((tn : Int) != 0) = true := by rw [bne_iff_ne]; omega
            have HX := Lib.hid h
            clear h
            have HU2 : Hid (U = true) := by
              rw [← HU.out, unused_len, HNN.out, HTN.out]
              exact Lib.hid (decide_eq_true (by have := HK.out; have := HN.out; have := HT.out; have := HS.out; have := HX.out; omega))
            go_enter Tryz.func66, Tryz.ntmps66
            go_upto_region 1 with fail
            rw [HW1.out]
            go_wp2_with fail
            refine (HB.out _).mono ?_
            rintro e w' ⟨rfl, rfl⟩
            go_wp2
            go_ret
            exact ⟨by rw [HU2.out]; rfl, HB1.out⟩
          · have fX : decide (0 < tn) = false := decide_eq_false h
            have gX : ((tn : Int) != 0) = false := by rw [bne_eq_false_iff_eq]; omega
            have HX := Lib.hid h
            clear h
            have HU2 : Hid (U = false) := by
              rw [← HU.out, unused_len, HNN.out, HTN.out]
              exact Lib.hid (decide_eq_false (by have := HK.out; have := HN.out; have := HT.out; have := HS.out; have := HX.out; omega))
            go_enter Tryz.func66, Tryz.ntmps66
            go_upto_region 1 with fail
            rw [HW1.out]
            go_wp2_with fail
            refine (HB.out _).mono ?_
            rintro e w' ⟨rfl, rfl⟩
            go_wp2
            go_ret
            exact ⟨by rw [HU2.out]; rfl, HB1.out⟩
      · have fT : z.toList.isEmpty = true := by
          rw [List.isEmpty_iff]
          exact (empty_len HZD.out).2 (by omega)
        have HT := Lib.hid h
        clear h
        by_cases h : 0 < nn
        · have fS : decide (0 < nn) = true := decide_eq_true h
          have gS : ((nn : Int) != 0) = true := by rw [bne_iff_ne]; omega
          have HS := Lib.hid h
          clear h
          have HU2 : Hid (U = true) := by
            rw [← HU.out, unused_len, HNN.out, HTN.out]
            exact Lib.hid (decide_eq_true (by have := HK.out; have := HN.out; have := HT.out; have := HS.out; omega))
          go_enter Tryz.func66, Tryz.ntmps66
          go_upto_region 1 with fail
          rw [HW1.out]
          go_wp2_with fail
          refine (HB.out _).mono ?_
          rintro e w' ⟨rfl, rfl⟩
          go_wp2
          go_ret
          exact ⟨by rw [HU2.out]; rfl, HB1.out⟩
        · have fS : decide (0 < nn) = false := decide_eq_false h
          have gS : ((nn : Int) != 0) = false := by rw [bne_eq_false_iff_eq]; omega
          have HS := Lib.hid h
          clear h
          by_cases h : 0 < tn
          · have fX : decide (0 < tn) = true := decide_eq_true h
            have gX : ((tn : Int) != 0) = true := by rw [bne_iff_ne]; omega
            have HX := Lib.hid h
            clear h
            have HU2 : Hid (U = true) := by
              rw [← HU.out, unused_len, HNN.out, HTN.out]
              exact Lib.hid (decide_eq_true (by have := HK.out; have := HN.out; have := HT.out; have := HS.out; have := HX.out; omega))
            go_enter Tryz.func66, Tryz.ntmps66
            go_upto_region 1 with fail
            rw [HW1.out]
            go_wp2_with fail
            refine (HB.out _).mono ?_
            rintro e w' ⟨rfl, rfl⟩
            go_wp2
            go_ret
            exact ⟨by rw [HU2.out]; rfl, HB1.out⟩
          · have fX : decide (0 < tn) = false := decide_eq_false h
            have gX : ((tn : Int) != 0) = false := by rw [bne_eq_false_iff_eq]; omega
            have HX := Lib.hid h
            clear h
            have HU2 : Hid (U = false) := by
              rw [← HU.out, unused_len, HNN.out, HTN.out]
              exact Lib.hid (decide_eq_false (by have := HK.out; have := HN.out; have := HT.out; have := HS.out; have := HX.out; omega))
            go_enter Tryz.func66, Tryz.ntmps66
            go_upto_region 1 with fail
            rw [HW1.out]
            go_wp2_with fail
            refine (HB.out _).mono ?_
            rintro e w' ⟨rfl, rfl⟩
            go_wp2
            go_ret
            exact ⟨by rw [HU2.out]; rfl, HB1.out⟩
  by_cases hk : k0 < 8
  · have HK : Hid (1 ≤ k0 ∧ 4 < k0 ∧ k0 < 8) := Lib.hid ⟨hlo, by omega, hk⟩
    have hcb : Cel.cbase k0 = k0 - 4 := by unfold Cel.cbase; rw [if_pos (by omega)]
    rw [hcb] at hb
    obtain ⟨c, hc⟩ : ∃ c, (k0 - 4 : Int) = c := ⟨_, rfl⟩
    rw [hc] at hb
    have HB := Lib.hid hb
    have fc : (c == 4) = false := beq_eq_false_iff_ne.2 (by omega)
    have fl : decide (4 < k0) = true := decide_eq_true (by omega)
    have fl' : 4 < k0 := by omega
    clear hb hcb hc hlo hhi hk
    by_cases h : n0 ≠ 0
    · have fN : (n0 != 0) = true := bne_iff_ne.2 h
      have HN := Lib.hid h
      clear h
      have HU2 : Hid (U = true) := by
        rw [← HU.out, unused_len, HNN.out, HTN.out]
        exact Lib.hid (decide_eq_true (by have := HK.out; have := HN.out; omega))
      go_enter Tryz.func66, Tryz.ntmps66
      go_upto_region 1 with fail
      rw [HW1.out]
      go_wp2_with fail
      refine (HB.out _).mono ?_
      rintro e w' ⟨rfl, rfl⟩
      go_wp2
      go_ret
      exact ⟨by rw [HU2.out]; rfl, HB1.out⟩
    · have fN : (n0 != 0) = false := by simpa using h
      have HN := Lib.hid h
      clear h
      by_cases h : t0.length ≠ 0
      · have fT : z.toList.isEmpty = false := by
          rw [List.isEmpty_eq_false_iff]
          exact fun e => h ((empty_len HZD.out).1 e)
        have HT := Lib.hid h
        clear h
        have HU2 : Hid (U = true) := by
          rw [← HU.out, unused_len, HNN.out, HTN.out]
          exact Lib.hid (decide_eq_true (by have := HK.out; have := HN.out; have := HT.out; omega))
        go_enter Tryz.func66, Tryz.ntmps66
        go_upto_region 1 with fail
        rw [HW1.out]
        go_wp2_with fail
        refine (HB.out _).mono ?_
        rintro e w' ⟨rfl, rfl⟩
        go_wp2
        go_ret
        exact ⟨by rw [HU2.out]; rfl, HB1.out⟩
      · have fT : z.toList.isEmpty = true := by
          rw [List.isEmpty_iff]
          exact (empty_len HZD.out).2 (by omega)
        have HT := Lib.hid h
        clear h
        by_cases h : 0 < nn
        · have fS : decide (0 < nn) = true := decide_eq_true h
          have gS : ((nn : Int) != 0) = true := by rw [bne_iff_ne]; omega
          have HS := Lib.hid h
          clear h
          by_cases h : 0 < tn
          · have fX : decide (0 < tn) = true := decide_eq_true h
            have gX : ((tn : Int) != 0) = true := by rw [bne_iff_ne]; omega
            have HX := Lib.hid h
            clear h
            have HU2 : Hid (U = true) := by
              rw [← HU.out, unused_len, HNN.out, HTN.out]
              exact Lib.hid (decide_eq_true (by have := HK.out; have := HN.out; have := HT.out; have := HS.out; have := HX.out; omega))
            go_enter Tryz.func66, Tryz.ntmps66
            go_upto_region 1 with fail
            rw [HW1.out]
            go_wp2_with fail
            refine (HB.out _).mono ?_
            rintro e w' ⟨rfl, rfl⟩
            go_wp2
            go_ret
            exact ⟨by rw [HU2.out]; rfl, HB1.out⟩
          · have fX : decide (0 < tn) = false := decide_eq_false h
            have gX : ((tn : Int) != 0) = false := by rw [bne_eq_false_iff_eq]; omega
            have HX := Lib.hid h
            clear h
            have HU2 : Hid (U = false) := by
              rw [← HU.out, unused_len, HNN.out, HTN.out]
              exact Lib.hid (decide_eq_false (by have := HK.out; have := HN.out; have := HT.out; have := HS.out; have := HX.out; omega))
            go_enter Tryz.func66, Tryz.ntmps66
            go_upto_region 1 with fail
            rw [HW1.out]
            go_wp2_with fail
            refine (HB.out _).mono ?_
            rintro e w' ⟨rfl, rfl⟩
            go_wp2
            go_ret
            exact ⟨by rw [HU2.out]; rfl, HB1.out⟩
        · have fS : decide (0 < nn) = false := decide_eq_false h
          have gS : ((nn : Int) != 0) = false := by rw [bne_eq_false_iff_eq]; omega
          have HS := Lib.hid h
          clear h
          by_cases h : 0 < tn
          · have fX : decide (0 < tn) = true := decide_eq_true h
            have gX : ((tn : Int) != 0) = true := by rw [bne_iff_ne]; omega
            have HX := Lib.hid h
            clear h
            have HU2 : Hid (U = true) := by
              rw [← HU.out, unused_len, HNN.out, HTN.out]
              exact Lib.hid (decide_eq_true (by have := HK.out; have := HN.out; have := HT.out; have := HS.out; have := HX.out; omega))
            go_enter Tryz.func66, Tryz.ntmps66
            go_upto_region 1 with fail
            rw [HW1.out]
            go_wp2_with fail
            refine (HB.out _).mono ?_
            rintro e w' ⟨rfl, rfl⟩
            go_wp2
            go_ret
            exact ⟨by rw [HU2.out]; rfl, HB1.out⟩
          · have fX : decide (0 < tn) = false := decide_eq_false h
            have gX : ((tn : Int) != 0) = false := by rw [bne_eq_false_iff_eq]; omega
            have HX := Lib.hid h
            clear h
            have HU2 : Hid (U = false) := by
              rw [← HU.out, unused_len, HNN.out, HTN.out]
              exact Lib.hid (decide_eq_false (by have := HK.out; have := HN.out; have := HT.out; have := HS.out; have := HX.out; omega))
            go_enter Tryz.func66, Tryz.ntmps66
            go_upto_region 1 with fail
            rw [HW1.out]
            go_wp2_with fail
            refine (HB.out _).mono ?_
            rintro e w' ⟨rfl, rfl⟩
            go_wp2
            go_ret
            exact ⟨by rw [HU2.out]; rfl, HB1.out⟩
  have HK : Hid (k0 = 8) := Lib.hid (by omega)
  have hcb : Cel.cbase k0 = 4 := by unfold Cel.cbase; rw [if_pos (by omega)]; omega
  rw [hcb] at hb
  obtain ⟨c, hc⟩ : ∃ c, (4 : Int) = c := ⟨_, rfl⟩
  rw [hc] at hb
  have HB := Lib.hid hb
  have fc : (c == 4) = true := beq_iff_eq.2 (by omega)
  have fl : decide (4 < k0) = true := decide_eq_true (by omega)
  have fl' : 4 < k0 := by omega
  clear hb hcb hc hlo hhi
  by_cases h : n0 ≠ 0
  · have fN : (n0 != 0) = true := bne_iff_ne.2 h
    have HN := Lib.hid h
    clear h
    have HU2 : Hid (U = true) := by
      rw [← HU.out, unused_len, HNN.out, HTN.out]
      exact Lib.hid (decide_eq_true (by have := HK.out; have := HN.out; omega))
    go_enter Tryz.func66, Tryz.ntmps66
    go_upto_region 1 with fail
    rw [HW1.out]
    go_wp2_with fail
    refine (HB.out _).mono ?_
    rintro e w' ⟨rfl, rfl⟩
    go_wp2
    go_ret
    exact ⟨by rw [HU2.out]; rfl, HB1.out⟩
  · have fN : (n0 != 0) = false := by simpa using h
    have HN := Lib.hid h
    clear h
    by_cases h : t0.length ≠ 0
    · have fT : z.toList.isEmpty = false := by
        rw [List.isEmpty_eq_false_iff]
        exact fun e => h ((empty_len HZD.out).1 e)
      have HT := Lib.hid h
      clear h
      have HU2 : Hid (U = true) := by
        rw [← HU.out, unused_len, HNN.out, HTN.out]
        exact Lib.hid (decide_eq_true (by have := HK.out; have := HN.out; have := HT.out; omega))
      go_enter Tryz.func66, Tryz.ntmps66
      go_upto_region 1 with fail
      rw [HW1.out]
      go_wp2_with fail
      refine (HB.out _).mono ?_
      rintro e w' ⟨rfl, rfl⟩
      go_wp2
      go_ret
      exact ⟨by rw [HU2.out]; rfl, HB1.out⟩
    · have fT : z.toList.isEmpty = true := by
        rw [List.isEmpty_iff]
        exact (empty_len HZD.out).2 (by omega)
      have HT := Lib.hid h
      clear h
      by_cases h : 0 < nn
      · have fS : decide (0 < nn) = true := decide_eq_true h
        have gS : ((nn : Int) != 0) = true := by rw [bne_iff_ne]; omega
        have HS := Lib.hid h
        clear h
        have HU2 : Hid (U = true) := by
          rw [← HU.out, unused_len, HNN.out, HTN.out]
          exact Lib.hid (decide_eq_true (by have := HK.out; have := HN.out; have := HT.out; have := HS.out; omega))
        go_enter Tryz.func66, Tryz.ntmps66
        go_upto_region 1 with fail
        rw [HW1.out]
        go_wp2_with fail
        refine (HB.out _).mono ?_
        rintro e w' ⟨rfl, rfl⟩
        go_wp2
        go_ret
        exact ⟨by rw [HU2.out]; rfl, HB1.out⟩
      · have fS : decide (0 < nn) = false := decide_eq_false h
        have gS : ((nn : Int) != 0) = false := by rw [bne_eq_false_iff_eq]; omega
        have HS := Lib.hid h
        clear h
        by_cases h : 0 < tn
        · have fX : decide (0 < tn) = true := decide_eq_true h
          have gX : ((tn : Int) != 0) = true := by rw [bne_iff_ne]; omega
          have HX := Lib.hid h
          clear h
          have HU2 : Hid (U = false) := by
            rw [← HU.out, unused_len, HNN.out, HTN.out]
            exact Lib.hid (decide_eq_false (by have := HK.out; have := HN.out; have := HT.out; have := HS.out; have := HX.out; omega))
          go_enter Tryz.func66, Tryz.ntmps66
          go_upto_region 1 with fail
          rw [HW1.out]
          go_wp2_with fail
          refine (HB.out _).mono ?_
          rintro e w' ⟨rfl, rfl⟩
          go_wp2
          go_ret
          exact ⟨by rw [HU2.out]; rfl, HB1.out⟩
        · have fX : decide (0 < tn) = false := decide_eq_false h
          have gX : ((tn : Int) != 0) = false := by rw [bne_eq_false_iff_eq]; omega
          have HX := Lib.hid h
          clear h
          have HU2 : Hid (U = false) := by
            rw [← HU.out, unused_len, HNN.out, HTN.out]
            exact Lib.hid (decide_eq_false (by have := HK.out; have := HN.out; have := HT.out; have := HS.out; have := HX.out; omega))
          go_enter Tryz.func66, Tryz.ntmps66
          go_upto_region 1 with fail
          rw [HW1.out]
          go_wp2_with fail
          refine (HB.out _).mono ?_
          rintro e w' ⟨rfl, rfl⟩
          go_wp2
          go_ret
          exact ⟨by rw [HU2.out]; rfl, HB1.out⟩
end Go.Proofs.YtoofbflplhbpbaaGreatDoor
