/- Layer 22 (cell): the program's Check of a value. -/
import Derived.Test.YtoofbflplhbpbaaGreatDoorCelUnu
namespace Go.Proofs.YtoofbflplhbpbaaGreatDoor
open Go.RowKit

theorem check_forms {k n : Int} {t : List UInt8} {ns : List Int} {ts : List (List UInt8)} (h1 : 1 ≤ k) (h8 : k ≤ 8) {U : Bool} (hU : decide (Cel.Unused ⟨k, n, t, ns, ts⟩) = U) :
    Cel.check ⟨k, n, t, ns, ts⟩ = if U = true then 41 else if 40 < ns.length ∨ 40 < ts.length then 45 else if 1000 < t.length ∨ Cel.longs ts = true then 44 else if k < 4 then Cel.numWrong k n else Cel.numsWrong (k - 4) ns := by
  unfold Cel.check
  rw [if_neg (by simp only; omega), ← hU]
  simp only [decide_eq_true_eq]

set_option maxHeartbeats 16000000 in
set_option maxRecDepth 100000 in
theorem check_any (B : Nat) (u : Value) (v : Cel.V) (w : World) (h : VIn w B u v) (hB : B ≤ w.heap.size) :
    Calls Tryz.prog 29 #[u] w fun e w' => e = .returned (.int .i64 (Cel.check v : Nat)) ∧ Below w.heap.size w w' := by
  have hun := fun (W : World) (hb : Below w.heap.size w W) (h1 : 1 ≤ v.kind) (h8 : v.kind ≤ 8) => unused_any B u v W (h.below (hb.mono hB)) (Nat.le_trans hB hb.size) h1 h8
  obtain ⟨A1, c1, A2, c2, rfl, ra1, ra2⟩ := h.ex
  have hnl := h.nl
  have hsl := h.sl
  obtain ⟨hk1, hk2⟩ := h.kin
  have hnum := h.num
  have hnums := h.nums
  have htl := h.tl
  have hsz := h.sz
  clear h
  obtain ⟨k0, n0, t0, ns, ts⟩ := v
  simp only at ra1 ra2 hnl hsl hk1 hk2 hnum hnums htl hsz hun ⊢
  obtain ⟨R, hR⟩ : ∃ R, Cel.check ⟨k0, n0, t0, ns, ts⟩ = R := ⟨_, rfl⟩
  rw [hR]
  obtain ⟨U, hU⟩ : ∃ U, decide (Cel.Unused ⟨k0, n0, t0, ns, ts⟩) = U := ⟨_, rfl⟩
  rw [hU] at hun
  have hcf := fun h1 h8 => check_forms (k := k0) (n := n0) (t := t0) (ns := ns) (ts := ts) h1 h8 hU
  rw [hR] at hcf
  obtain ⟨nn, hnn⟩ : ∃ n, ns.length = n := ⟨_, rfl⟩
  obtain ⟨tn, htn⟩ : ∃ n, ts.length = n := ⟨_, rfl⟩
  obtain ⟨z, hz⟩ : ∃ z : ByteArray, (⟨t0.toArray⟩ : ByteArray) = z := ⟨_, rfl⟩
  have hzs : z.size = t0.length := by rw [← hz]; exact size_list _
  rw [hnn] at ra1 hnl hun hcf ⊢
  rw [htn] at ra2 hsl hun hcf ⊢
  rw [hz] at hun ⊢
  obtain ⟨W1, hW1⟩ : ∃ W1, w.alloc (.cells #[.int .i64 k0, .int .i64 n0, .string z, .slice A1 nn c1, .slice A2 tn c2] 25) = W1 := ⟨_, rfl⟩
  have hb1 : Below w.heap.size w W1 := by rw [← hW1]; exact (Below.refl _ w).alloc (Nat.le_refl _) _
  have k1 : Blk W1 w.heap.size 25 #[.int .i64 k0, .int .i64 n0, .string z, .slice A1 nn c1, .slice A2 tn c2] := by rw [← hW1]; exact Blk.new _ _ _
  have RA1 := Lib.hid (ra1.below (hb1.mono hB))
  have RA2 := Lib.hid (ra2.below (hb1.mono hB))
  have HB1 := Lib.hid hb1
  have HW1 := Lib.hid hW1
  have HCF := Lib.hid hcf
  have HUN := Lib.hid hun
  have HNN := Lib.hid hnn
  have HTN := Lib.hid htn
  have HNUM := Lib.hid hnum
  have HNUMS := Lib.hid hnums
  have HSZ := Lib.hid hsz
  have HKB := Lib.hid k1
  have HR0 := Lib.hid hR
  have HUU := Lib.hid hU
  obtain ⟨a0, a1, a2, a3, a4, -⟩ := val_cells k1
  clear ra1 ra2 hnn htn hz k1 hb1 hW1 hcf hnum hnums hsz hun hU hR
  have hu := undef_no
  go_enter Tryz.func29, Tryz.ntmps29
  go_upto_region 1 with fail
  rw [HW1.out]
  clear HW1
  by_cases hlo : k0 < 1
  · have hr : R = 40 := by rw [← HR0.out]; unfold Cel.check; rw [if_pos (.inl hlo)]
    have HRR := Lib.hid hr
    clear hr
    go_wp2
    go_ret
    exact ⟨by rw [HRR.out]; rfl, HB1.out⟩
  by_cases hhi : 8 < k0
  · have hr : R = 40 := by rw [← HR0.out]; unfold Cel.check; rw [if_pos (.inr hhi)]
    have HRR := Lib.hid hr
    have t1 : decide (k0 < 1) = false := decide_eq_false hlo
    have t2 : decide (8 < k0) = true := decide_eq_true hhi
    clear hr hlo
    go_wp2
    go_ret
    exact ⟨by rw [HRR.out]; rfl, HB1.out⟩
  have t1 : decide (k0 < 1) = false := decide_eq_false hlo
  have t2 : decide (8 < k0) = false := decide_eq_false hhi
  have hlo1 : 1 ≤ k0 := by omega
  have hhi1 : k0 ≤ 8 := by omega
  have hr0 := HCF.out hlo1 hhi1
  have HCU := Lib.hid (HUN.out W1 HB1.out hlo1 hhi1)
  have HLO : Hid (1 ≤ k0 ∧ k0 ≤ 8) := ⟨hlo1, hhi1⟩
  clear hlo hhi hk1 hk2 HCF HUN HR0
  go_wp2_with fail
  refine HCU.out.mono ?_
  rintro e w2 ⟨rfl, hb2⟩
  have HB2 := Lib.hid (HB1.out.trans (hb2.mono HB1.out.size))
  have HK2 := Lib.hid (HKB.out.below hb2 HKB.out.lt)
  have hwz := HB1.out.size
  have RA1' := Lib.hid (RA1.out.below (hb2.mono (Nat.le_trans hB hwz)))
  have RA2' := Lib.hid (RA2.out.below (hb2.mono (Nat.le_trans hB hwz)))
  clear hb2 a0 a1 a2 a3 a4 HCU RA1 RA2 HKB
  obtain ⟨a0, a1, a2, a3, a4, -⟩ := val_cells HK2.out
  cases U with
  | true =>
    have hr : R = 41 := by rw [hr0, if_pos rfl]
    have HRR := Lib.hid hr
    clear hr hr0
    go_wp2
    go_ret
    exact ⟨by rw [HRR.out]; rfl, HB2.out⟩
  | false =>
    rw [if_neg (by decide)] at hr0
    have huf := HUU.out
    rw [unused_len, decide_eq_false_iff_not, HNN.out, HTN.out] at huf
    simp only [not_or] at huf
    obtain ⟨u1, u2, u3, u4⟩ := huf
    have HUS := Lib.hid (⟨u1, u2, u3, u4⟩ : _ ∧ _ ∧ _ ∧ _)
    have HR1 := Lib.hid hr0
    clear u1 u2 u3 u4 hr0 HUU
    by_cases h40 : 40 < nn
    · have hr : R = 45 := by rw [HR1.out, if_pos (.inl h40)]
      have HRR := Lib.hid hr
      have f1 : decide (40 < nn) = true := decide_eq_true h40
      have f1' : (40 : Int) < nn := by omega
      clear hr h40
      go_wp2
      go_ret
      exact ⟨by rw [HRR.out]; rfl, HB2.out⟩
    have f1 : decide (40 < nn) = false := decide_eq_false h40
    have f1' : (nn : Int) ≤ 40 := by omega
    by_cases h41 : 40 < tn
    · have hr : R = 45 := by rw [HR1.out, if_pos (.inr h41)]
      have HRR := Lib.hid hr
      have f2 : decide (40 < tn) = true := decide_eq_true h41
      have f2' : (40 : Int) < tn := by omega
      clear hr h40 h41
      go_wp2
      go_ret
      exact ⟨by rw [HRR.out]; rfl, HB2.out⟩
    have f2 : decide (40 < tn) = false := decide_eq_false h41
    have f2' : (tn : Int) ≤ 40 := by omega
    have hr1 := HR1.out
    rw [if_neg (by omega)] at hr1
    have HR2 := Lib.hid hr1
    clear hr1 HR1 h40 h41
    by_cases htx : 1000 < t0.length
    · have hr : R = 44 := by rw [HR2.out, if_pos (.inl htx)]
      have HRR := Lib.hid hr
      have f5 : decide (1000 < z.size) = true := decide_eq_true (by omega)
      have f5' : (1000 : Int) < z.size := by omega
      clear hr htx hzs
      go_wp2
      go_ret
      exact ⟨by rw [HRR.out]; rfl, HB2.out⟩
    have f5 : decide (1000 < z.size) = false := decide_eq_false (by omega)
    have f5' : (z.size : Int) ≤ 1000 := by omega
    have hcl := fun (W : World) (hb : Below w2.heap.size w2 W) => containsLong_any B A2 tn c2 ts W (RA2'.out.below (hb.mono (Nat.le_trans hB HB2.out.size))) HTN.out (by omega) HSZ.out
    obtain ⟨L, hL⟩ : ∃ L, Cel.longs ts = L := ⟨_, rfl⟩
    rw [hL] at hcl
    have hr2 := HR2.out
    rw [hL] at hr2
    have HCL := Lib.hid (hcl w2 (Below.refl _ _))
    have HL := Lib.hid hL
    clear hcl hL HR2
    go_wp2_with fail
    refine HCL.out.mono ?_
    rintro e w' ⟨rfl, rfl⟩
    cases L with
    | true =>
      have hr : R = 44 := by rw [hr2, if_pos (.inr rfl)]
      have HRR := Lib.hid hr
      clear hr hr2 htx hzs
      go_wp2
      go_ret
      exact ⟨by rw [HRR.out]; rfl, HB2.out⟩
    | false =>
      rw [if_neg (by rintro (h | h); exact htx h; cases h)] at hr2
      have HR3 := Lib.hid hr2
      clear hr2 htx hzs
      by_cases hk4 : k0 < 4
      · have hr := HR3.out
        rw [if_pos hk4] at hr
        have hcb : Cel.cbase k0 = k0 := by unfold Cel.cbase; rw [if_neg (by omega)]
        have hcall := fun (W : World) => checkNum_any k0 n0 W (by have := HLO.out; unfold Cel.In64; omega) HNUM.out
        rw [hcb, ← hr] at hcall
        have HC := Lib.hid hcall
        have f3 : decide (k0 ≤ 3) = true := decide_eq_true (by omega)
        have f3' : k0 ≤ 3 := by omega
        clear hr hcall hk4 hcb
        go_wp2_with fail
        refine (HC.out _).mono ?_
        rintro e w' ⟨rfl, rfl⟩
        go_wp2
        go_ret
        exact ⟨rfl, HB2.out⟩
      have f3 : decide (k0 ≤ 3) = false := decide_eq_false (by omega)
      have f3' : 4 ≤ k0 := by omega
      have hr := HR3.out
      rw [if_neg hk4] at hr
      have HR4 := Lib.hid hr
      clear hr HR3 hk4
      go_wp2_with fail
      go_loopg [51] nn (fun g x wr => ∃ k : Nat, x = .int .i64 k ∧ k + g = nn ∧ w2 = wr ∧ ∀ (j : Nat) y, j < k → ns[j]? = some y → Cel.numWrong (k0 - 4) y = 0)
      case atStart => exact ⟨0, rfl, by omega, rfl, fun j y hj => by omega⟩
      case round =>
        obtain ⟨k, rfl, hk, rfl, hz⟩ := hrel
        have HZ := Lib.hid hz
        have HK := Lib.hid hk
        have hkI : (k : Int) ≤ 40 := by omega
        clear hz
        cases gk with
        | zero =>
          obtain rfl : k = nn := by omega
          have hr : R = 0 := by
            rw [HR4.out]
            exact numsWrong_zero (fun y hy => by
              obtain ⟨j, hj, e⟩ := List.getElem_of_mem hy
              exact HZ.out j y (by have := HNN.out; omega) (by rw [List.getElem?_eq_getElem hj, e]))
          have HRR := Lib.hid hr
          clear hk hr
          go_wp2
          go_ret
          exact ⟨by rw [HRR.out]; rfl, HB2.out⟩
        | succ g =>
          have hkn : k < nn := by omega
          have hknI : (k : Int) < nn := by omega
          have hkl : k < ns.length := by rw [HNN.out]; exact hkn
          obtain ⟨p, o, x, rfl, hpB, hx, hp⟩ := RA1'.out.cell hkn
          rw [List.getElem?_map, List.getElem?_eq_getElem hkl] at hx
          obtain rfl := (Option.some.inj hx).symm
          obtain ⟨y, hy⟩ : ∃ y, ns[k] = y := ⟨_, rfl⟩
          rw [hy] at hp
          unfold I64 at hp
          have hyk : ns[k]? = some y := by rw [List.getElem?_eq_getElem hkl, hy]
          have h5 : 5 ≤ k0 := by have := HUS.out.2.2.1; omega
          have hcb : Cel.cbase k0 = k0 - 4 := by unfold Cel.cbase; rw [if_pos (by omega)]
          have hcall := fun (W : World) => checkNum_any k0 y W (by have := HLO.out; unfold Cel.In64; omega) (HNUMS.out y (List.mem_of_getElem? hyk))
          rw [hcb] at hcall
          obtain ⟨er, her⟩ : ∃ e, Cel.numWrong (k0 - 4) y = e := ⟨_, rfl⟩
          rw [her] at hcall
          have HC := Lib.hid hcall
          have HYK := Lib.hid hyk
          have HER := Lib.hid her
          by_cases he : er = 0
          · subst he
            clear hx hk hkl hy hyk hcall her hcb
            go_wp2_with fail
            refine (HC.out _).mono ?_
            rintro e w' ⟨rfl, rfl⟩
            go_wp2
            go_roundg g
            case measure => omega
            case rel =>
              refine ⟨k + 1, int_eq' (by omega), by have := HK.out; omega, rfl, fun i q hi hq => ?_⟩
              by_cases e : i = k
              · rw [e, HYK.out] at hq
                cases hq
                exact HER.out
              · exact HZ.out i q (by omega) hq
          · have hr : R = er := by rw [HR4.out]; exact numsWrong_at he k y HYK.out HER.out HZ.out
            have heb : ((er : Int) != 0) = true := by rw [bne_iff_ne]; omega
            have HRR := Lib.hid hr
            clear hx hk hkl hy hyk hcall her hr he hcb
            go_wp2_with fail
            refine (HC.out _).mono ?_
            rintro e w' ⟨rfl, rfl⟩
            go_wp2
            go_ret
            exact ⟨by rw [HRR.out]; rfl, HB2.out⟩
end Go.Proofs.YtoofbflplhbpbaaGreatDoor
