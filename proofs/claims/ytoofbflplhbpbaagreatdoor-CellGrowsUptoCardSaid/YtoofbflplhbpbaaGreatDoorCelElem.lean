/- Layer 22 (cell): the program's element. -/
import Derived.Test.YtoofbflplhbpbaaGreatDoorCelHead
import Derived.Deep.RegionWith
namespace Go.Proofs.YtoofbflplhbpbaaGreatDoor
open Go.RowKit

def elemV : Option (List UInt8 × List UInt8) → Value
  | none => .tuple #[.string ⟨#[]⟩, .string ⟨#[]⟩, .int .i64 220]
  | some (a, r) => .tuple #[.string ⟨a.toArray⟩, .string ⟨r.toArray⟩, .int .i64 0]
structure ElmRel (s : ByteArray) (R : Option (List UInt8 × List UInt8)) (w : World) (k : Nat) (acc : List UInt8) (wx : World) : Prop where
  res : Cel.elem (s.data.toList.drop k) acc = R
  len : acc.length ≤ k
  bel : Below w.heap.size w wx
  bld : Bld w.heap.size w.heap.size acc wx
theorem elem_stop {d : UInt8} {l b : List UInt8} (h1 : d ≠ 92) (h2 : d ≠ 59) : Cel.elem (92 :: d :: l) b = none := by
  rw [Cel.elem, if_neg (by decide), if_pos rfl, if_neg (fun h => h.elim h1 h2)]

set_option maxHeartbeats 8000000 in
set_option maxRecDepth 100000 in
theorem element_any (s : ByteArray) (w : World) (hs : s.size ≤ 1073741823) :
    Calls Tryz.prog 119 #[.string s] w fun e w' => e = .returned (elemV (Cel.elem s.data.toList [])) ∧ Below w.heap.size w w' := by
  obtain ⟨R, hR⟩ : ∃ R, Cel.elem s.data.toList [] = R := ⟨_, rfl⟩
  rw [hR]
  have HR := Lib.hid hR
  have hsi : (s.size : Int) ≤ 1073741823 := by omega
  clear hR
  go_enter Tryz.func119, Tryz.ntmps119
  go_wp2_with fail
  go_loopg [6] s.size (fun g x wx => ∃ (k : Nat) (acc : List UInt8), k + g = s.size ∧ x = .int .i64 k ∧ ElmRel s R w k acc wx)
  case atStart => exact ⟨0, [], by omega, rfl, ⟨by rw [List.drop_zero]; exact HR.out, by simp, (Below.refl _ w).alloc (Nat.le_refl _) _, Bld.fresh w⟩⟩
  case round =>
    obtain ⟨k, acc, hk, rfl, hrel⟩ := hrel
    have hlen := hrel.len
    have hsz := hrel.bel.size
    have HQ := Lib.hid hrel
    clear hrel
    cases gk with
    | zero =>
      obtain rfl : k = s.size := by omega
      have hr : R = none := by
        rw [← HQ.out.res, List.drop_of_length_le (by rw [← Lib.size_eq]; omega)]
        rfl
      have HRR := Lib.hid hr
      clear hr
      go_wp2
      go_ret3
      exact ⟨by rw [HRR.out]; rfl, HQ.out.bel⟩
    | succ g =>
      have hlt : k < s.size := by omega
      have hlti : (k : Int) < s.size := by omega
      obtain ⟨c, hc⟩ : ∃ c, s[k]'hlt = c := ⟨_, rfl⟩
      have hdr := drop_at' hlt
      rw [hc] at hdr
      have hres := HQ.out.res
      rw [hdr] at hres
      have HKG := Lib.hid hk
      have hcb := byte_le c
      by_cases h59 : c = 59
      · subst h59
        have hr : R = some (acc, s.data.toList.drop (k + 1)) := by rw [← hres, Cel.elem_end]
        have hx := extract_drop s (k + 1)
        have HRR := Lib.hid hr
        have HX := Lib.hid hx
        have hbd : Below wr.heap.size wr wr.drew := below_drewN (Below.refl _ _) 1
        have hbld : Bld w.heap.size w.heap.size acc wr.drew := HQ.out.bld.below hbd
        have hszd : w.heap.size ≤ wr.drew.heap.size := hsz
        have HB0 := Lib.hid (HQ.out.bel.trans (hbd.mono hsz))
        have hwr : IntKind.i64.wrap ((k : Int) + 1) = (k : Int) + 1 := IntWalk.i64_in _ (by omega)
        have hkn : ((k : Int) + 1).toNat = k + 1 := by omega
        clear hres hdr hr hx hk
        go_wp2_with fail
        go_region_with (go_at_call 34; refine (bld_string w.heap.size w.heap.size acc _ hbld hszd).mono ?_; rintro e w2 ⟨rfl, hbld2, hbel2, -⟩)
        all_goals
          go_wp2
          go_ret3
          exact ⟨by rw [HRR.out, elemV, ← HX.out]; rfl, HB0.out.trans hbel2⟩
      by_cases h92 : c = 92
      · subst h92
        by_cases hend : k + 1 = s.size
        · have hr : R = none := by
            rw [← hres, List.drop_of_length_le (by rw [← Lib.size_eq]; omega)]
            rfl
          have HRR := Lib.hid hr
          have t1 : decide ((s.size : Int) ≤ (k : Int) + 1) = true := decide_eq_true (by omega)
          have t1i : (s.size : Int) ≤ (k : Int) + 1 := by omega
          clear hres hdr hr hk
          go_wp2
          go_ret3
          exact ⟨by rw [HRR.out]; rfl, HQ.out.bel⟩
        · have hlt1 : k + 1 < s.size := by omega
          have t1 : decide ((s.size : Int) ≤ (k : Int) + 1) = false := decide_eq_false (by omega)
          have t1i : (k : Int) + 1 < s.size := by omega
          obtain ⟨d, hd⟩ : ∃ d, s[k + 1]'hlt1 = d := ⟨_, rfl⟩
          have hdr2 := drop_at' hlt1
          rw [hd] at hdr2
          rw [hdr2] at hres
          have hdb := byte_le d
          by_cases he : d = 92 ∨ d = 59
          · rw [Cel.elem_esc he] at hres
            have HN := Lib.hid hres
            have HBL := Lib.hid HQ.out.bld
            rcases he with rfl | rfl
            · clear hres hdr hdr2 hk hend
              go_wp2_with fail
              refine (bld_byte w.heap.size w.heap.size acc _ _ HBL.out (by omega) (by omega) (by omega) hsz).mono ?_
              rintro e w2 ⟨rfl, hbld2, hbel2, -⟩
              have HR2 : Hid (ElmRel s R w (k + 2) (acc ++ [92]) w2) := ⟨HN.out, by rw [List.length_append, List.length_singleton]; omega, HQ.out.bel.trans hbel2, hbld2⟩
              clear hbld2 hbel2
              go_wp2
              go_roundg (g - 1)
              case measure => omega
              case rel => exact ⟨k + 2, _, by have := HKG.out; omega, int_eq' (by omega), HR2.out⟩
            · clear hres hdr hdr2 hk hend
              go_wp2_with fail
              refine (bld_byte w.heap.size w.heap.size acc _ _ HBL.out (by omega) (by omega) (by omega) hsz).mono ?_
              rintro e w2 ⟨rfl, hbld2, hbel2, -⟩
              have HR2 : Hid (ElmRel s R w (k + 2) (acc ++ [59]) w2) := ⟨HN.out, by rw [List.length_append, List.length_singleton]; omega, HQ.out.bel.trans hbel2, hbld2⟩
              clear hbld2 hbel2
              go_wp2
              go_roundg (g - 1)
              case measure => omega
              case rel => exact ⟨k + 2, _, by have := HKG.out; omega, int_eq' (by omega), HR2.out⟩
          · simp only [not_or] at he
            have hr : R = none := by rw [← hres, elem_stop he.1 he.2]
            have HRR := Lib.hid hr
            have t3 : (((d.toNat : Nat) : Int) != 92) = true := by rw [bne, bq (k := 92) (n := 92) rfl (beq_eq_false_iff_ne.2 he.1)]; rfl
            have t4 : (((d.toNat : Nat) : Int) != 59) = true := by rw [bne, bq (k := 59) (n := 59) rfl (beq_eq_false_iff_ne.2 he.2)]; rfl
            clear hres hdr hdr2 hr hk hend he
            go_wp2
            go_ret3
            exact ⟨by rw [HRR.out]; rfl, HQ.out.bel⟩
      have t59 : (((c.toNat : Nat) : Int) == 59) = false := bq (k := 59) rfl (beq_eq_false_iff_ne.2 h59)
      have t92 : (((c.toNat : Nat) : Int) == 92) = false := bq (k := 92) rfl (beq_eq_false_iff_ne.2 h92)
      rw [Cel.elem_cons h59 h92] at hres
      have HN := Lib.hid hres
      have HBL := Lib.hid HQ.out.bld
      clear hres hdr hk h59 h92
      go_wp2_with fail
      refine (bld_byte w.heap.size w.heap.size acc _ _ HBL.out (by omega) (by omega) (by omega) hsz).mono ?_
      rintro e w2 ⟨rfl, hbld2, hbel2, -⟩
      rw [byte_back] at hbld2
      have HR2 : Hid (ElmRel s R w (k + 1) (acc ++ [c]) w2) := ⟨HN.out, by rw [List.length_append, List.length_singleton]; omega, HQ.out.bel.trans hbel2, hbld2⟩
      clear hbld2 hbel2
      go_wp2
      go_roundg g
      case measure => omega
      case rel => exact ⟨k + 1, _, by have := HKG.out; omega, int_eq' (by omega), HR2.out⟩
end Go.Proofs.YtoofbflplhbpbaaGreatDoor
