/- Layer 22 (cell): CellParses as a contract. -/
import Derived.Test.YthnaiiejjdmnaaaGreatDoorCelRParse
namespace Go.Proofs.YthnaiiejjdmnaaaGreatDoor
open Go.RowKit

set_option maxHeartbeats 8000000 in
set_option maxRecDepth 100000 in
theorem cellParses_any (s : ByteArray) (w : World) (hs : s.size ≤ 1073741823) (hL : Laid w) :
    Calls Tryz.prog 5 #[.string s] w fun e w' => e = .returned (.bool true) ∧ Below w.heap.size w w' := by
  have HS := Lib.hid (celSpeaks_any w hL)
  have hq := fun (W : World) (hb : Below w.heap.size w W) => celParse_any s W hs (hL.below hb)
  have hr := fun (W : World) => refParse_any s W hs
  have hpo := fun v => parse_ok (s := s.data.toList) (v := v) (by rw [← Lib.size_eq]; omega)
  have herr := fun v e => @Cel.parse_err s.data.toList v e
  obtain ⟨R, hR⟩ : ∃ R, Cel.parse s.data.toList = R := ⟨_, rfl⟩
  rw [hR] at hq hpo herr hr
  obtain ⟨v, er⟩ := R
  have hok : VOk v := by
    by_cases he : er = 0
    · exact hpo v (by rw [he])
    · rw [herr v er rfl he]; exact v0_ok
  have HQ := Lib.hid hq
  have HR := Lib.hid hr
  have HOK := Lib.hid hok
  have hu := undef_no
  clear hq hr hpo herr hR hL hok
  go_enter Tryz.func5, Tryz.ntmps5
  go_wp2_with fail
  refine HS.out.mono ?_
  rintro e w1 ⟨rfl, hb1⟩
  have HB1 := Lib.hid hb1
  clear hb1
  go_wp2_with fail
  refine (HQ.out _ HB1.out).mono ?_
  rintro e w2 ⟨u, rfl, ho, hb⟩
  have hvi := ho.vin HOK.out
  obtain ⟨sl, t, rfl, o1, o2⟩ := ho.ex
  obtain ⟨A1, c1, rfl⟩ := own_form o1
  obtain ⟨A2, c2, rfl⟩ := own_form o2
  obtain ⟨W3, hW3⟩ : ∃ W3, w2.alloc (.cells #[.int .i64 v.kind, .int .i64 v.num, .string ⟨v.text.toArray⟩, .slice A1 v.nums.length c1, .slice A2 v.texts.length c2] 36) = W3 := ⟨_, rfl⟩
  have hb3 : Below w2.heap.size w2 W3 := by rw [← hW3]; exact (Below.refl _ w2).alloc (Nat.le_refl _) _
  have k3 : Blk W3 w2.heap.size 36 #[.int .i64 v.kind, .int .i64 v.num, .string ⟨v.text.toArray⟩, .slice A1 v.nums.length c1, .slice A2 v.texts.length c2] := by rw [← hW3]; exact Blk.new _ _ _
  have HB3 := Lib.hid ((HB1.out.trans (hb.mono HB1.out.size)).trans (hb3.mono (Nat.le_trans HB1.out.size hb.size)))
  have HK3 := Lib.hid k3
  have HW3 := Lib.hid hW3
  have HVI := Lib.hid ((hvi.below hb3).mono hb3.size)
  clear hb3 k3 hW3 hvi ho hb o1 o2
  go_upto_region 4 with fail
  rw [HW3.out]
  clear HW3
  go_wp2_with fail
  refine (HR.out _).mono ?_
  rintro e w4 ⟨u, rfl, ho, hb⟩
  have hvi := ho.vin HOK.out
  obtain ⟨sl, t, rfl, o1, o2⟩ := ho.ex
  obtain ⟨A3, c3, rfl⟩ := own_form o1
  obtain ⟨A4, c4, rfl⟩ := own_form o2
  obtain ⟨W5, hW5⟩ : ∃ W, w4.alloc (.cells #[.int .i64 v.kind, .int .i64 v.num, .string ⟨v.text.toArray⟩, .slice A3 v.nums.length c3, .slice A4 v.texts.length c4] 36) = W := ⟨_, rfl⟩
  have hb5 : Below w4.heap.size w4 W5 := by rw [← hW5]; exact (Below.refl _ w4).alloc (Nat.le_refl _) _
  have k5 : Blk W5 w4.heap.size 36 #[.int .i64 v.kind, .int .i64 v.num, .string ⟨v.text.toArray⟩, .slice A3 v.nums.length c3, .slice A4 v.texts.length c4] := by rw [← hW5]; exact Blk.new _ _ _
  have hb35 : Below W3.heap.size W3 W5 := hb.trans (hb5.mono hb.size)
  have HB5 := Lib.hid (HB3.out.trans (hb35.mono HB3.out.size))
  have hsm := vSame_any W5.heap.size _ _ v W5 ((HVI.out.below hb35).mono hb35.size) ((hvi.below hb5).mono hb5.size) (Nat.le_refl _)
  have HSM := Lib.hid hsm
  obtain ⟨a0, a1, a2, a3, a4, -⟩ := val_cells (HK3.out.below hb35 HK3.out.lt)
  obtain ⟨b0, b1, b2, b3, b4, -⟩ := val_cells k5
  have HW5 := Lib.hid hW5
  clear hb5 k5 hW5 hvi ho hb o1 o2 hb35 hsm HQ HR
  go_upto_region 5 with fail
  rw [HW5.out]
  clear HW5
  go_wp2_with fail
  refine HSM.out.mono ?_
  rintro e w6 ⟨rfl, hb⟩
  have HB6 := Lib.hid (HB5.out.trans (hb.mono HB5.out.size))
  clear hb
  go_wp2
  go_ret
  exact ⟨rfl, HB6.out⟩
end Go.Proofs.YthnaiiejjdmnaaaGreatDoor
