/- Layer 22 (cell): CellPrints as a contract. -/
import Derived.Test.YthnaiiejjdmnaaaGreatDoorCelRPrint
namespace Go.Proofs.YthnaiiejjdmnaaaGreatDoor
open Go.RowKit

set_option maxHeartbeats 8000000 in
set_option maxRecDepth 100000 in
theorem cellPrints_any (u : Value) (v : Cel.V) (w : World) (h : VIn w w.heap.size u v) (hL : Laid w) :
    Calls Tryz.prog 4 #[u] w fun e w' => e = .returned (.bool true) ∧ Below w.heap.size w w' := by
  have hcp := fun (W : World) (hb : Below w.heap.size w W) => vCopy_any w.heap.size u v W (h.below hb) hb.size
  have hsm := fun (W : World) (u2 : Value) (hb : Below w.heap.size w W) (h2 : VIn W W.heap.size u2 v) => vSame_any W.heap.size u2 u v W h2 ((h.below hb).mono hb.size) (Nat.le_refl _)
  have hrp := fun (W : World) (hb : Below w.heap.size w W) => refPrint_any w.heap.size u v W (h.below hb) hb.size
  have hok := h.ok
  obtain ⟨A1, c1, A2, c2, rfl, -, -⟩ := h.ex
  obtain ⟨W1, hW1⟩ : ∃ W1, w.alloc (.cells #[.int .i64 v.kind, .int .i64 v.num, .string ⟨v.text.toArray⟩, .slice A1 v.nums.length c1, .slice A2 v.texts.length c2] 36) = W1 := ⟨_, rfl⟩
  have hb1 : Below w.heap.size w W1 := by rw [← hW1]; exact (Below.refl _ w).alloc (Nat.le_refl _) _
  have k1 : Blk W1 w.heap.size 36 #[.int .i64 v.kind, .int .i64 v.num, .string ⟨v.text.toArray⟩, .slice A1 v.nums.length c1, .slice A2 v.texts.length c2] := by rw [← hW1]; exact Blk.new _ _ _
  obtain ⟨z, hz⟩ : ∃ z : ByteArray, (⟨(Cel.printR v).1.toArray⟩ : ByteArray) = z := ⟨_, rfl⟩
  obtain ⟨n, hn⟩ : ∃ n, (Cel.printR v).2 = n := ⟨_, rfl⟩
  rw [hz, hn] at hrp
  have tss : (z.toList == z.toList) = true := beq_self_eq_true _
  have HS := Lib.hid (celSpeaks_any W1 (hL.below hb1))
  have HCP := Lib.hid hcp
  have HSM := Lib.hid hsm
  have HRP := Lib.hid hrp
  have HOK := Lib.hid hok
  have HB1 := Lib.hid hb1
  have HK1 := Lib.hid k1
  have HW1 := Lib.hid hW1
  have HZ := Lib.hid hz
  have HN := Lib.hid hn
  have HL := Lib.hid hL
  have hu := undef_no
  clear hcp hsm hrp hok hb1 k1 hW1 hL h hz hn
  go_enter Tryz.func4, Tryz.ntmps4
  go_upto_region 1 with fail
  rw [HW1.out]
  clear HW1
  go_wp2_with fail
  refine HS.out.mono ?_
  rintro e w2 ⟨rfl, hb⟩
  have HB2 := Lib.hid (HB1.out.trans (hb.mono HB1.out.size))
  have HK2 := Lib.hid (HK1.out.below hb HK1.out.lt)
  clear hb
  obtain ⟨a0, a1, a2, a3, a4, -⟩ := val_cells HK2.out
  go_wp2_with fail
  refine (HCP.out _ HB2.out).mono ?_
  rintro e w4 ⟨u', rfl, ho, hb⟩
  have HB4 := Lib.hid (HB2.out.trans (hb.mono HB2.out.size))
  have HK4 := Lib.hid (HK2.out.below hb HK2.out.lt)
  have hvi := ho.vin HOK.out
  obtain ⟨s, t, rfl, o1, o2⟩ := ho.ex
  obtain ⟨A3, c3, rfl⟩ := own_form o1
  obtain ⟨A4, c4, rfl⟩ := own_form o2
  obtain ⟨W5, hW5⟩ : ∃ W5, w4.alloc (.cells #[.int .i64 v.kind, .int .i64 v.num, .string ⟨v.text.toArray⟩, .slice A3 v.nums.length c3, .slice A4 v.texts.length c4] 36) = W5 := ⟨_, rfl⟩
  have hb5 : Below w4.heap.size w4 W5 := by rw [← hW5]; exact (Below.refl _ w4).alloc (Nat.le_refl _) _
  have k5 : Blk W5 w4.heap.size 36 #[.int .i64 v.kind, .int .i64 v.num, .string ⟨v.text.toArray⟩, .slice A3 v.nums.length c3, .slice A4 v.texts.length c4] := by rw [← hW5]; exact Blk.new _ _ _
  have HB5 := Lib.hid (HB4.out.trans (hb5.mono HB4.out.size))
  have hp := print_any w4.heap.size _ v W5 (hvi.below hb5) hb5.size (HL.out.below HB5.out)
  rw [HZ.out, HN.out] at hp
  have HP := Lib.hid hp
  have HVI := Lib.hid (hvi.below hb5)
  have HK5 := Lib.hid k5
  have HKV := Lib.hid (HK4.out.below hb5 HK4.out.lt)
  have HW5 := Lib.hid hW5
  have hz5 := hb5.size
  clear hb ho o1 o2 hvi hb5 k5 hp hW5 a0 a1 a2 a3 a4 HCP
  go_upto_region 4 with fail
  rw [HW5.out]
  clear HW5
  obtain ⟨b0, b1, b2, b3, b4, -⟩ := val_cells HK5.out
  go_wp2_with fail
  refine HP.out.mono ?_
  rintro e w6 ⟨rfl, hb⟩
  have HB6 := Lib.hid (HB5.out.trans (hb.mono HB5.out.size))
  have HK6 := Lib.hid (HK5.out.below hb HK5.out.lt)
  have HKV6 := Lib.hid (HKV.out.below hb HKV.out.lt)
  have HVI6 := Lib.hid (HVI.out.below (hb.mono hz5))
  have hz6 := Nat.le_trans hz5 hb.size
  clear hb b0 b1 b2 b3 b4
  obtain ⟨a0, a1, a2, a3, a4, -⟩ := val_cells HKV6.out
  go_wp2_with fail
  refine (HRP.out _ HB6.out).mono ?_
  rintro e w7 ⟨rfl, hb⟩
  have HB7 := Lib.hid (HB6.out.trans (hb.mono HB6.out.size))
  have HVI7 := Lib.hid (HVI6.out.below (hb.mono hz6))
  have hs := HSM.out w7 _ HB7.out (HVI7.out.mono (Nat.le_trans hz6 hb.size))
  have HSS := Lib.hid hs
  have q5 := HK6.out.below hb HK6.out.lt
  have qV := HKV6.out.below hb HKV6.out.lt
  clear hb a0 a1 a2 a3 a4 hs
  obtain ⟨a0, a1, a2, a3, a4, -⟩ := val_cells qV
  obtain ⟨b0, b1, b2, b3, b4, -⟩ := val_cells q5
  clear q5 qV
  go_wp2_with fail
  refine HSS.out.mono ?_
  rintro e w8 ⟨rfl, hb⟩
  have HB8 := Lib.hid (HB7.out.trans (hb.mono HB7.out.size))
  clear hb
  go_wp2
  go_ret
  exact ⟨rfl, HB8.out⟩
end Go.Proofs.YthnaiiejjdmnaaaGreatDoor
