/- Layer 22 (cell): the document's fixed answers. -/
import Derived.Test.YtoofbflplhbpbaaGreatDoorCelParse
import Derived.Test.YtoofbflplhbpbaaGreatDoorCelChk
namespace Go.Proofs.YtoofbflplhbpbaaGreatDoor
open Go.RowKit

theorem Reads.of_blk {w : World} {B g T n : Nat} {cs : Array Value} (h : Blk w g T cs) (hg : g < B) (hn : cs.size = n) : Reads w B 1 (some ⟨g, 0, none⟩) n cs.toList := by
  refine ⟨by simp [hn], fun _ => ⟨g, 0, rfl, hg, fun j u hu => ?_⟩⟩
  rw [h.cell]
  simpa using hu
theorem celSpeaks_1 : Cel.printR ⟨8, 0, [], [], [[97, 59, 98], [92], []]⟩ = ([115, 91, 93, 58, 97, 92, 59, 98, 59, 92, 92, 59, 59], 0) := by kernel_rfl
theorem celSpeaks_2 : Cel.parse [105, 58, 45, 55] = (⟨2, -7, [], [], []⟩, 0) := by kernel_rfl
theorem celSpeaks_3 : Cel.parse [105, 91, 93, 58, 49] = (⟨0, 0, [], [], []⟩, 220) := by kernel_rfl

set_option maxHeartbeats 8000000 in
set_option maxRecDepth 100000 in
theorem celSpeaks_any (w : World) (hL : Laid w) :
    Calls Tryz.prog 12 #[] w fun e w' => e = .returned (.bool true) ∧ Below w.heap.size w w' := by
  obtain ⟨W1, hW1⟩ : ∃ W1, w.alloc (.cells #[.string ⟨#[97, 59, 98]⟩, .string ⟨#[92]⟩, .string ⟨#[]⟩] 9) = W1 := ⟨_, rfl⟩
  have hb1 : Below w.heap.size w W1 := by rw [← hW1]; exact (Below.refl _ w).alloc (Nat.le_refl _) _
  have k1 : Blk W1 w.heap.size 9 #[.string ⟨#[97, 59, 98]⟩, .string ⟨#[92]⟩, .string ⟨#[]⟩] := by rw [← hW1]; exact Blk.new _ _ _
  have hvi : VIn W1 W1.heap.size (.agg #[.int .i64 8, .int .i64 0, .string ⟨#[]⟩, .slice none 0 0, .slice (some ⟨w.heap.size, 0, none⟩) 3 3]) ⟨8, 0, [], [], [[97, 59, 98], [92], []]⟩ :=
    ⟨⟨none, 0, some ⟨w.heap.size, 0, none⟩, 3, rfl, Reads.none_, Reads.of_blk k1 k1.lt rfl⟩, by unfold Cel.In64; decide, by unfold Cel.In64; decide, by simp, by decide, by decide, by decide, by decide⟩
  have hp := print_any W1.heap.size _ _ W1 hvi (Nat.le_refl _) (hL.below hb1)
  rw [celSpeaks_1] at hp
  have hq := fun (W : World) (hb : Below w.heap.size w W) => celParse_any ⟨#[105, 58, 45, 55]⟩ W (by decide) (hL.below hb)
  have hr := fun (W : World) (hb : Below w.heap.size w W) => celParse_any ⟨#[105, 91, 93, 58, 49]⟩ W (by decide) (hL.below hb)
  simp only at hq hr
  rw [celSpeaks_2] at hq
  rw [celSpeaks_3] at hr
  have HP := Lib.hid hp
  have HQ := Lib.hid hq
  have HRR := Lib.hid hr
  have HW1 := Lib.hid hW1
  have HB1 := Lib.hid hb1
  have hu := undef_no
  clear hp hq hr hW1 hb1 k1 hvi hL
  go_enter Tryz.func12, Tryz.ntmps12
  go_wp2_with fail
  rw [HW1.out]
  clear HW1
  refine HP.out.mono ?_
  rintro e w2 ⟨rfl, hb⟩
  have HB2 := Lib.hid (HB1.out.trans (hb.mono HB1.out.size))
  clear hb
  go_wp2_with fail
  refine (HQ.out _ HB2.out).mono ?_
  rintro e w3 ⟨u, rfl, ho, hb⟩
  obtain ⟨s, t, rfl, o1, o2⟩ := ho.ex
  obtain ⟨A1, c1, rfl⟩ := own_form o1
  obtain ⟨A2, c2, rfl⟩ := own_form o2
  have HB3 := Lib.hid (HB2.out.trans (hb.mono HB2.out.size))
  clear hb ho o1 o2
  obtain ⟨W4, hW4⟩ : ∃ W4, w3.alloc (.cells #[.int .i64 2, .int .i64 (-7), .string ⟨#[]⟩, .slice A1 0 c1, .slice A2 0 c2] 25) = W4 := ⟨_, rfl⟩
  have hb4 : Below w3.heap.size w3 W4 := by rw [← hW4]; exact (Below.refl _ w3).alloc (Nat.le_refl _) _
  have k4 : Blk W4 w3.heap.size 25 #[.int .i64 2, .int .i64 (-7), .string ⟨#[]⟩, .slice A1 0 c1, .slice A2 0 c2] := by rw [← hW4]; exact Blk.new _ _ _
  have HB4 := Lib.hid (HB3.out.trans (hb4.mono HB3.out.size))
  have HK4 := Lib.hid k4
  have HW4 := Lib.hid hW4
  clear hb4 k4 hW4
  go_upto_region 5 with fail
  rw [show w3.alloc (.cells #[.int .i64 2, .int .i64 (-7), .string ⟨#[]⟩, .slice A1 0 c1, .slice A2 0 c2] 25) = W4 from HW4.out]
  clear HW4
  go_wp2_with fail
  refine (HRR.out _ HB4.out).mono ?_
  rintro e w5 ⟨u, rfl, ho, hb⟩
  obtain ⟨s, t, rfl, o1, o2⟩ := ho.ex
  obtain ⟨A3, c3, rfl⟩ := own_form o1
  obtain ⟨A4, c4, rfl⟩ := own_form o2
  have HB5 := Lib.hid (HB4.out.trans (hb.mono HB4.out.size))
  have HK5 := Lib.hid (HK4.out.below hb HK4.out.lt)
  clear hb ho o1 o2
  obtain ⟨a0, a1, a2, a3, a4, -⟩ := val_cells (HK5.out.alloc (.cells #[.int .i64 0, .int .i64 0, .string ⟨#[]⟩, .slice A3 0 c3, .slice A4 0 c4] 25))
  go_wp2

  go_ret
  exact ⟨rfl, HB5.out.alloc HB5.out.size _⟩

theorem v0_ok : VOk Cel.V0 := ⟨by unfold Cel.In64 Cel.V0; decide, by unfold Cel.In64 Cel.V0; decide, by simp [Cel.V0], by simp [Cel.V0], by simp [Cel.V0], by simp [Cel.V0], by simp [Cel.V0]⟩
theorem parse_ok {s : List UInt8} {v : Cel.V} (hs : s.length ≤ 1073741823) (h : Cel.parse s = (v, 0)) : VOk v := by
  unfold Cel.parse at h
  split at h
  · cases h
  · rename_i k r hh
    obtain ⟨-, h1, h8⟩ := Cel.headP_some hh
    have hl := headP_len hh
    split at h
    · rename_i hne
      simp only [Prod.mk.injEq] at h
      exact absurd h.2 hne
    · rename_i hne
      split at h
      · rename_i hne2
        simp only [Prod.mk.injEq] at h
        exact absurd h.2 hne2
      · simp only [Prod.mk.injEq, and_true] at h
        rw [← h]
        exact bodyP_ok h1 h8 (by omega) (by omega)
end Go.Proofs.YtoofbflplhbpbaaGreatDoor
