/- Layer 22 (cell): the document's fixed answers. -/
import Derived.Test.YthnaiiejjdmnaaaGreatDoorCelParse
import Derived.Test.YthnaiiejjdmnaaaGreatDoorCelChk
namespace Go.Proofs.YthnaiiejjdmnaaaGreatDoor
open Go.RowKit

theorem Reads.of_blk {w : World} {B g T n : Nat} {cs : Array Value} (h : Blk w g T cs) (hg : g < B) (hn : cs.size = n) : Reads w B 1 (some ⟨g, 0, none⟩) n cs.toList := by
  refine ⟨by simp [hn], fun _ => ⟨g, 0, rfl, hg, fun j u hu => ?_⟩⟩
  rw [h.cell]
  simpa using hu
theorem celSpeaks_1 : Cel.printR ⟨8, 0, [], [], [[97, 59, 98], [92], []]⟩ = ([115, 91, 93, 58, 97, 92, 59, 98, 59, 92, 92, 59, 59], 0) := by kernel_rfl
theorem celSpeaks_2 : Cel.parse [105, 58, 45, 55] = (⟨2, -7, [], [], []⟩, 0) := by kernel_rfl
theorem celSpeaks_3 : Cel.parse [105, 91, 93, 58, 49] = (⟨0, 0, [], [], []⟩, 220) := by kernel_rfl

set_option maxHeartbeats 8000000 in
set_option maxRecDepth 100000 in
theorem celSpeaks_any (w : World) (hL : Laid w) :
    Calls Tryz.prog 14 #[] w fun e w' => e = .returned (.bool true) ∧ Below w.heap.size w w' := by
  obtain ⟨W1, hW1⟩ : ∃ W1, w.alloc (.cells #[.string ⟨#[97, 59, 98]⟩, .string ⟨#[92]⟩, .string ⟨#[]⟩] 9) = W1 := ⟨_, rfl⟩
  have hb1 : Below w.heap.size w W1 := by rw [← hW1]; exact (Below.refl _ w).alloc (Nat.le_refl _) _
  have k1 : Blk W1 w.heap.size 9 #[.string ⟨#[97, 59, 98]⟩, .string ⟨#[92]⟩, .string ⟨#[]⟩] := by rw [← hW1]; exact Blk.new _ _ _
  have hvi : VIn W1 W1.heap.size (.agg #[.int .i64 8, .int .i64 0, .string ⟨#[]⟩, .slice none 0 0, .slice (some ⟨w.heap.size, 0, none⟩) 3 3]) ⟨8, 0, [], [], [[97, 59, 98], [92], []]⟩ :=
    ⟨⟨none, 0, some ⟨w.heap.size, 0, none⟩, 3, rfl, Reads.none_, Reads.of_blk k1 k1.lt rfl⟩, by unfold Cel.In64; decide, by unfold Cel.In64; decide, by simp, by decide, by decide, by decide, by decide⟩
  have hp := print_any W1.heap.size _ _ W1 hvi (Nat.le_refl _) (hL.below hb1)
  rw [celSpeaks_1] at hp
  have hq := fun (W : World) (hb : Below w.heap.size w W) => celParse_any ⟨#[105, 58, 45, 55]⟩ W (by decide) (hL.below hb)
  have hr := fun (W : World) (hb : Below w.heap.size w W) => celParse_any ⟨#[105, 91, 93, 58, 49]⟩ W (by decide) (hL.below hb)
  simp only at hq hr
  rw [celSpeaks_2] at hq
  rw [celSpeaks_3] at hr
  have HP := Lib.hid hp
  have HQ := Lib.hid hq
  have HRR := Lib.hid hr
  have HW1 := Lib.hid hW1
  have HB1 := Lib.hid hb1
  have hu := undef_no
  clear hp hq hr hW1 hb1 k1 hvi hL
  go_enter Tryz.func14, Tryz.ntmps14
  go_wp2_with fail
  rw [HW1.out]
  clear HW1
  refine HP.out.mono ?_
  rintro e w2 ⟨rfl, hb⟩
  have HB2 := Lib.hid (HB1.out.trans (hb.mono HB1.out.size))
  clear hb
  go_wp2_with fail
  refine (HQ.out _ HB2.out).mono ?_
  rintro e w3 ⟨u, rfl, ho, hb⟩
  obtain ⟨s, t, rfl, o1, o2⟩ := ho.ex
  obtain ⟨A1, c1, rfl⟩ := own_form o1
  obtain ⟨A2, c2, rfl⟩ := own_form o2
  have HB3 := Lib.hid (HB2.out.trans (hb.mono HB2.out.size))
  clear hb ho o1 o2
  obtain ⟨W4, hW4⟩ : ∃ W4, w3.alloc (.cells #[.int .i64 2, .int .i64 (-7), .string ⟨#[]⟩, .slice A1 0 c1, .slice A2 0 c2] 36) = W4 := ⟨_, rfl⟩
  have hb4 : Below w3.heap.size w3 W4 := by rw [← hW4]; exact (Below.refl _ w3).alloc (Nat.le_refl _) _
  have k4 : Blk W4 w3.heap.size 36 #[.int .i64 2, .int .i64 (-7), .string ⟨#[]⟩, .slice A1 0 c1, .slice A2 0 c2] := by rw [← hW4]; exact Blk.new _ _ _
  have HB4 := Lib.hid (HB3.out.trans (hb4.mono HB3.out.size))
  have HK4 := Lib.hid k4
  have HW4 := Lib.hid hW4
  clear hb4 k4 hW4
  go_upto_region 5 with fail
  rw [show w3.alloc (.cells #[.int .i64 2, .int .i64 (-7), .string ⟨#[]⟩, .slice A1 0 c1, .slice A2 0 c2] 36) = W4 from HW4.out]
  clear HW4
  go_wp2_with fail
  refine (HRR.out _ HB4.out).mono ?_
  rintro e w5 ⟨u, rfl, ho, hb⟩
  obtain ⟨s, t, rfl, o1, o2⟩ := ho.ex
  obtain ⟨A3, c3, rfl⟩ := own_form o1
  obtain ⟨A4, c4, rfl⟩ := own_form o2
  have HB5 := Lib.hid (HB4.out.trans (hb.mono HB4.out.size))
  have HK5 := Lib.hid (HK4.out.below hb HK4.out.lt)
  clear hb ho o1 o2
  obtain ⟨a0, a1, a2, a3, a4, -⟩ := val_cells (HK5.out.alloc (.cells #[.int .i64 0, .int .i64 0, .string ⟨#[]⟩, .slice A3 0 c3, .slice A4 0 c4] 36))
  go_wp2

  go_ret
  exact ⟨rfl, HB5.out.alloc HB5.out.size _⟩

theorem v0_ok : VOk Cel.V0 := ⟨by unfold Cel.In64 Cel.V0; decide, by unfold Cel.In64 Cel.V0; decide, by simp [Cel.V0], by simp [Cel.V0], by simp [Cel.V0], by simp [Cel.V0], by simp [Cel.V0]⟩
theorem parse_ok {s : List UInt8} {v : Cel.V} (hs : s.length ≤ 1073741823) (h : Cel.parse s = (v, 0)) : VOk v := by
  unfold Cel.parse at h
  split at h
  · cases h
  · rename_i k r hh
    obtain ⟨-, h1, h8⟩ := Cel.headP_some hh
    have hl := headP_len hh
    split at h
    · rename_i hne
      simp only [Prod.mk.injEq] at h
      exact absurd h.2 hne
    · rename_i hne
      split at h
      · rename_i hne2
        simp only [Prod.mk.injEq] at h
        exact absurd h.2 hne2
      · simp only [Prod.mk.injEq, and_true] at h
        rw [← h]
        exact bodyP_ok h1 h8 (by omega) (by omega)
set_option maxHeartbeats 8000000 in
set_option maxRecDepth 100000 in
theorem cellOne_any (s : ByteArray) (w : World) (hs : s.size ≤ 1073741823) (hL : Laid w) :
    Calls Tryz.prog 7 #[.string s] w fun e w' => e = .returned (.bool true) ∧ Below w.heap.size w w' := by
  have HS := Lib.hid (celSpeaks_any w hL)
  have hq := fun (W : World) (hb : Below w.heap.size w W) => celParse_any s W hs (hL.below hb)
  have hpo := fun v => parse_ok (s := s.data.toList) (v := v) (by rw [← Lib.size_eq]; omega)
  have hone := fun v => @Cel.one s.data.toList v
  have herr := fun v e => @Cel.parse_err s.data.toList v e
  obtain ⟨R, hR⟩ : ∃ R, Cel.parse s.data.toList = R := ⟨_, rfl⟩
  rw [hR] at hq hpo hone herr
  obtain ⟨v, er⟩ := R
  have HQ := Lib.hid hq
  have HPO := Lib.hid hpo
  have HONE := Lib.hid hone
  have HERR := Lib.hid herr
  have HL := Lib.hid hL
  have hu := undef_no
  clear hq hpo hone herr hR hL
  go_enter Tryz.func7, Tryz.ntmps7
  go_wp2_with fail
  refine HS.out.mono ?_
  rintro e w1 ⟨rfl, hb1⟩
  have HB1 := Lib.hid hb1
  clear hb1
  go_wp2_with fail
  refine (HQ.out _ HB1.out).mono ?_
  rintro e w2 ⟨u, rfl, ho, hb⟩
  have hok : VOk v := by
    by_cases he : er = 0
    · exact HPO.out v (by rw [he])
    · rw [HERR.out v er rfl he]; exact v0_ok
  have hvi := ho.vin hok
  obtain ⟨sl, t, rfl, o1, o2⟩ := ho.ex
  obtain ⟨A1, c1, rfl⟩ := own_form o1
  obtain ⟨A2, c2, rfl⟩ := own_form o2
  have HB2 := Lib.hid (HB1.out.trans (hb.mono HB1.out.size))
  obtain ⟨W3, hW3⟩ : ∃ W3, w2.alloc (.cells #[.int .i64 v.kind, .int .i64 v.num, .string ⟨v.text.toArray⟩, .slice A1 v.nums.length c1, .slice A2 v.texts.length c2] 36) = W3 := ⟨_, rfl⟩
  have hb3 : Below w2.heap.size w2 W3 := by rw [← hW3]; exact (Below.refl _ w2).alloc (Nat.le_refl _) _
  have k3 : Blk W3 w2.heap.size 36 #[.int .i64 v.kind, .int .i64 v.num, .string ⟨v.text.toArray⟩, .slice A1 v.nums.length c1, .slice A2 v.texts.length c2] := by rw [← hW3]; exact Blk.new _ _ _
  have HB3 := Lib.hid (HB2.out.trans (hb3.mono HB2.out.size))
  have HK3 := Lib.hid k3
  have HW3 := Lib.hid hW3
  have HVI := Lib.hid (hvi.below hb3)
  have hz3 := hb3.size
  obtain ⟨a0, a1, a2, a3, a4, -⟩ := val_cells k3
  clear hb3 k3 hW3 hvi hok ho hb o1 o2
  go_upto_region 4 with fail
  rw [HW3.out]
  clear HW3
  by_cases he : er = 0
  · subst he
    obtain ⟨q1, q2, -, -⟩ := HONE.out v rfl
    have hp := print_any w2.heap.size _ v W3 HVI.out hz3 (HL.out.below HB3.out)
    have hpr : Cel.printR v = (s.data.toList, 0) := by unfold Cel.printR; rw [if_pos q1, q2]
    have hss : (⟨s.data.toList.toArray⟩ : ByteArray) = s := by simp
    rw [hpr] at hp
    simp only [hss] at hp
    have HP := Lib.hid hp
    have Q1 := Lib.hid q1
    clear hp hpr hss q1 q2
    go_wp2_with fail
    refine HP.out.mono ?_
    rintro e w4 ⟨rfl, hb⟩
    have HB4 := Lib.hid (HB3.out.trans (hb.mono HB3.out.size))
    have HK4 := Lib.hid (HK3.out.below hb HK3.out.lt)
    have hvi4 := HVI.out.below (hb.mono hz3)
    have hc := vCheck_any w2.heap.size _ v w4 hvi4 (Nat.le_trans hz3 hb.size)
    rw [Q1.out] at hc
    have HC := Lib.hid hc
    clear a0 a1 a2 a3 a4 hb hvi4 hc
    obtain ⟨a0, a1, a2, a3, a4, -⟩ := val_cells HK4.out
    have tss : (s.toList == s.toList) = true := beq_self_eq_true _
    go_wp2_with fail
    refine HC.out.mono ?_
    rintro e w5 ⟨rfl, hb⟩
    have HB5 := Lib.hid (HB4.out.trans (hb.mono HB4.out.size))
    clear hb
    go_wp2
    go_ret
    exact ⟨rfl, HB5.out⟩
  · have hv := HERR.out v er rfl he
    have hvi2 := HVI.out
    have t9 : ((er : Int) != 0) = true := by rw [bne_iff_ne]; omega
    have hsame := vSame_any w2.heap.size _ (.agg #[.int .i64 0, .int .i64 0, .string ⟨#[]⟩, .slice none 0 0, .slice none 0 0]) v W3 hvi2 (by rw [hv]; exact ⟨⟨none, 0, none, 0, rfl, Reads.none_, Reads.none_⟩, v0_ok.kin, v0_ok.num, v0_ok.nums, v0_ok.tl, v0_ok.nl, v0_ok.sl, v0_ok.sz⟩) hz3
    have HSM := Lib.hid hsame
    clear hsame hvi2 hv he
    go_wp2_with fail
    refine HSM.out.mono ?_
    rintro e w4 ⟨rfl, hb⟩
    have HB4 := Lib.hid (HB3.out.trans (hb.mono HB3.out.size))
    clear hb
    go_wp2
    go_ret
    exact ⟨rfl, HB4.out⟩
end Go.Proofs.YthnaiiejjdmnaaaGreatDoor
