/- Layer 22 (cell): CellThere as a contract. -/
import Derived.Test.YthnaiiejjdmnaaaGreatDoorCelLaws
import Derived.Test.YthnaiiejjdmnaaaGreatDoorCelGrow
import Derived.Test.YthnaiiejjdmnaaaGreatDoorCelCopy
namespace Go.Proofs.YthnaiiejjdmnaaaGreatDoor
open Go.RowKit

theorem VIn.mono {W : World} {B B' : Nat} {u : Value} {v : Cel.V} (h : VIn W B u v) (hB : B ≤ B') : VIn W B' u v := by
  obtain ⟨An, cn, At, ct, e, h1, h2⟩ := h.ex
  exact ⟨⟨An, cn, At, ct, e, h1.more hB, h2.more hB⟩, h.kin, h.num, h.nums, h.tl, h.nl, h.sl, h.sz⟩
set_option maxHeartbeats 8000000 in
set_option maxRecDepth 100000 in
theorem cellThere_any (u : Value) (v : Cel.V) (w : World) (h : VIn w w.heap.size u v) (hL : Laid w) :
    Calls Tryz.prog 6 #[u] w fun e w' => e = .returned (.bool true) ∧ Below w.heap.size w w' := by
  have hch := fun (W : World) (hb : Below w.heap.size w W) => vCheck_any w.heap.size u v W (h.below hb) hb.size
  have hcp := fun (W : World) (hb : Below w.heap.size w W) => vCopy_any w.heap.size u v W (h.below hb) hb.size
  have hsm := fun (W : World) (u2 : Value) (hb : Below w.heap.size w W) (h2 : VIn W W.heap.size u2 v) => vSame_any W.heap.size u u2 v W ((h.below hb).mono hb.size) h2 (Nat.le_refl _)
  have hok := h.ok
  obtain ⟨A1, c1, A2, c2, rfl, -, -⟩ := h.ex
  obtain ⟨W1, hW1⟩ : ∃ W1, w.alloc (.cells #[.int .i64 v.kind, .int .i64 v.num, .string ⟨v.text.toArray⟩, .slice A1 v.nums.length c1, .slice A2 v.texts.length c2] 36) = W1 := ⟨_, rfl⟩
  have hb1 : Below w.heap.size w W1 := by rw [← hW1]; exact (Below.refl _ w).alloc (Nat.le_refl _) _
  have k1 : Blk W1 w.heap.size 36 #[.int .i64 v.kind, .int .i64 v.num, .string ⟨v.text.toArray⟩, .slice A1 v.nums.length c1, .slice A2 v.texts.length c2] := by rw [← hW1]; exact Blk.new _ _ _
  have HS := Lib.hid (celSpeaks_any W1 (hL.below hb1))
  have HCH := Lib.hid hch
  have HCP := Lib.hid hcp
  have HSM := Lib.hid hsm
  have HOK := Lib.hid hok
  have HB1 := Lib.hid hb1
  have HK1 := Lib.hid k1
  have HW1 := Lib.hid hW1
  have HL := Lib.hid hL
  have hu := undef_no
  clear hch hcp hsm hok hb1 k1 hW1 hL h
  go_enter Tryz.func6, Tryz.ntmps6
  go_upto_region 1 with fail
  rw [HW1.out]
  clear HW1
  go_wp2_with fail
  refine HS.out.mono ?_
  rintro e w2 ⟨rfl, hb⟩
  have HB2 := Lib.hid (HB1.out.trans (hb.mono HB1.out.size))
  have HK2 := Lib.hid (HK1.out.below hb HK1.out.lt)
  clear hb
  obtain ⟨a0, a1, a2, a3, a4, -⟩ := val_cells HK2.out
  go_wp2_with fail
  refine (HCH.out _ HB2.out).mono ?_
  rintro e w3 ⟨rfl, hb⟩
  have HB3 := Lib.hid (HB2.out.trans (hb.mono HB2.out.size))
  have HK3 := Lib.hid (HK2.out.below hb HK2.out.lt)
  clear hb a0 a1 a2 a3 a4
  obtain ⟨c, hc⟩ : ∃ c, Cel.check v = c := ⟨_, rfl⟩
  rw [hc]
  by_cases h0 : c = 0
  · subst h0
    obtain ⟨a0, a1, a2, a3, a4, -⟩ := val_cells HK3.out
    have HC := Lib.hid hc
    clear hc
    go_wp2_with fail
    refine (HCP.out _ HB3.out).mono ?_
    rintro e w4 ⟨u', rfl, ho, hb⟩
    have HB4 := Lib.hid (HB3.out.trans (hb.mono HB3.out.size))
    have HK4 := Lib.hid (HK3.out.below hb HK3.out.lt)
    have hpr : Cel.printR v = (Cel.print v, 0) := by unfold Cel.printR; rw [if_pos HC.out]
    have hlen := cel_print_len HC.out HOK.out.num HOK.out.nums
    have hth := Cel.there HC.out HOK.out.num HOK.out.nums
    have hp := print_any w4.heap.size u' v w4 (ho.vin HOK.out) (Nat.le_refl _) (HL.out.below HB4.out)
    rw [hpr] at hp
    obtain ⟨s, t, rfl, o1, o2⟩ := ho.ex
    obtain ⟨A3, c3, rfl⟩ := own_form o1
    obtain ⟨A4, c4, rfl⟩ := own_form o2
    obtain ⟨z, hz⟩ : ∃ z : ByteArray, (⟨(Cel.print v).toArray⟩ : ByteArray) = z := ⟨_, rfl⟩
    have hzs : z.size ≤ 1073741823 := by rw [← hz, size_list]; omega
    have hzd : z.data.toList = Cel.print v := by rw [← hz]
    rw [hz] at hp
    have hq := fun (W : World) (hb : Below w.heap.size w W) => celParse_any z W hzs (HL.out.below hb)
    rw [hzd, hth] at hq
    have HP := Lib.hid hp
    have HQ := Lib.hid hq
    clear hb a0 a1 a2 a3 a4 hp hq hz hzs hzd hth hlen hpr ho o1 o2
    go_wp2_with fail
    refine HP.out.mono ?_
    rintro e w5 ⟨rfl, hb⟩
    have HB5 := Lib.hid (HB4.out.trans (hb.mono HB4.out.size))
    have HK5 := Lib.hid (HK4.out.below hb HK4.out.lt)
    clear hb
    go_wp2_with fail
    refine (HQ.out _ HB5.out).mono ?_
    rintro e w6 ⟨u2, rfl, ho, hb⟩
    have HB6 := Lib.hid (HB5.out.trans (hb.mono HB5.out.size))
    have HK6 := Lib.hid (HK5.out.below hb HK5.out.lt)
    have hvi := ho.vin HOK.out
    obtain ⟨s, t, rfl, o1, o2⟩ := ho.ex
    obtain ⟨A5, c5, rfl⟩ := own_form o1
    obtain ⟨A6, c6, rfl⟩ := own_form o2
    obtain ⟨W7, hW7⟩ : ∃ W7, w6.alloc (.cells #[.int .i64 v.kind, .int .i64 v.num, .string ⟨v.text.toArray⟩, .slice A5 v.nums.length c5, .slice A6 v.texts.length c6] 36) = W7 := ⟨_, rfl⟩
    have hb7 : Below w6.heap.size w6 W7 := by rw [← hW7]; exact (Below.refl _ w6).alloc (Nat.le_refl _) _
    have k7 : Blk W7 w6.heap.size 36 #[.int .i64 v.kind, .int .i64 v.num, .string ⟨v.text.toArray⟩, .slice A5 v.nums.length c5, .slice A6 v.texts.length c6] := by rw [← hW7]; exact Blk.new _ _ _
    have HB7 := Lib.hid (HB6.out.trans (hb7.mono HB6.out.size))
    have hs := HSM.out W7 _ HB7.out ((hvi.below hb7).mono hb7.size)
    obtain ⟨a0, a1, a2, a3, a4, -⟩ := val_cells (HK6.out.below hb7 HK6.out.lt)
    obtain ⟨b0, b1, b2, b3, b4, -⟩ := val_cells k7
    have HSS := Lib.hid hs
    have HW7 := Lib.hid hW7
    clear hb ho o1 o2 hvi hs hW7 hb7 k7 HSM HCP HCH
    go_upto_region 9 with fail
    rw [HW7.out]
    clear HW7
    go_wp2_with fail
    refine HSS.out.mono ?_
    rintro e w8 ⟨rfl, hb⟩
    have HB8 := Lib.hid (HB7.out.trans (hb.mono HB7.out.size))
    clear hb
    go_wp2
    go_ret
    exact ⟨rfl, HB8.out⟩
  · have t9 : ((c : Int) != 0) = true := by rw [bne_iff_ne]; omega
    clear h0 hc HCH HCP HSM
    go_wp2
    go_ret
    exact ⟨rfl, HB3.out⟩
end Go.Proofs.YthnaiiejjdmnaaaGreatDoor
