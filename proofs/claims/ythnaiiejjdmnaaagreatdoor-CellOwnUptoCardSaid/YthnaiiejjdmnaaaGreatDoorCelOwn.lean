/- Layer 22 (cell): CellOwn as a contract. -/
import Derived.Test.YthnaiiejjdmnaaaGreatDoorCelRPrint
import Derived.Test.YthnaiiejjdmnaaaGreatDoorHole
namespace Go.Proofs.YthnaiiejjdmnaaaGreatDoor
open Go.RowKit

/-- what the loops keep: the hole; the first answer's block and rows -/
structure OwnRel (M N : Nat) (W : World) (pa : Nat) (cs : Array Value) (s t : Value) (n m : Nat) (wx : World) : Prop where
  hole : Hole M N W wx
  box : Blk wx pa 36 cs
  nums : ∃ xs, wx.ownsRow M 2 1 s n xs
  texts : ∃ xs, wx.ownsRow M 9 1 t m xs
theorem own_lt {w : World} {B e sz n g : Nat} {v : Value} {xs : List Value} (h : w.ownsRow B e sz v n xs) (hg : v.ownBlock = some g) : B ≤ g ∧ g < w.heap.size := h.lt g hg
theorem own_blk {w : World} {B e n g c : Nat} {xs : List Value} (h : w.ownsRow B e 1 (.slice (some ⟨g, 0, none⟩) n c) n xs) : ∃ cs, Blk w g e cs := by
  obtain ⟨_, cs, hc⟩ := own_blocks h g rfl
  exact ⟨cs, hc⟩
/-- a store into a row of one type leaves a block and a row of another -/
theorem own_far {w : World} {B e e' sz n g k : Nat} {v u : Value} {xs : List Value} {cs : Array Value} (h : w.ownsRow B e sz v n xs) (hb : Blk w g e' cs) (hne : e' ≠ e) : (w.setCell ⟨g, k, none⟩ u).ownsRow B e sz v n xs :=
  own_kept_ty h (row := some g) (only_setCell (only_refl w (some g)) (.inl rfl) u) (fun g' c t fz e1 e2 => by
    cases e1
    have := hb.symm.trans e2
    injection this with this
    injection this with _ ht
    exact ht ▸ hne)

set_option maxHeartbeats 16000000 in
set_option maxRecDepth 100000 in
theorem cellOwn_any (u : Value) (v : Cel.V) (w : World) (h : VIn w w.heap.size u v) (hL : Laid w) :
    Calls Tryz.prog 9 #[u] w fun e w' => e = .returned (.bool true) ∧ Below w.heap.size w w' := by
  have hsm := fun (W : World) (u2 : Value) (hb : Below w.heap.size w W) (h2 : VIn W W.heap.size u2 v) => vSame_any W.heap.size u2 u v W h2 ((h.below hb).mono hb.size) (Nat.le_refl _)
  have hrp := fun (W : World) (hb : Below w.heap.size w W) => refPrint_any w.heap.size u v W (h.below hb) hb.size
  have hok := h.ok
  obtain ⟨A1, c1, A2, c2, rfl, -, -⟩ := h.ex
  obtain ⟨W1, hW1⟩ : ∃ W1, w.alloc (.cells #[.int .i64 v.kind, .int .i64 v.num, .string ⟨v.text.toArray⟩, .slice A1 v.nums.length c1, .slice A2 v.texts.length c2] 36) = W1 := ⟨_, rfl⟩
  have hb1 : Below w.heap.size w W1 := by rw [← hW1]; exact (Below.refl _ w).alloc (Nat.le_refl _) _
  have k1 : Blk W1 w.heap.size 36 #[.int .i64 v.kind, .int .i64 v.num, .string ⟨v.text.toArray⟩, .slice A1 v.nums.length c1, .slice A2 v.texts.length c2] := by rw [← hW1]; exact Blk.new _ _ _
  obtain ⟨n, hn⟩ : ∃ n, Cel.check v = n := ⟨_, rfl⟩
  have HS := Lib.hid (celSpeaks_any W1 (hL.below hb1))
  have HSM := Lib.hid hsm
  have HRP := Lib.hid hrp
  have HOK := Lib.hid hok
  have HB1 := Lib.hid hb1
  have HK1 := Lib.hid k1
  have HW1 := Lib.hid hW1
  have HN := Lib.hid hn
  have HL := Lib.hid hL
  have hu := undef_no
  clear hsm hrp hok hb1 k1 hW1 hL h hn
  go_enter Tryz.func9, Tryz.ntmps9
  go_upto_region 1 with fail
  rw [HW1.out]
  clear HW1
  go_wp2_with fail
  refine HS.out.mono ?_
  rintro e w2 ⟨rfl, hb⟩
  have HB2 := Lib.hid (HB1.out.trans (hb.mono HB1.out.size))
  have HK2 := Lib.hid (HK1.out.below hb HK1.out.lt)
  clear hb
  obtain ⟨a0, a1, a2, a3, a4, -⟩ := val_cells HK2.out
  have hrp := HRP.out _ HB2.out
  by_cases h0 : n = 0
  case neg =>
    have e0 : Cel.printR v = ([], n) := by unfold Cel.printR; rw [HN.out, if_neg h0]
    rw [e0] at hrp
    have HR := Lib.hid hrp
    have t9 : ((n : Int) != 0) = true := by rw [bne_iff_ne]; omega
    clear e0 hrp h0 HRP HSM
    go_wp2_with fail
    refine HR.out.mono ?_
    rintro e w3 ⟨rfl, hb⟩
    have HB3 := Lib.hid (HB2.out.trans (hb.mono HB2.out.size))
    clear hb a0 a1 a2 a3 a4
    go_wp2
    go_ret
    exact ⟨rfl, HB3.out⟩
  subst h0
  have e0 : Cel.printR v = (Cel.print v, 0) := by unfold Cel.printR; rw [if_pos HN.out]
  rw [e0] at hrp
  have hlen := cel_print_len HN.out HOK.out.num HOK.out.nums
  have hth := Cel.there HN.out HOK.out.num HOK.out.nums
  obtain ⟨z, hz⟩ : ∃ z : ByteArray, (⟨(Cel.print v).toArray⟩ : ByteArray) = z := ⟨_, rfl⟩
  have hzs : z.size ≤ 1073741823 := by rw [← hz, size_list]; omega
  have hzd : z.data.toList = Cel.print v := by rw [← hz]
  have hq := fun (W : World) (hb : Below w.heap.size w W) => celParse_any z W hzs (HL.out.below hb)
  rw [hzd, hth] at hq
  rw [hz] at hrp
  obtain ⟨-, -, -, hn40, ht40, -, -, -⟩ := Cel.check_parts HN.out
  have HR := Lib.hid hrp
  have HQ := Lib.hid hq
  clear e0 hrp hlen hth hz hzs hzd hq HRP HN
  go_wp2_with fail
  refine HR.out.mono ?_
  rintro e w3 ⟨rfl, hb⟩
  have HB3 := Lib.hid (HB2.out.trans (hb.mono HB2.out.size))
  have HK3 := Lib.hid (HK2.out.below hb HK2.out.lt)
  clear hb a0 a1 a2 a3 a4 HR
  go_wp2_with fail
  refine (HQ.out _ HB3.out).mono ?_
  rintro e w4 ⟨u1, rfl, ho, hb⟩
  have HB34 := Lib.hid hb
  obtain ⟨s, t, rfl, o1, o2⟩ := ho.ex
  obtain ⟨A3, c3, rfl⟩ := own_form o1
  obtain ⟨A4, c4, rfl⟩ := own_form o2
  obtain ⟨nn, hnn⟩ : ∃ n, v.nums.length = n := ⟨_, rfl⟩
  obtain ⟨tn, htn⟩ : ∃ n, v.texts.length = n := ⟨_, rfl⟩
  rw [hnn] at o1 hn40 ⊢
  rw [htn] at o2 ht40 ⊢
  obtain ⟨W5, hW5⟩ : ∃ W5, w4.alloc (.cells #[.int .i64 v.kind, .int .i64 v.num, .string ⟨v.text.toArray⟩, .slice A3 nn c3, .slice A4 tn c4] 36) = W5 := ⟨_, rfl⟩
  have hb5 : Below w4.heap.size w4 W5 := by rw [← hW5]; exact (Below.refl _ w4).alloc (Nat.le_refl _) _
  have k5 : Blk W5 w4.heap.size 36 #[.int .i64 v.kind, .int .i64 v.num, .string ⟨v.text.toArray⟩, .slice A3 nn c3, .slice A4 tn c4] := by rw [← hW5]; exact Blk.new _ _ _
  have HO1 := Lib.hid (own_kept_ty o1 (only_of_below hb5 none) (fun g c t fz hr => by cases hr))
  have HO2 := Lib.hid (own_kept_ty o2 (only_of_below hb5 none) (fun g c t fz hr => by cases hr))
  have HB35 := Lib.hid (hb.trans (hb5.mono hb.size))
  have HK5 := Lib.hid k5
  have HW5 := Lib.hid hW5
  have HNN := Lib.hid hnn
  have HTN := Lib.hid htn
  have hz34 := hb.size
  clear hb o1 o2 hb5 k5 hW5 ho hnn htn
  go_upto_region 7 with fail
  rw [HW5.out]
  clear HW5
  go_wp2_with fail
  refine (HQ.out _ (HB3.out.trans (HB35.out.mono HB3.out.size))).mono ?_
  rintro e w6 ⟨u2, rfl, ho, hb⟩
  obtain ⟨s, t, rfl, o1, o2⟩ := ho.ex
  obtain ⟨A5, c5, rfl⟩ := own_form o1
  obtain ⟨A6, c6, rfl⟩ := own_form o2
  obtain ⟨W7, hW7⟩ : ∃ W7, w6.alloc (.cells #[.int .i64 v.kind, .int .i64 v.num, .string ⟨v.text.toArray⟩, .slice A5 v.nums.length c5, .slice A6 v.texts.length c6] 36) = W7 := ⟨_, rfl⟩
  have hb7 : Below w6.heap.size w6 W7 := by rw [← hW7]; exact (Below.refl _ w6).alloc (Nat.le_refl _) _
  have k7 : Blk W7 w6.heap.size 36 #[.int .i64 v.kind, .int .i64 v.num, .string ⟨v.text.toArray⟩, .slice A5 v.nums.length c5, .slice A6 v.texts.length c6] := by rw [← hW7]; exact Blk.new _ _ _
  have hb57 : Below W5.heap.size W5 W7 := hb.trans (hb7.mono hb.size)
  have HO := Lib.hid (ho.below hb7)
  have HK7 := Lib.hid k7
  have HW7 := Lib.hid hW7
  have HB37 := Lib.hid (HB35.out.trans (hb57.mono HB35.out.size))
  have hrel : OwnRel w3.heap.size W5.heap.size W7 w4.heap.size #[.int .i64 v.kind, .int .i64 v.num, .string ⟨v.text.toArray⟩, .slice A3 nn c3, .slice A4 tn c4] (.slice A3 nn c3) (.slice A4 tn c4) nn tn W7 :=
    ⟨Hole.refl _ _ _, HK5.out.below hb57 HK5.out.lt, ⟨_, own_kept_ty HO1.out (only_of_below hb57 none) (fun g c t fz hr => by cases hr)⟩, ⟨_, own_kept_ty HO2.out (only_of_below hb57 none) (fun g c t fz hr => by cases hr)⟩⟩
  have hN57 := hb57.size
  have hN6 : W5.heap.size ≤ w6.heap.size := hb.size
  have hpa : w4.heap.size < W5.heap.size := HK5.out.lt
  have HREL := Lib.hid hrel
  have HGA : Hid (∀ g, (Value.slice A3 nn c3).ownBlock = some g → w3.heap.size ≤ g ∧ g < W5.heap.size) := fun g e => own_lt HO1.out e
  have HGT : Hid (∀ g, (Value.slice A4 tn c4).ownBlock = some g → w3.heap.size ≤ g ∧ g < W5.heap.size) := fun g e => own_lt HO2.out e
  clear hb o1 o2 hb7 k7 hW7 hb57 ho hrel HO1 HO2 HK5
  go_upto_region 8 with fail
  rw [HW7.out]
  clear HW7
  obtain ⟨a0, a1, a2, a3, a4, -⟩ := val_cells HREL.out.box
  go_wp2_with fail
  clear a0 a1 a2 a3 a4
  have hn40' : (nn : Int) ≤ 40 := by omega
  have ht40' : (tn : Int) ≤ 40 := by omega
  go_loopg [33] nn (fun g x wx => ∃ k : Nat, x = .int .i64 k ∧ k + g = nn ∧ OwnRel w3.heap.size W5.heap.size W7 w4.heap.size #[.int .i64 v.kind, .int .i64 v.num, .string ⟨v.text.toArray⟩, .slice A3 nn c3, .slice A4 tn c4] (.slice A3 nn c3) (.slice A4 tn c4) nn tn wx)
  case atStart => exact ⟨0, rfl, by omega, HREL.out⟩
  case round =>
    clear HREL
    obtain ⟨k, rfl, hk, hrel⟩ := hrel
    have HQR := Lib.hid hrel
    have HKG := Lib.hid hk
    obtain ⟨a0, a1, a2, a3, a4, -⟩ := val_cells hrel.box
    clear hrel
    cases gk with
    | zero =>
      obtain rfl : k = nn := by omega
      clear hk
      go_wp2_with fail
      clear a0 a1 a2 a3 a4
      go_loopg [44] tn (fun g x wx => ∃ j : Nat, x = .int .i64 j ∧ j + g = tn ∧ OwnRel w3.heap.size W5.heap.size W7 w4.heap.size #[.int .i64 v.kind, .int .i64 v.num, .string ⟨v.text.toArray⟩, .slice A3 k c3, .slice A4 tn c4] (.slice A3 k c3) (.slice A4 tn c4) k tn wx)
      case atStart => exact ⟨0, rfl, by omega, HQR.out⟩
      case round =>
        clear HQR
        obtain ⟨j, rfl, hj, hrel⟩ := hrel
        have HQR := Lib.hid hrel
        have HJG := Lib.hid hj
        obtain ⟨a0, a1, a2, a3, a4, -⟩ := val_cells hrel.box
        have hzw := hrel.hole.size
        clear hrel
        cases gk with
        | zero =>
          obtain rfl : j = tn := by omega
          clear hj
          obtain ⟨xs, hxs⟩ := HQR.out.nums
          obtain ⟨ys, hys⟩ := HQR.out.texts
          have HX := Lib.hid hxs
          have HY := Lib.hid hys
          have hMw : w3.heap.size ≤ wr.heap.size := by omega
          clear hxs hys
          go_wp2_with (at_builtin; refine wpList_append_cells rfl (.tmp 53) (.tmp 54) 33 2 (.int .i64 0) 8 Tryz.underlying33 info_int64 rfl (by decide) rfl w3.heap.size (.slice A3 k c3) k xs wr rfl HX.out [.int .i64 (-9), .int .i64 (-9)] 2 rfl (by simp [Value.oneCell']) rfl (by omega) hMw ?_)
          intro v8 w8 ho8 hg8 hb8
          obtain ⟨A8, c8, rfl⟩ := own_form ho8
          have k8 := HQR.out.box.grown hg8 (fun e => own_blk_ne HX.out HQR.out.box (by decide) e.symm)
          obtain ⟨b0, b1, b2, b3, b4, f0, f1, f2, f3, f4⟩ := val_cells k8
          obtain ⟨W9, hW9⟩ : ∃ W, w8.setCell ⟨w4.heap.size, 3, none⟩ (.slice A8 (k + 2) c8) = W := ⟨_, rfl⟩
          have hole9 : Hole w3.heap.size W5.heap.size W7 W9 := by rw [← hW9]; exact (HQR.out.hole.grown hg8 (fun g e => .inl (HGA.out g e))).set ⟨hz34, hpa⟩ _
          have k9 : Blk W9 w4.heap.size 36 #[.int .i64 v.kind, .int .i64 v.num, .string ⟨v.text.toArray⟩, .slice A8 (k + 2) c8, .slice A4 j c4] := by rw [← hW9]; exact Blk.cast (k8.set_ 3 _) (by simp)
          have hy8 := own_kept_ty HY.out hg8 (fun g c t fz e1 e2 => by
            obtain ⟨_, cs, hc⟩ := own_blocks HX.out g e1
            have := hc.symm.trans e2
            injection this with this
            injection this with _ ht
            exact ht ▸ (by decide))
          have hy9 : W9.ownsRow w3.heap.size 9 1 (.slice A4 j c4) j ys := by rw [← hW9]; exact own_far hy8 k8 (by decide)
          have HH9 := Lib.hid hole9
          have HK9 := Lib.hid k9
          have HY9 := Lib.hid hy9
          have HW9 := Lib.hid hW9
          have hM9 : w3.heap.size ≤ W9.heap.size := by have := hole9.size; omega
          clear ho8 hg8 hb8 k8 hole9 k9 hy8 hy9 hW9 a0 a1 a2 a3 a4
          go_upto_region 19 with fail
          rw [HW9.out]
          clear HW9 b0 b1 b2 b3 b4 f0 f1 f2 f3 f4
          obtain ⟨a0, a1, a2, a3, a4, -⟩ := val_cells HK9.out
          go_wp2_with (at_builtin; refine wpList_append_cells rfl (.tmp 58) (.tmp 59) 34 9 (.string ⟨#[]⟩) 16 Tryz.underlying34 info_str rfl (by decide) rfl w3.heap.size (.slice A4 j c4) j ys W9 rfl HY9.out [.string ⟨#[42]⟩, .string ⟨#[42]⟩] 2 rfl (by simp [Value.oneCell']) rfl (by omega) hM9 ?_)
          intro v10 w10 ho10 hg10 hb10
          obtain ⟨A10, c10, rfl⟩ := own_form ho10
          have k10 := HK9.out.grown hg10 (fun e => own_blk_ne HY9.out HK9.out (by decide) e.symm)
          obtain ⟨b0, b1, b2, b3, b4, f0, f1, f2, f3, f4⟩ := val_cells k10
          obtain ⟨W11, hW11⟩ : ∃ W, w10.setCell ⟨w4.heap.size, 4, none⟩ (.slice A10 (j + 2) c10) = W := ⟨_, rfl⟩
          have hole11 : Hole w3.heap.size W5.heap.size W7 W11 := by rw [← hW11]; exact (HH9.out.grown hg10 (fun g e => .inl (HGT.out g e))).set ⟨hz34, hpa⟩ _
          have HH11 := Lib.hid hole11
          have HW11 := Lib.hid hW11
          clear ho10 hg10 hb10 k10 hole11 hW11 a0 a1 a2 a3 a4
          go_upto_region 20 with fail
          rw [HW11.out]
          clear HW11 b0 b1 b2 b3 b4 f0 f1 f2 f3 f4
          have hb37 := HB37.out
          have hb3 : Below w3.heap.size w3 W11 := HB37.out.trans (HH11.out.below (Nat.le_trans (Nat.le_trans hz34 (Nat.le_of_lt hpa)) hN57))
          have HBF := Lib.hid (HB3.out.trans (hb3.mono HB3.out.size))
          obtain ⟨a0, a1, a2, a3, a4, -⟩ := val_cells (HK3.out.below hb3 HK3.out.lt)
          obtain ⟨b0, b1, b2, b3, b4, -⟩ := val_cells (HH11.out.blk HK7.out hN6)
          obtain ⟨s, t, he, o1, o2⟩ := HO.out.ex
          have hvo : VOwn W11 W5.heap.size (.agg #[.int .i64 v.kind, .int .i64 v.num, .string ⟨v.text.toArray⟩, .slice A5 v.nums.length c5, .slice A6 v.texts.length c6]) v := ⟨s, t, he, HH11.out.own o1 (Nat.le_refl _), HH11.out.own o2 (Nat.le_refl _)⟩
          have HSS := Lib.hid (HSM.out W11 _ HBF.out (hvo.vin HOK.out))
          clear hb37 hb3 he o1 o2 hvo HSM HQ
          go_wp2_with fail
          refine HSS.out.mono ?_
          rintro e w12 ⟨rfl, hb⟩
          have HB12 := Lib.hid (HBF.out.trans (hb.mono HBF.out.size))
          clear hb
          go_wp2
          go_ret
          exact ⟨rfl, HB12.out⟩
        | succ g =>
          have hlt : j < tn := by omega
          have hlti : (j : Int) < tn := by omega
          obtain ⟨xs, hxs⟩ := HQR.out.texts
          obtain ⟨q, u0, rfl, hq, hc, hf, hset⟩ := own_set hxs hlt
          obtain ⟨ys, hys⟩ := hset (.string ⟨#[42]⟩)
          obtain ⟨cs, hcs⟩ := own_blk hxs
          obtain ⟨zs, hzs⟩ := HQR.out.nums
          have hr : OwnRel w3.heap.size W5.heap.size W7 w4.heap.size #[.int .i64 v.kind, .int .i64 v.num, .string ⟨v.text.toArray⟩, .slice A3 k c3, .slice (some ⟨q, 0, none⟩) tn c4] (.slice A3 k c3) (.slice (some ⟨q, 0, none⟩) tn c4) k tn (wr.setCell ⟨q, j, none⟩ (.string ⟨#[42]⟩)) :=
            ⟨HQR.out.hole.set (HGT.out q rfl) _, HQR.out.box.far (fun e => HQR.out.box.ne_ hcs (by decide) e) _, ⟨zs, own_far hzs hcs (by decide)⟩, ⟨ys, hys⟩⟩
          have HRR := Lib.hid hr
          clear hxs hset hys hcs hzs hr hj
          go_wp2
          go_roundg g
          case measure => omega
          case rel => exact ⟨j + 1, int_eq' (by omega), by have := HJG.out; omega, HRR.out⟩
    | succ g =>
      have hlt : k < nn := by omega
      have hlti : (k : Int) < nn := by omega
      obtain ⟨xs, hxs⟩ := HQR.out.nums
      obtain ⟨q, u0, rfl, hq, hc, hf, hset⟩ := own_set hxs hlt
      obtain ⟨ys, hys⟩ := hset (.int .i64 (-9))
      obtain ⟨cs, hcs⟩ := own_blk hxs
      obtain ⟨zs, hzs⟩ := HQR.out.texts
      have hr : OwnRel w3.heap.size W5.heap.size W7 w4.heap.size #[.int .i64 v.kind, .int .i64 v.num, .string ⟨v.text.toArray⟩, .slice (some ⟨q, 0, none⟩) nn c3, .slice A4 tn c4] (.slice (some ⟨q, 0, none⟩) nn c3) (.slice A4 tn c4) nn tn (wr.setCell ⟨q, k, none⟩ (.int .i64 (-9))) :=
        ⟨HQR.out.hole.set (HGA.out q rfl) _, HQR.out.box.far (fun e => HQR.out.box.ne_ hcs (by decide) e) _, ⟨ys, hys⟩, ⟨zs, own_far hzs hcs (by decide)⟩⟩
      have HRR := Lib.hid hr
      clear hxs hset hys hcs hzs hr hk
      go_wp2
      go_roundg g
      case measure => omega
      case rel => exact ⟨k + 1, int_eq' (by omega), by have := HKG.out; omega, HRR.out⟩
end Go.Proofs.YthnaiiejjdmnaaaGreatDoor
