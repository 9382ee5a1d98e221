/- Layer 22 (cell): how long a form is and how it grows; CellThere as a contract. -/
import Derived.Test.YthnaiiejjdmnaaaGreatDoorCelPrint
import Derived.Test.YthnaiiejjdmnaaaGreatDoorCelLaws
import Derived.Test.YthnaiiejjdmnaaaGreatDoorCelCopy
namespace Go.Proofs.YthnaiiejjdmnaaaGreatDoor
open Go.RowKit

theorem flat_len {α : Type} {f : α → List UInt8} {c : Nat} : ∀ {l : List α}, (∀ x ∈ l, (f x).length ≤ c) → (l.flatMap f).length ≤ c * l.length
  | [], _ => by simp
  | a :: l, h => by
    have h1 := h a (by simp)
    have h2 := flat_len (l := l) (f := f) (c := c) fun x hx => h x (by simp [hx])
    rw [List.flatMap_cons, List.length_append, List.length_cons, Nat.mul_add]
    omega
theorem cel_print_len {v : Cel.V} (h : Cel.check v = 0) (hn : Cel.In64 v.num) (hns : ∀ n ∈ v.nums, Cel.In64 n) : (Cel.print v).length ≤ 100000 := by
  obtain ⟨-, -, -, h1, h2, h3, h4, -⟩ := Cel.check_parts h
  have e1 : (Cel.letter v.kind).length ≤ 3 := by unfold Cel.letter; split <;> simp
  have e2 : (if v.kind < 4 then Cel.numS v.kind v.num else []).length ≤ 24 := by
    split
    · exact numS_len _ _ hn
    · simp
  have e3 := flat_len (f := Cel.numE (v.kind - 4)) (c := 25) (l := v.nums) fun n hn => by
    have := numS_len (v.kind - 4) n (hns n hn)
    unfold Cel.numE
    rw [List.length_append, List.length_singleton]
    omega
  have e4 := flat_len (f := Cel.textE) (c := 2001) (l := v.texts) fun t ht => by
    have := escT_len t
    have := longs_all h4 t ht
    unfold Cel.textE
    rw [List.length_append, List.length_singleton]
    omega
  have e5 : 25 * v.nums.length ≤ 25 * 40 := Nat.mul_le_mul_left _ h1
  have e6 : 2001 * v.texts.length ≤ 2001 * 40 := Nat.mul_le_mul_left _ h2
  unfold Cel.print
  simp only [List.length_append, List.length_singleton]
  omega
theorem printR_len {v : Cel.V} (hn : Cel.In64 v.num) (hns : ∀ n ∈ v.nums, Cel.In64 n) : (Cel.printR v).1.length ≤ 100000 := by
  unfold Cel.printR
  split
  · exact cel_print_len (by assumption) hn hns
  · simp
theorem numsWrong_app (k x : Int) : ∀ {l : List Int}, Cel.numsWrong k l = 0 → Cel.numsWrong k (l ++ [x]) = Cel.numWrong k x
  | [], _ => by
    simp only [List.nil_append, Cel.numsWrong]
    split
    · rfl
    · omega
  | a :: l, h => by
    have := Cel.numsWrong_cons h
    rw [List.cons_append]
    unfold Cel.numsWrong
    rw [if_neg (by omega)]
    exact numsWrong_app k x this.2
/-- how the list of numbers grows -/
theorem grow_num {k n : Int} {t : List UInt8} {ns : List Int} {ts : List (List UInt8)} (x : Int) (hc : Cel.check ⟨k, n, t, ns, ts⟩ = 0) (h5 : 5 ≤ k) (h8 : k < 8) (hl : ns.length + ts.length < 40) :
    Cel.check ⟨k, n, t, ns ++ [x], ts⟩ = Cel.check ⟨k, 0, [], [x], []⟩ ∧ Cel.print ⟨k, n, t, ns ++ [x], ts⟩ = Cel.print ⟨k, n, t, ns, ts⟩ ++ (Cel.print ⟨k, 0, [], [x], []⟩).drop 4 ∧ 4 < (Cel.print ⟨k, 0, [], [x], []⟩).length := by
  obtain ⟨-, -, hu, h1, h2, h3, h4, hw⟩ := Cel.check_parts hc
  simp only at hu h1 h2 h3 h4 hw
  unfold Cel.Unused at hu
  simp only [not_or] at hu
  obtain ⟨u1, u2, u3, u4⟩ := hu
  simp only [not_and, Decidable.not_not] at u1 u2 u4
  have e1 : n = 0 := by
    apply Decidable.not_not.1; intro e; exact u1 e (by omega)
  have e2 : t = [] := by
    apply Decidable.not_not.1; intro e; have := u2 e; omega
  have e4 : ts = [] := by
    apply Decidable.not_not.1; intro e; have := u4 e; omega
  subst e1 e2 e4
  rw [if_neg (by omega)] at hw
  have a1 := numsWrong_app (k - 4) x hw
  have a2 : Cel.numsWrong (k - 4) [x] = Cel.numWrong (k - 4) x := numsWrong_app (k - 4) x (l := []) rfl
  have hun : ∀ l : List Int, ¬ Cel.Unused ⟨k, 0, [], l, []⟩ := fun l => by
    unfold Cel.Unused
    simp only [ne_eq, not_true_eq_false, false_and, false_or, or_false, not_and]
    intro _ h
    omega
  simp only [List.length_nil, Nat.add_zero] at hl
  refine ⟨?_, ?_, ?_⟩
  · unfold Cel.check
    dsimp only
    rw [if_neg (by omega), if_neg (hun _), if_neg (by simp; omega), if_neg (by simp [Cel.longs]), if_neg (by omega), if_neg (by omega), if_neg (hun _), if_neg (by simp), if_neg (by simp [Cel.longs]), if_neg (by omega), a1, a2]
  · unfold Cel.print Cel.letter
    dsimp only
    rw [if_pos (by omega), if_neg (by omega)]
    simp
  · unfold Cel.print Cel.letter Cel.numE
    dsimp only
    rw [if_pos (by omega), if_neg (by omega)]
    simp
/-- how the list of texts grows -/
theorem grow_text {k n : Int} {t : List UInt8} {ns : List Int} {ts : List (List UInt8)} (x : List UInt8) (hc : Cel.check ⟨k, n, t, ns, ts⟩ = 0) (h8 : k = 8) (hl : ns.length + ts.length < 40) :
    Cel.check ⟨k, n, t, ns, ts ++ [x]⟩ = Cel.check ⟨k, 0, [], [], [x]⟩ ∧ Cel.print ⟨k, n, t, ns, ts ++ [x]⟩ = Cel.print ⟨k, n, t, ns, ts⟩ ++ (Cel.print ⟨k, 0, [], [], [x]⟩).drop 4 ∧ 4 < (Cel.print ⟨k, 0, [], [], [x]⟩).length := by
  subst h8
  obtain ⟨-, -, hu, h1, h2, h3, h4, hw⟩ := Cel.check_parts hc
  simp only at hu h1 h2 h3 h4 hw
  unfold Cel.Unused at hu
  simp only [not_or] at hu
  obtain ⟨u1, u2, u3, u4⟩ := hu
  simp only [not_and, Decidable.not_not] at u1 u2
  have e1 : n = 0 := by
    apply Decidable.not_not.1; intro e; exact u1 e (by omega)
  have e2 : t = [] := by
    apply Decidable.not_not.1; intro e; have := u2 e; omega
  have e3 : ns = [] := by
    apply Decidable.not_not.1; intro e; exact u3 ⟨e, .inr trivial⟩
  subst e1 e2 e3
  have hun : ∀ l : List (List UInt8), ¬ Cel.Unused ⟨8, 0, [], [], l⟩ := fun l => by
    unfold Cel.Unused
    simp
  have hlong : Cel.longs (ts ++ [x]) = Cel.longs [x] := by
    unfold Cel.longs at h4 ⊢
    rw [List.any_append, h4, Bool.false_or]
  simp only [List.length_nil, Nat.zero_add] at hl
  refine ⟨?_, ?_, ?_⟩
  · have ha : ∀ l : List (List UInt8), l.length ≤ 40 → Cel.check ⟨8, 0, [], [], l⟩ = if Cel.longs l = true then 44 else 0 := fun l hl => by
      unfold Cel.check
      dsimp only
      rw [if_neg (by omega), if_neg (hun _), if_neg (by simp; omega)]
      by_cases hb : Cel.longs l = true
      · rw [if_pos (.inr hb), if_pos hb]
      · rw [if_neg (by simp [hb]), if_neg hb]
        rfl
    rw [ha _ (by simp; omega), ha _ (by simp), hlong]
  · unfold Cel.print Cel.letter
    dsimp only
    rw [if_pos (by omega), if_neg (by omega)]
    simp
  · unfold Cel.print Cel.letter Cel.textE
    dsimp only
    rw [if_pos (by omega), if_neg (by omega)]
    simp

theorem VIn.mono {W : World} {B B' : Nat} {u : Value} {v : Cel.V} (h : VIn W B u v) (hB : B ≤ B') : VIn W B' u v := by
  obtain ⟨An, cn, At, ct, e, h1, h2⟩ := h.ex
  exact ⟨⟨An, cn, At, ct, e, h1.more hB, h2.more hB⟩, h.kin, h.num, h.nums, h.tl, h.nl, h.sl, h.sz⟩
set_option maxHeartbeats 8000000 in
set_option maxRecDepth 100000 in
theorem cellThere_any (u : Value) (v : Cel.V) (w : World) (h : VIn w w.heap.size u v) (hL : Laid w) :
    Calls Tryz.prog 6 #[u] w fun e w' => e = .returned (.bool true) ∧ Below w.heap.size w w' := by
  have hch := fun (W : World) (hb : Below w.heap.size w W) => vCheck_any w.heap.size u v W (h.below hb) hb.size
  have hcp := fun (W : World) (hb : Below w.heap.size w W) => vCopy_any w.heap.size u v W (h.below hb) hb.size
  have hsm := fun (W : World) (u2 : Value) (hb : Below w.heap.size w W) (h2 : VIn W W.heap.size u2 v) => vSame_any W.heap.size u u2 v W ((h.below hb).mono hb.size) h2 (Nat.le_refl _)
  have hok := h.ok
  obtain ⟨A1, c1, A2, c2, rfl, -, -⟩ := h.ex
  obtain ⟨W1, hW1⟩ : ∃ W1, w.alloc (.cells #[.int .i64 v.kind, .int .i64 v.num, .string ⟨v.text.toArray⟩, .slice A1 v.nums.length c1, .slice A2 v.texts.length c2] 36) = W1 := ⟨_, rfl⟩
  have hb1 : Below w.heap.size w W1 := by rw [← hW1]; exact (Below.refl _ w).alloc (Nat.le_refl _) _
  have k1 : Blk W1 w.heap.size 36 #[.int .i64 v.kind, .int .i64 v.num, .string ⟨v.text.toArray⟩, .slice A1 v.nums.length c1, .slice A2 v.texts.length c2] := by rw [← hW1]; exact Blk.new _ _ _
  have HS := Lib.hid (celSpeaks_any W1 (hL.below hb1))
  have HCH := Lib.hid hch
  have HCP := Lib.hid hcp
  have HSM := Lib.hid hsm
  have HOK := Lib.hid hok
  have HB1 := Lib.hid hb1
  have HK1 := Lib.hid k1
  have HW1 := Lib.hid hW1
  have HL := Lib.hid hL
  have hu := undef_no
  clear hch hcp hsm hok hb1 k1 hW1 hL h
  go_enter Tryz.func6, Tryz.ntmps6
  go_upto_region 1 with fail
  rw [HW1.out]
  clear HW1
  go_wp2_with fail
  refine HS.out.mono ?_
  rintro e w2 ⟨rfl, hb⟩
  have HB2 := Lib.hid (HB1.out.trans (hb.mono HB1.out.size))
  have HK2 := Lib.hid (HK1.out.below hb HK1.out.lt)
  clear hb
  obtain ⟨a0, a1, a2, a3, a4, -⟩ := val_cells HK2.out
  go_wp2_with fail
  refine (HCH.out _ HB2.out).mono ?_
  rintro e w3 ⟨rfl, hb⟩
  have HB3 := Lib.hid (HB2.out.trans (hb.mono HB2.out.size))
  have HK3 := Lib.hid (HK2.out.below hb HK2.out.lt)
  clear hb a0 a1 a2 a3 a4
  obtain ⟨c, hc⟩ : ∃ c, Cel.check v = c := ⟨_, rfl⟩
  rw [hc]
  by_cases h0 : c = 0
  · subst h0
    obtain ⟨a0, a1, a2, a3, a4, -⟩ := val_cells HK3.out
    have HC := Lib.hid hc
    clear hc
    go_wp2_with fail
    refine (HCP.out _ HB3.out).mono ?_
    rintro e w4 ⟨u', rfl, ho, hb⟩
    have HB4 := Lib.hid (HB3.out.trans (hb.mono HB3.out.size))
    have HK4 := Lib.hid (HK3.out.below hb HK3.out.lt)
    have hpr : Cel.printR v = (Cel.print v, 0) := by unfold Cel.printR; rw [if_pos HC.out]
    have hlen := cel_print_len HC.out HOK.out.num HOK.out.nums
    have hth := Cel.there HC.out HOK.out.num HOK.out.nums
    have hp := print_any w4.heap.size u' v w4 (ho.vin HOK.out) (Nat.le_refl _) (HL.out.below HB4.out)
    rw [hpr] at hp
    obtain ⟨s, t, rfl, o1, o2⟩ := ho.ex
    obtain ⟨A3, c3, rfl⟩ := own_form o1
    obtain ⟨A4, c4, rfl⟩ := own_form o2
    obtain ⟨z, hz⟩ : ∃ z : ByteArray, (⟨(Cel.print v).toArray⟩ : ByteArray) = z := ⟨_, rfl⟩
    have hzs : z.size ≤ 1073741823 := by rw [← hz, size_list]; omega
    have hzd : z.data.toList = Cel.print v := by rw [← hz]
    rw [hz] at hp
    have hq := fun (W : World) (hb : Below w.heap.size w W) => celParse_any z W hzs (HL.out.below hb)
    rw [hzd, hth] at hq
    have HP := Lib.hid hp
    have HQ := Lib.hid hq
    clear hb a0 a1 a2 a3 a4 hp hq hz hzs hzd hth hlen hpr ho o1 o2
    go_wp2_with fail
    refine HP.out.mono ?_
    rintro e w5 ⟨rfl, hb⟩
    have HB5 := Lib.hid (HB4.out.trans (hb.mono HB4.out.size))
    have HK5 := Lib.hid (HK4.out.below hb HK4.out.lt)
    clear hb
    go_wp2_with fail
    refine (HQ.out _ HB5.out).mono ?_
    rintro e w6 ⟨u2, rfl, ho, hb⟩
    have HB6 := Lib.hid (HB5.out.trans (hb.mono HB5.out.size))
    have HK6 := Lib.hid (HK5.out.below hb HK5.out.lt)
    have hvi := ho.vin HOK.out
    obtain ⟨s, t, rfl, o1, o2⟩ := ho.ex
    obtain ⟨A5, c5, rfl⟩ := own_form o1
    obtain ⟨A6, c6, rfl⟩ := own_form o2
    obtain ⟨W7, hW7⟩ : ∃ W7, w6.alloc (.cells #[.int .i64 v.kind, .int .i64 v.num, .string ⟨v.text.toArray⟩, .slice A5 v.nums.length c5, .slice A6 v.texts.length c6] 36) = W7 := ⟨_, rfl⟩
    have hb7 : Below w6.heap.size w6 W7 := by rw [← hW7]; exact (Below.refl _ w6).alloc (Nat.le_refl _) _
    have k7 : Blk W7 w6.heap.size 36 #[.int .i64 v.kind, .int .i64 v.num, .string ⟨v.text.toArray⟩, .slice A5 v.nums.length c5, .slice A6 v.texts.length c6] := by rw [← hW7]; exact Blk.new _ _ _
    have HB7 := Lib.hid (HB6.out.trans (hb7.mono HB6.out.size))
    have hs := HSM.out W7 _ HB7.out ((hvi.below hb7).mono hb7.size)
    obtain ⟨a0, a1, a2, a3, a4, -⟩ := val_cells (HK6.out.below hb7 HK6.out.lt)
    obtain ⟨b0, b1, b2, b3, b4, -⟩ := val_cells k7
    have HSS := Lib.hid hs
    have HW7 := Lib.hid hW7
    clear hb ho o1 o2 hvi hs hW7 hb7 k7 HSM HCP HCH
    go_upto_region 9 with fail
    rw [HW7.out]
    clear HW7
    go_wp2_with fail
    refine HSS.out.mono ?_
    rintro e w8 ⟨rfl, hb⟩
    have HB8 := Lib.hid (HB7.out.trans (hb.mono HB7.out.size))
    clear hb
    go_wp2
    go_ret
    exact ⟨rfl, HB8.out⟩
  · have t9 : ((c : Int) != 0) = true := by rw [bne_iff_ne]; omega
    clear h0 hc HCH HCP HSM
    go_wp2
    go_ret
    exact ⟨rfl, HB3.out⟩
end Go.Proofs.YthnaiiejjdmnaaaGreatDoor
