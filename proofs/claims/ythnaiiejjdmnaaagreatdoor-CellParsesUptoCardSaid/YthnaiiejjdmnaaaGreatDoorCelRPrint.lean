/- Layer 22 (cell): the document's letter, Num, num, Print. -/
import Derived.Test.YthnaiiejjdmnaaaGreatDoorCelLawsB
import Derived.Test.YthnaiiejjdmnaaaGreatDoorRefFmt
import Derived.Test.YthnaiiejjdmnaaaGreatDoorRefParse
import Derived.Test.YthnaiiejjdmnaaaGreatDoorCelChk
import Derived.Test.YthnaiiejjdmnaaaGreatDoorRowG
import Derived.Deep.RegionHeld3
import Derived.Deep.DeepCutAuto
import Derived.Deep.CutBlock
namespace Go.Proofs.YthnaiiejjdmnaaaGreatDoor
open Go.RowKit

theorem letter_fin : ∀ j : Fin 4, (Cel.letter ((j.val : Int) + 1)) = [({ data := #[98, 105, 102, 115] } : ByteArray).data.toList.getD j.val 0] ∧ Cel.letter ((j.val : Int) + 5) = Cel.letter ((j.val : Int) + 1) ++ [91, 93] := by decide +kernel
set_option maxHeartbeats 4000000 in
set_option maxRecDepth 100000 in
theorem refLetter_low (j : Fin 4) (w : World) :
    Calls Tryz.prog 32 #[.int .i64 ((j.val : Int) + 1)] w fun e w' => e = .returned (.string ⟨(Cel.letter ((j.val : Int) + 1)).toArray⟩) ∧ w = w' := by
  match j with
  | 0 | 1 | 2 | 3 =>
    go_enter Tryz.func32, Tryz.ntmps32
    go_wp2
    go_ret
    exact ⟨rfl, rfl⟩
set_option maxHeartbeats 4000000 in
set_option maxRecDepth 100000 in
theorem refLetter_any (k : Int) (w : World) (hk1 : 1 ≤ k) (hk8 : k ≤ 8) :
    Calls Tryz.prog 32 #[.int .i64 k] w fun e w' => e = .returned (.string ⟨(Cel.letter k).toArray⟩) ∧ w = w' := by
  by_cases h4 : k ≤ 4
  · obtain ⟨j, rfl⟩ : ∃ j : Fin 4, k = (j.val : Int) + 1 := ⟨⟨(k - 1).toNat, by omega⟩, by simp; omega⟩
    exact refLetter_low j w
  · obtain ⟨j, rfl⟩ : ∃ j : Fin 4, k = (j.val : Int) + 5 := ⟨⟨(k - 5).toNat, by omega⟩, by simp; omega⟩
    have hc := refLetter_low j w
    have e := (letter_fin j).2
    match j with
    | 0 | 1 | 2 | 3 =>
      have HC := Lib.hid hc
      clear hc e hk1 hk8 h4
      go_enter Tryz.func32, Tryz.ntmps32
      go_wp2_with fail
      refine HC.out.mono ?_
      rintro e w1 ⟨rfl, rfl⟩
      go_wp2
      go_ret
      exact ⟨rfl, rfl⟩

set_option maxHeartbeats 4000000 in
set_option maxRecDepth 100000 in
theorem refNumS_any (k n : Int) (w : World) (hk1 : 1 ≤ k) (hk3 : k ≤ 3) (hn : Cel.In64 n) :
    Calls Tryz.prog 33 #[.int .i64 k, .int .i64 n] w fun e w' => e = .returned (.string ⟨(Cel.numS k n).toArray⟩) ∧ Below w.heap.size w w' := by
  obtain ⟨R, hR⟩ : ∃ R, Cel.numS k n = R := ⟨_, rfl⟩
  rw [hR]
  unfold Cel.numS at hR
  by_cases h2 : k = 2
  · subst h2
    rw [if_pos rfl] at hR
    have hc := refFmtInt_any n w hn.1 hn.2
    rw [hR] at hc
    have HC := Lib.hid hc
    clear hn hk1 hk3 hc hR
    go_enter Tryz.func33, Tryz.ntmps33
    go_wp2_with fail
    refine HC.out.mono ?_
    rintro e w1 ⟨rfl, hb⟩
    have HB := Lib.hid hb
    clear hb
    go_wp2
    go_ret
    exact ⟨rfl, HB.out⟩
  by_cases h3 : k = 3
  · subst h3
    rw [if_neg (by omega), if_pos rfl] at hR
    have hc := refFmt_any (Cel.u64 n) w (Cel.u64_lt n)
    rw [hR] at hc
    have hwr := u64_wrap n
    obtain ⟨b, hb⟩ : ∃ b, Cel.u64 n = b := ⟨_, rfl⟩
    rw [hb] at hc hwr
    have HC := Lib.hid hc
    have hu := undef_no
    clear hn hk1 hk3 hc hR h2 hb
    go_enter Tryz.func33, Tryz.ntmps33
    go_wp2_with fail
    refine HC.out.mono ?_
    rintro e w1 ⟨rfl, hb⟩
    have HB := Lib.hid hb
    clear hb
    go_wp2
    go_ret
    exact ⟨rfl, HB.out⟩
  · obtain rfl : k = 1 := by omega
    rw [if_neg (by omega), if_neg (by omega)] at hR
    by_cases h0 : n = 0
    · subst h0
      rw [if_pos rfl] at hR
      subst hR
      clear hn hk1 hk3 h2 h3
      go_enter Tryz.func33, Tryz.ntmps33
      go_wp2
      go_ret
      exact ⟨rfl, Below.refl _ _⟩
    · rw [if_neg h0] at hR
      subst hR
      have t0 : (n == 0) = false := beq_eq_false_iff_ne.2 h0
      clear hn hk1 hk3 h2 h3 h0
      go_enter Tryz.func33, Tryz.ntmps33
      go_wp2
      go_ret
      exact ⟨rfl, Below.refl _ _⟩

set_option maxHeartbeats 4000000 in
set_option maxRecDepth 100000 in
theorem refNum_any (k : Int) (s : ByteArray) (w : World) (hk1 : 1 ≤ k) (hk3 : k ≤ 3) (hs : s.size ≤ 1073741824) :
    Calls Tryz.prog 37 #[.int .i64 k, .string s] w (NumRes (Cel.numP k s.data.toList) w) := by
  obtain ⟨R, hR⟩ : ∃ R, Cel.numP k s.data.toList = R := ⟨_, rfl⟩
  rw [hR]
  unfold Cel.numP at hR
  by_cases h1 : k = 1
  · subst h1
    rw [if_pos rfl] at hR
    by_cases ht : s.data.toList = Cel.TRUE
    · have t1 : (s.toList == [116, 114, 117, 101]) = true := by rw [Lib.toList_data, ht]; rfl
      rw [if_pos ht] at hR
      subst hR
      clear hs hk1 hk3 ht
      go_enter Tryz.func37, Tryz.ntmps37
      go_wp2
      go_ret2
      exact ⟨rfl, Below.refl _ _⟩
    · have t1 : (s.toList == [116, 114, 117, 101]) = false := by rw [Lib.toList_data]; exact beq_eq_false_iff_ne.2 ht
      rw [if_neg ht] at hR
      by_cases hf : s.data.toList = Cel.FALSE
      · have t2 : (s.toList == [102, 97, 108, 115, 101]) = true := by rw [Lib.toList_data, hf]; rfl
        rw [if_pos hf] at hR
        subst hR
        clear hs hk1 hk3 ht hf
        go_enter Tryz.func37, Tryz.ntmps37
        go_wp2
        go_ret2
        exact ⟨rfl, Below.refl _ _⟩
      · have t2 : (s.toList == [102, 97, 108, 115, 101]) = false := by rw [Lib.toList_data]; exact beq_eq_false_iff_ne.2 hf
        rw [if_neg hf] at hR
        subst hR
        clear hs hk1 hk3 ht hf
        go_enter Tryz.func37, Tryz.ntmps37
        go_wp2
        go_ret2
        exact ⟨rfl, Below.refl _ _⟩
  by_cases h2 : k = 2
  · subst h2
    rw [if_neg h1, if_pos rfl] at hR
    have hc := refParseInt_any s w hs
    rw [hR] at hc
    obtain ⟨x, y⟩ := R
    have HC := Lib.hid hc
    clear hs hk1 hk3 hc hR h1
    go_enter Tryz.func37, Tryz.ntmps37
    go_wp2_with fail
    refine HC.out.mono ?_
    rintro e w1 ⟨rfl, hb⟩
    have HB := Lib.hid hb
    clear hb
    go_wp2
    go_ret2
    exact ⟨rfl, HB.out⟩
  · obtain rfl : k = 3 := by omega
    rw [if_neg (by omega), if_neg (by omega)] at hR
    have hc := refParseFloat_any s w hs
    rw [Num.refParse_eq] at hc
    cases hp : Num.parse s.data.toList with
    | none =>
      rw [hp] at hR hc
      subst hR
      have hwr : IntKind.i64.wrap 0 = 0 := by decide
      have hc2 := hc.mono (R := fun e w' => e = .returned (.tuple #[.int .u64 0, .int .i64 52]) ∧ Below w.heap.size w w') (fun e w' h => h)
      have HC := Lib.hid hc2
      have hu := undef_no
      clear hs hk1 hk3 hc hc2 h1 h2 hp
      go_enter Tryz.func37, Tryz.ntmps37
      go_wp2_with fail
      refine HC.out.mono ?_
      rintro e w1 ⟨rfl, hb⟩
      have HB := Lib.hid hb
      clear hb
      go_wp2
      go_ret2
      exact ⟨rfl, HB.out⟩
    | some b =>
      rw [hp] at hR hc
      subst hR
      obtain ⟨-, hlt, -⟩ := Num.fmt_parse hp
      have hwr := s64_wrap hlt
      have hc2 := hc.mono (R := fun e w' => e = .returned (.tuple #[.int .u64 b, .int .i64 0]) ∧ Below w.heap.size w w') (fun e w' h => h)
      have HC := Lib.hid hc2
      have hu := undef_no
      clear hs hk1 hk3 hc hc2 h1 h2 hp hlt
      go_enter Tryz.func37, Tryz.ntmps37
      go_wp2_with fail
      refine HC.out.mono ?_
      rintro e w1 ⟨rfl, hb⟩
      have HB := Lib.hid hb
      clear hb
      go_wp2
      go_ret2
      exact ⟨rfl, HB.out⟩


structure RPRel (B : Nat) (w : World) (A C : List UInt8) (n : Nat) (acc : List UInt8) (v : Value) (wx : World) : Prop where
  text : acc = A ++ C
  len : acc.length ≤ n
  bel : Below B w wx
  own : OwnG B v acc wx
theorem RPRel.next {B : Nat} {w : World} {A C C' : List UInt8} {n n' : Nat} {acc x : List UInt8} {v v' : Value} {wx wz : World} (h : RPRel B w A C n acc v wx) (hc : C' = C ++ x) (hl : n + x.length ≤ n') (h1 : Below B wx wz) (ho : OwnG B v' (acc ++ x) wz) : RPRel B w A C' n' (acc ++ x) v' wz :=
  ⟨by rw [h.text, hc, List.append_assoc], by rw [List.length_append]; have := h.len; omega, h.bel.trans h1, ho⟩
theorem escT_app (a b : List UInt8) : Cel.escT (a ++ b) = Cel.escT a ++ Cel.escT b := by
  induction a with
  | nil => rfl
  | cons c a ih =>
    rw [List.cons_append, Cel.escT, Cel.escT]
    split <;> rw [ih] <;> rfl
theorem escT_take {y : List UInt8} {m : Nat} {c : UInt8} (h : y[m]? = some c) : Cel.escT (y.take (m + 1)) = Cel.escT (y.take m) ++ (if c = 92 ∨ c = 59 then [92, c] else [c]) := by
  obtain ⟨hm, e⟩ := List.getElem?_eq_some_iff.1 h
  rw [List.take_succ_eq_append_getElem hm, escT_app, e]
  congr 1

set_option maxHeartbeats 16000000 in
set_option maxRecDepth 100000 in
theorem refPrint_any (B : Nat) (u : Value) (v : Cel.V) (w : World) (h : VIn w B u v) (hB : B ≤ w.heap.size) :
    Calls Tryz.prog 17 #[u] w fun e w' => e = .returned (.tuple #[.string ⟨(Cel.printR v).1.toArray⟩, .int .i64 ((Cel.printR v).2 : Nat)]) ∧ Below w.heap.size w w' := by
  have hch := fun (W : World) (hb : Below w.heap.size w W) => vCheck_any B u v W (h.below (hb.mono hB)) (Nat.le_trans hB hb.size)
  obtain ⟨A1, c1, A2, c2, rfl, ra1, ra2⟩ := h.ex
  have hnum := h.num
  have hnums := h.nums
  have hnl := h.nl
  have hsl := h.sl
  clear h
  obtain ⟨R, hR⟩ : ∃ R, Cel.printR v = R := ⟨_, rfl⟩
  rw [hR]
  unfold Cel.printR at hR
  have hcp := fun h => Cel.check_parts (v := v) h
  have hpl := fun h => cel_print_len (v := v) h hnum hnums
  obtain ⟨cv, hcv⟩ : ∃ c, Cel.check v = c := ⟨_, rfl⟩
  rw [hcv] at hch hR hcp hpl
  have hpr : Cel.print v = Cel.letter v.kind ++ [58] ++ (if v.kind < 4 then Cel.numS v.kind v.num else []) ++ v.text ++ v.nums.flatMap (Cel.numE (v.kind - 4)) ++ v.texts.flatMap Cel.textE := rfl
  obtain ⟨pv, hpv⟩ : ∃ c, Cel.print v = c := ⟨_, rfl⟩
  rw [hpv] at hpr hR hpl
  clear hcv hpv
  obtain ⟨k0, n0, t0, ns, ts⟩ := v
  simp only at ra1 ra2 hnum hnums hch hcp hpr hnl hsl ⊢
  obtain ⟨nn, hnn⟩ : ∃ n, ns.length = n := ⟨_, rfl⟩
  obtain ⟨tn, htn⟩ : ∃ n, ts.length = n := ⟨_, rfl⟩
  obtain ⟨z, hz⟩ : ∃ z : ByteArray, (⟨t0.toArray⟩ : ByteArray) = z := ⟨_, rfl⟩
  have hzs : z.size = t0.length := by rw [← hz]; exact size_list _
  have hzd : z.data.toList = t0 := by rw [← hz]
  rw [hnn] at ra1 hch hnl ⊢
  rw [htn] at ra2 hch hsl ⊢
  rw [hz] at hch ⊢
  obtain ⟨W1, hW1⟩ : ∃ W1, w.alloc (.cells #[.int .i64 k0, .int .i64 n0, .string z, .slice A1 nn c1, .slice A2 tn c2] 36) = W1 := ⟨_, rfl⟩
  have hb1 : Below w.heap.size w W1 := by rw [← hW1]; exact (Below.refl _ w).alloc (Nat.le_refl _) _
  have k1 : Blk W1 w.heap.size 36 #[.int .i64 k0, .int .i64 n0, .string z, .slice A1 nn c1, .slice A2 tn c2] := by rw [← hW1]; exact Blk.new _ _ _
  have RA1 := Lib.hid (ra1.below (hb1.mono hB))
  have RA2 := Lib.hid (ra2.below (hb1.mono hB))
  have HB1 := Lib.hid hb1
  have HW1 := Lib.hid hW1
  have HCH := Lib.hid (hch W1 hb1)
  have HNN := Lib.hid hnn
  have HTN := Lib.hid htn
  have HNUM := Lib.hid hnum
  have HNUMS := Lib.hid hnums
  have HKB := Lib.hid k1
  have HPR := Lib.hid hpr
  have HR := Lib.hid hR
  have HCP := Lib.hid hcp
  have HPL := Lib.hid hpl
  have HZS := Lib.hid hzs
  have HZD := Lib.hid hzd
  obtain ⟨a0, a1, a2, a3, a4, -⟩ := val_cells k1
  clear ra1 ra2 hnn htn hz k1 hb1 hW1 hch hnum hnums hpr hR hcp hpl hzs hzd
  have hu := undef_no
  go_enter Tryz.func17, Tryz.ntmps17
  go_upto_region 1 with fail
  rw [HW1.out]
  clear HW1
  go_wp2_with fail
  refine HCH.out.mono ?_
  rintro e w2 ⟨rfl, hb2⟩
  have HB2 := Lib.hid (HB1.out.trans (hb2.mono HB1.out.size))
  have HK2 := Lib.hid (HKB.out.below hb2 HKB.out.lt)
  have hwz := HB1.out.size
  have RA1' := Lib.hid (RA1.out.below (hb2.mono (Nat.le_trans hB hwz)))
  have RA2' := Lib.hid (RA2.out.below (hb2.mono (Nat.le_trans hB hwz)))
  clear hb2 a0 a1 a2 a3 a4 HCH RA1 RA2 HKB
  have hsz2 := HB2.out.size
  obtain ⟨a0, a1, a2, a3, a4, -⟩ := val_cells HK2.out
  by_cases hc0 : cv = 0
  case neg =>
    have hr : R = ([], cv) := by rw [← HR.out, if_neg hc0]
    have HRR := Lib.hid hr
    have t0 : ((cv : Int) != 0) = true := by rw [bne_iff_ne]; omega
    clear hr hc0
    go_wp2
    go_ret2
    exact ⟨by rw [HRR.out]; rfl, HB2.out⟩
  subst hc0
  have hr : R = (pv, 0) := by rw [← HR.out, if_pos rfl]
  have HRR := Lib.hid hr
  obtain ⟨p1, p2, p3, p4, p5, p6, p7, p8⟩ := HCP.out rfl
  unfold Cel.Unused at p3
  simp only [not_or] at p3
  obtain ⟨u1, u2, u3, u4⟩ := p3
  have hkl := HK2.out.lt
  have HLC := Lib.hid (refLetter_any k0 w2 p1 p2)
  obtain ⟨L, hL⟩ : ∃ L : ByteArray, (⟨(Cel.letter k0).toArray⟩ : ByteArray) = L := ⟨_, rfl⟩
  have hLd : L.data.toList = Cel.letter k0 := by rw [← hL]
  have hLs : L.size ≤ 3 := by rw [Lib.size_eq, hLd]; unfold Cel.letter; split <;> simp
  have hLl : (Cel.letter k0).length ≤ 3 := by unfold Cel.letter; split <;> simp
  obtain ⟨M, hM⟩ : ∃ M : ByteArray, L ++ ⟨#[58]⟩ = M := ⟨_, rfl⟩
  have hMd : M.data.toList = Cel.letter k0 ++ [58] := by rw [← hM, ByteArray.data_append, Array.toList_append, hLd]
  have hMs : M.size ≤ 4 := by rw [Lib.size_eq, hMd, List.length_append, List.length_singleton]; omega
  have hcv := Lib.run_convert_string_bytes (P := Tryz.prog) w2 9 59 5 M Tryz.underlying9 Tryz.underlying59 Tryz.underlying5
  have hmade := OwnG.made w2 w2.heap.size M (Nat.le_refl _) (by unfold maxLen; omega)
  have hmb := bytesWorld_below w2 M
  obtain ⟨W3, hW3⟩ : ∃ W, Lib.bytesWorld w2 5 M = W := ⟨_, rfl⟩
  obtain ⟨g3, hg3⟩ : ∃ g, grownCap w2 M.size 0 5 = g := ⟨_, rfl⟩
  obtain ⟨m3, hm3⟩ : ∃ g, M.size = g := ⟨_, rfl⟩
  rw [hW3, hg3, hm3] at hmade hcv
  rw [hW3] at hmb
  rw [hMd] at hmade
  rw [hL] at HLC
  have hLM := hM
  have HM3 := Lib.hid hmade
  have HB3 := Lib.hid hmb
  have hsz3 := hmb.size
  have HU := Lib.hid (⟨u1, u2, u3, u4⟩ : _ ∧ _ ∧ _ ∧ _)
  have HP5 := Lib.hid (⟨p4, p5⟩ : _ ∧ _)
  have HP6 := Lib.hid p6
  have HP7 := Lib.hid p7
  have HP8 := Lib.hid p8
  have HPL0 := Lib.hid (HPL.out rfl)
  have p4n : nn ≤ 40 := by rw [← HNN.out]; exact p4
  have p5n : tn ≤ 40 := by rw [← HTN.out]; exact p5
  clear hr HR HPL HCP u1 u2 u3 u4 p4 p5 p6 p7 p8 hL hLd hM hMd hMs hmade hmb hW3 hg3 hm3
  have HK3 := Lib.hid (HK2.out.below HB3.out hkl)
  obtain ⟨b0, b1, b2, b3, b4, -⟩ := val_cells HK3.out
  go_wp2_with fail
  refine HLC.out.mono ?_
  rintro e w2' ⟨rfl, rfl⟩
  clear HLC
  go_upto_if 22 with fail
  clear hcv hLM
  clear a0 a1 a2 a3 a4 b0 b1 b2 b3 b4
  go_cut [5] (fun s5 wx => ∃ acc, RPRel w2.heap.size w2 (Cel.letter k0 ++ [58] ++ (if k0 < 4 then Cel.numS k0 n0 else [])) [] 28 acc s5 wx)
  case first =>
    obtain ⟨a0, a1, a2, a3, a4, -⟩ := val_cells HK3.out
    by_cases h3 : k0 < 4
    · have d3 : decide (k0 < 4) = true := decide_eq_true h3
      have hw8 := HP8.out
      have hel := numS_len k0 n0 HNUM.out
      have hcall := refNumS_any k0 n0 W3 p1 (by omega) HNUM.out
      obtain ⟨E, hE⟩ : ∃ E : ByteArray, (⟨(Cel.numS k0 n0).toArray⟩ : ByteArray) = E := ⟨_, rfl⟩
      have hEs : E.size = (Cel.numS k0 n0).length := by rw [← hE]; exact size_list _
      have hEd : E.data.toList = Cel.numS k0 n0 := by rw [← hE]
      rw [hE] at hcall
      have HC := Lib.hid hcall
      have HEd := Lib.hid hEd
      have hEl : E.size ≤ 24 := by omega
      clear hw8 hel hcall hE hEs hEd
      go_wp2_with fail
      refine HC.out.mono ?_
      rintro e w4 ⟨rfl, hb4⟩
      have HO4 := Lib.hid (HM3.out.below hb4)
      have HB4 := Lib.hid (HB3.out.trans (hb4.mono hsz3))
      have hsz4 := HB4.out.size
      clear hb4
      have hl4 : (Cel.letter k0 ++ [58]).length + E.size < 1073741824 := by rw [List.length_append, List.length_singleton]; omega
      go_wp2_with (at_builtin; refine wpList_append_strG rfl (.tmp 23) (.tmp 28) rfl w2.heap.size _ (Cel.letter k0 ++ [58]) w4 rfl HO4.out E rfl hl4 hsz4 ?_)
      intro v5 w5 ho5 hb5
      have hrel : RPRel w2.heap.size w2 (Cel.letter k0 ++ [58] ++ (if k0 < 4 then Cel.numS k0 n0 else [])) [] 28 (Cel.letter k0 ++ [58] ++ E.data.toList) v5 w5 := ⟨by rw [HEd.out, if_pos h3, List.append_nil], by rw [List.length_append, ← Lib.size_eq, List.length_append, List.length_singleton]; omega, HB4.out.trans hb5, by simpa using ho5⟩
      have HREL := Lib.hid hrel
      clear ho5 hb5 hrel
      go_wp2
      go_meet
      exact ⟨_, HREL.out⟩
    · have d3 : decide (k0 < 4) = false := decide_eq_false h3
      have hrel : RPRel w2.heap.size w2 (Cel.letter k0 ++ [58] ++ (if k0 < 4 then Cel.numS k0 n0 else [])) [] 28 (Cel.letter k0 ++ [58]) _ W3 := ⟨by rw [if_neg h3, List.append_nil, List.append_nil], by rw [List.length_append, List.length_singleton]; omega, HB3.out, HM3.out⟩
      have HREL := Lib.hid hrel
      clear hrel
      go_wp2
      go_meet
      exact ⟨_, HREL.out⟩
  case rest =>
    obtain ⟨acc, hrel⟩ := hcut
    have hlen := hrel.len
    have hszx := hrel.bel.size
    have HQ := Lib.hid hrel
    obtain ⟨A5, c5, rfl⟩ := hrel.own.form
    obtain ⟨a0, a1, a2, a3, a4, -⟩ := val_cells (HK2.out.below hrel.bel hkl)
    clear hrel HK3 HM3 HB3
    have hz6 : z.size ≤ 1000 := by rw [HZS.out]; exact HP6.out
    have ha6 : acc.length + z.size < 1073741824 := by omega
    go_wp2_with (at_builtin; refine wpList_append_strG rfl (.tmp 30) (.tmp 32) rfl w2.heap.size _ acc wc rfl HQ.out.own z rfl ha6 hszx ?_)
    intro v5 w5 ho5 hb5
    have hrel : RPRel w2.heap.size w2 (Cel.letter k0 ++ [58] ++ (if k0 < 4 then Cel.numS k0 n0 else []) ++ t0) [] 1028 (acc ++ z.data.toList) v5 w5 := ⟨by rw [HZD.out, HQ.out.text, List.append_nil, List.append_nil], by rw [List.length_append, ← Lib.size_eq]; omega, HQ.out.bel.trans hb5, ho5⟩
    obtain ⟨acc1, hacc1⟩ : ∃ l, acc ++ z.data.toList = l := ⟨_, rfl⟩
    obtain ⟨AA, hAA⟩ : ∃ l, Cel.letter k0 ++ [58] ++ (if k0 < 4 then Cel.numS k0 n0 else []) ++ t0 = l := ⟨_, rfl⟩
    have hPA : pv = AA ++ ns.flatMap (Cel.numE (k0 - 4)) ++ ts.flatMap Cel.textE := by rw [HPR.out, hAA]
    rw [hacc1, hAA] at hrel
    have HREL := Lib.hid hrel
    have HPA := Lib.hid hPA
    obtain ⟨A6, c6, rfl⟩ := hrel.own.form
    clear ho5 hb5 hrel HQ hlen hszx ha6 hacc1 hAA hPA HPR a0 a1 a2 a3 a4
    go_wp2_with fail
    go_loopg [5, 6] nn (fun g s x wr => ∃ (k : Nat) (acc : List UInt8), x = .int .i64 k ∧ k + g = nn ∧ RPRel w2.heap.size w2 AA ((ns.take k).flatMap (Cel.numE (k0 - 4))) (1028 + 25 * k) acc s wr)
    case atStart => exact ⟨0, acc1, rfl, by omega, HREL.out⟩
    case round =>
      clear HREL
      obtain ⟨k, acc, rfl, hk, hrel⟩ := hrel
      have hlen := hrel.len
      have hszr := hrel.bel.size
      have HQ := Lib.hid hrel
      have HK := Lib.hid hk
      obtain ⟨A7, c7, rfl⟩ := hrel.own.form
      obtain ⟨a0, a1, a2, a3, a4, -⟩ := val_cells (HK2.out.below hrel.bel hkl)
      clear hrel
      cases gk with
      | zero =>
        obtain rfl : k = nn := by omega
        have hfull : (ns.take k).flatMap (Cel.numE (k0 - 4)) = ns.flatMap (Cel.numE (k0 - 4)) := by rw [List.take_of_length_le (by have := HNN.out; omega)]
        have hq := HQ.out
        rw [hfull] at hq
        have HQ2 := Lib.hid hq
        clear hfull hq hk HQ
        go_wp2_with fail
        clear a0 a1 a2 a3 a4
        go_loopg [5, 7] tn (fun g s x wr => ∃ (j : Nat) (acc : List UInt8), x = .int .i64 j ∧ j + g = tn ∧ RPRel w2.heap.size w2 (AA ++ ns.flatMap (Cel.numE (k0 - 4))) ((ts.take j).flatMap Cel.textE) (2100 + 2001 * j) acc s wr)
        case atStart => exact ⟨0, acc, rfl, by omega, ⟨by rw [HQ2.out.text]; simp, by have := HQ2.out.len; omega, HQ2.out.bel, HQ2.out.own⟩⟩
        case round =>
          clear hlen hszr HQ2
          obtain ⟨j, acc, rfl, hj, hrel⟩ := hrel
          have hlen := hrel.len
          have hszr := hrel.bel.size
          have HQ := Lib.hid hrel
          have HJ := Lib.hid hj
          obtain ⟨A8, c8, rfl⟩ := hrel.own.form
          obtain ⟨a0, a1, a2, a3, a4, -⟩ := val_cells (HK2.out.below hrel.bel hkl)
          clear hrel
          cases gk with
          | zero =>
            obtain rfl : j = tn := by omega
            have hfin : acc = pv := by
              rw [HQ.out.text, HPA.out, List.take_of_length_le (by have := HTN.out; omega)]
            have hcv := HQ.out.own.conv
            have HF := Lib.hid hfin
            clear hfin hj
            go_wp2
            go_ret2
            exact ⟨by rw [HRR.out, ← HF.out]; rfl, HB2.out.trans (HQ.out.bel.mono hsz2)⟩
          | succ g =>
            have hjn : j < tn := by omega
            have hjnI : (j : Int) < tn := by omega
            have hjl : j < ts.length := by rw [HTN.out]; exact hjn
            obtain ⟨p, o, x, rfl, hpb, hx, hp⟩ := (RA2'.out.below (HQ.out.bel.mono (by omega))).cell hjn
            rw [List.getElem?_map, List.getElem?_eq_getElem hjl] at hx
            obtain rfl := (Option.some.inj hx).symm
            obtain ⟨y, hy⟩ : ∃ y, ts[j] = y := ⟨_, rfl⟩
            rw [hy] at hp
            unfold ST at hp
            have hyj : ts[j]? = some y := by rw [List.getElem?_eq_getElem hjl, hy]
            have hyl : y.length ≤ 1000 := longs_all HP7.out y (List.mem_of_getElem? hyj)
            obtain ⟨zy, hzy⟩ : ∃ zy : ByteArray, (⟨y.toArray⟩ : ByteArray) = zy := ⟨_, rfl⟩
            have hzyd : zy.data.toList = y := by rw [← hzy]
            have hzys : zy.size = y.length := by rw [← hzy]; exact size_list _
            rw [hzy] at hp
            have HZYD := Lib.hid hzyd
            obtain ⟨yn, hyn⟩ : ∃ n, zy.size = n := ⟨_, rfl⟩
            have hyn1 : yn ≤ 1000 := by omega
            have HYN := Lib.hid hyn
            have hfl := Lib.hid (flat_take hyj Cel.textE)
            have HPW := Lib.hid (fun (W : World) (hb : Below w2.heap.size wr W) => (hb.cell (p := ⟨p, o + j, none⟩) (Nat.lt_of_lt_of_le hpb (Nat.le_trans hB hsz2))).trans hp)
            clear hx hj hjl hy hyj hyl hzy hzyd hzys hyn hp hpb
            go_wp2_with fail
            clear a0 a1 a2 a3 a4
            go_loopg [5, 8] yn (fun g s x wx => ∃ (m : Nat) (acc2 : List UInt8), x = .int .i64 m ∧ m + g = yn ∧ RPRel w2.heap.size w2 acc (Cel.escT (y.take m)) (2100 + 2001 * j + 2 * m) acc2 s wx ∧ Below w2.heap.size wr wx)
            case atStart => exact ⟨0, acc, rfl, by omega, ⟨by simp [Cel.escT], by omega, HQ.out.bel, HQ.out.own⟩, Below.refl _ _⟩
            case round =>
              clear hlen hszr
              obtain ⟨m, acc2, rfl, hm, hrel, hbr⟩ := hrel
              have hlen := hrel.len
              have hszr := hrel.bel.size
              have HQ3 := Lib.hid hrel
              have HM := Lib.hid hm
              have HBR := Lib.hid hbr
              obtain ⟨A9, c9, rfl⟩ := hrel.own.form
              obtain ⟨a0, a1, a2, a3, a4, -⟩ := val_cells (HK2.out.below hrel.bel hkl)
              have hp := HPW.out _ hbr
              have hal : acc2.length + 1 < 1073741824 := by omega
              clear hrel hbr
              cases gk with
              | zero =>
                obtain rfl : m = yn := by omega
                have hq := HQ3.out
                rw [List.take_of_length_le (by rw [← HZYD.out, ← Lib.size_eq, HYN.out]; exact Nat.le_refl _)] at hq
                have HQ4 := Lib.hid hq
                have hd := HYN.out
                have t1 : decide (m < zy.size) = false := decide_eq_false (by omega)
                clear hq hm HQ3 hd
                go_wp2_with (at_builtin; refine wpList_append_bytesG rfl (.tmp 92) (.tmp 93) rfl w2.heap.size (.slice A9 acc2.length c9) acc2 wr rfl HQ4.out.own [59] [.int .u8 59] rfl 1 rfl rfl hal hszr ?_)
                intro v9 w9 ho9 hb9
                have hte : acc2 ++ [59] = acc ++ Cel.textE y := by rw [HQ4.out.text]; unfold Cel.textE; rw [List.append_assoc]
                have htl := HQ4.out.len
                have hsz9 : (Cel.escT y).length ≤ 2000 := by
                  have h1 := escT_len y
                  have h2 : y.length = zy.size := by rw [Lib.size_eq, HZYD.out]
                  have h3 := HYN.out
                  omega
                have htl2 : (Cel.textE y).length ≤ 2001 := by unfold Cel.textE; rw [List.length_append, List.length_singleton]; omega
                rw [hte] at ho9
                have HN := Lib.hid (HQ.out.next (n' := 2100 + 2001 * (j + 1)) (x := Cel.textE y) (v' := v9) hfl.out (by omega) (HBR.out.trans hb9) ho9)
                clear ho9 hb9 hte htl hsz9 htl2
                go_wp2
                go_roundg g
                case measure => omega
                case rel => exact ⟨j + 1, _, int_eq' (by omega), by have := HJ.out; omega, HN.out⟩
              | succ g2 =>
                have hmn : m < yn := by omega
                have hmnI : (m : Int) < yn := by omega
                have hmz : m < zy.size := by rw [HYN.out]; exact hmn
                have t1 : decide (m < zy.size) = true := decide_eq_true hmz
                obtain ⟨c, hc⟩ : ∃ c, zy[m]'hmz = c := ⟨_, rfl⟩
                have hym : y[m]? = some c := by rw [← HZYD.out, get_list zy m hmz, hc]
                have HEM := Lib.hid (escT_take hym)
                have hcb := byte_le c
                have hnx := fun (x : List UInt8) (v' : Value) (wz : World) (hx : x = if c = 92 ∨ c = 59 then [92, c] else [c]) (hb : Below w2.heap.size wr wz) (ho : OwnG w2.heap.size v' (acc2 ++ x) wz) => And.intro (HQ3.out.next (C' := Cel.escT (y.take (m + 1))) (n' := 2100 + 2001 * j + 2 * (m + 1)) (x := x) (by rw [HEM.out, hx]) (by rw [hx]; split <;> simp <;> omega) hb ho) (HBR.out.trans hb)
                have HNX := Lib.hid hnx
                clear hym hm hnx
                by_cases hc92 : c = 92 ∨ c = 59
                · have hal2 : (acc2 ++ [92]).length + 1 < 1073741824 := by rw [List.length_append, List.length_singleton]; omega
                  have hx : [92, c] = if c = 92 ∨ c = 59 then [92, c] else [c] := by rw [if_pos hc92]
                  have HX := Lib.hid hx
                  clear hx HEM
                  rcases hc92 with rfl | rfl
                  · go_wp2_with (at_builtin; refine wpList_append_bytesG rfl (.tmp 85) (.tmp 86) rfl w2.heap.size (.slice A9 acc2.length c9) acc2 wr rfl HQ3.out.own [92] [.int .u8 92] rfl 1 rfl rfl hal hszr ?_)
                    intro v8 w8 ho8 hb8
                    have HO8 := Lib.hid ho8
                    have HB8 := Lib.hid hb8
                    have hsz8 := Nat.le_trans hszr hb8.size
                    clear ho8 hb8
                    go_wp2_with (at_builtin; refine wpList_append_bytesG rfl (.tmp 88) (.tmp 90) rfl w2.heap.size v8 (acc2 ++ [92]) w8 rfl HO8.out [92] [.int .u8 92] rfl 1 rfl rfl hal2 hsz8 ?_)
                    intro v9 w9 ho9 hb9
                    have HN := Lib.hid (HNX.out _ v9 w9 HX.out (HB8.out.trans hb9) (by simpa using ho9))
                    clear ho9 hb9
                    go_wp2
                    go_roundg g2
                    case measure => omega
                    case rel => exact ⟨m + 1, _, int_eq' (by omega), by have := HM.out; omega, HN.out.1, HN.out.2⟩
                  · go_wp2_with (at_builtin; refine wpList_append_bytesG rfl (.tmp 85) (.tmp 86) rfl w2.heap.size (.slice A9 acc2.length c9) acc2 wr rfl HQ3.out.own [92] [.int .u8 92] rfl 1 rfl rfl hal hszr ?_)
                    intro v8 w8 ho8 hb8
                    have HO8 := Lib.hid ho8
                    have HB8 := Lib.hid hb8
                    have hsz8 := Nat.le_trans hszr hb8.size
                    clear ho8 hb8
                    go_wp2_with (at_builtin; refine wpList_append_bytesG rfl (.tmp 88) (.tmp 90) rfl w2.heap.size v8 (acc2 ++ [92]) w8 rfl HO8.out [59] [.int .u8 59] rfl 1 rfl rfl hal2 hsz8 ?_)
                    intro v9 w9 ho9 hb9
                    have HN := Lib.hid (HNX.out _ v9 w9 HX.out (HB8.out.trans hb9) (by simpa using ho9))
                    clear ho9 hb9
                    go_wp2
                    go_roundg g2
                    case measure => omega
                    case rel => exact ⟨m + 1, _, int_eq' (by omega), by have := HM.out; omega, HN.out.1, HN.out.2⟩
                · have hx : [c] = if c = 92 ∨ c = 59 then [92, c] else [c] := by rw [if_neg hc92]
                  have HX := Lib.hid hx
                  simp only [not_or] at hc92
                  have t59 : (((c.toNat : Nat) : Int) == 59) = false := bq (k := 59) rfl (beq_eq_false_iff_ne.2 hc92.2)
                  have t92 : (((c.toNat : Nat) : Int) == 92) = false := bq (k := 92) rfl (beq_eq_false_iff_ne.2 hc92.1)
                  clear hx HEM hc92
                  go_wp2_with (at_builtin; refine wpList_append_bytesG rfl (.tmp 88) (.tmp 90) rfl w2.heap.size (.slice A9 acc2.length c9) acc2 wr rfl HQ3.out.own [c] [.int .u8 (c.toNat : Int)] (byteCells_one _).symm 1 rfl rfl hal hszr ?_)
                  intro v9 w9 ho9 hb9
                  have HN := Lib.hid (HNX.out _ v9 w9 HX.out hb9 ho9)
                  clear ho9 hb9
                  go_wp2
                  go_roundg g2
                  case measure => omega
                  case rel => exact ⟨m + 1, _, int_eq' (by omega), by have := HM.out; omega, HN.out.1, HN.out.2⟩
      | succ g =>
        have hkn : k < nn := by omega
        have hknI : (k : Int) < nn := by omega
        have hkl' : k < ns.length := by rw [HNN.out]; exact hkn
        obtain ⟨p, o, x, rfl, hpb, hx, hp⟩ := (RA1'.out.below (HQ.out.bel.mono (by omega))).cell hkn
        rw [List.getElem?_map, List.getElem?_eq_getElem hkl'] at hx
        obtain rfl := (Option.some.inj hx).symm
        obtain ⟨y, hy⟩ : ∃ y, ns[k] = y := ⟨_, rfl⟩
        rw [hy] at hp
        unfold I64 at hp
        have hyk : ns[k]? = some y := by rw [List.getElem?_eq_getElem hkl', hy]
        have hyi : Cel.In64 y := HNUMS.out y (List.mem_of_getElem? hyk)
        have hk5 : ¬ (k0 < 5 ∨ k0 = 8) := fun e => HU.out.2.2.1 ⟨fun h => by rw [h] at hkl'; simp at hkl', e⟩
        have h5i : 5 ≤ k0 := by omega
        have h7i : k0 ≤ 7 := by omega
        have hcall := fun (W : World) => refNumS_any (k0 - 4) y W (by omega) (by omega) hyi
        have hel := numS_len (k0 - 4) y hyi
        obtain ⟨E, hE⟩ : ∃ E : ByteArray, (⟨(Cel.numS (k0 - 4) y).toArray⟩ : ByteArray) = E := ⟨_, rfl⟩
        have hEs : E.size = (Cel.numS (k0 - 4) y).length := by rw [← hE]; exact size_list _
        have hEd : E.data.toList = Cel.numS (k0 - 4) y := by rw [← hE]
        rw [hE] at hcall
        have HC := Lib.hid hcall
        have HEd := Lib.hid hEd
        have hEl : E.size ≤ 24 := by omega
        have hfl := Lib.hid (flat_take hyk (Cel.numE (k0 - 4)))
        have hbd : Below wr.heap.size wr wr.drew := below_drewN (Below.refl _ _) 1
        have HOD := Lib.hid (HQ.out.own.below hbd)
        have hal : acc.length + E.size < 1073741824 := by omega
        have hwr1 : IntKind.i64.wrap (k0 - 4) = k0 - 4 := IntWalk.i64_in _ (by omega)
        have z1 : (0 : Int) ≤ (k : Int) := by omega
        have HBD : Hid (Below w2.heap.size wr wr.drew) := below_drewN (Below.refl _ _) 1
        have HKK : Hid (∀ w', Below w2.heap.size wr w' → w'.cell? ⟨w.heap.size, 0, none⟩ = some (.int .i64 k0) ∧ w'.cell? ⟨w.heap.size, 3, none⟩ = some (.slice (some ⟨p, o, none⟩) nn c1) ∧ w'.cell? ⟨p, o + k, none⟩ = some (.int .i64 y)) := fun w' hb =>
          ⟨(hb.cell (p := ⟨w.heap.size, 0, none⟩) hkl).trans a0, (hb.cell (p := ⟨w.heap.size, 3, none⟩) hkl).trans a3, (hb.cell (p := ⟨p, o + k, none⟩) (Nat.lt_of_lt_of_le hpb (Nat.le_trans hB hsz2))).trans hp⟩
        clear hx hk hkl' hy hyk hyi hk5 hcall hel hE hEs hEd hbd hpb
        go_wp2_with fail
        go_region_held3 (fun w' => w'.cell? ⟨w.heap.size, 0, none⟩ = some (.int .i64 k0) ∧ w'.cell? ⟨w.heap.size, 3, none⟩ = some (.slice (some ⟨p, o, none⟩) nn c1) ∧ w'.cell? ⟨p, o + k, none⟩ = some (.int .i64 y)) (first | go_keep | exact HKK.out _ hq8 | exact HKK.out _ hq | fail)
          ((first | (go_at_call 33; refine (HC.out _).mono ?_; rintro e w7 ⟨rfl, hb7⟩; have HO7 := Lib.hid (HOD.out.below hb7); have hq : Below w2.heap.size wr w7 := HBD.out.trans (hb7.mono hszr); have hz7 := hq.size; clear hb7) | (refine step_append_strG (by rfl) (.tmp 41) (.tmp 50) (by rfl) w2.heap.size _ acc _ (by rfl) HO7.out E (by rfl) hal (Nat.le_trans hszr hz7) ?_; intro v8 w8 ho8 hb8; have hq8 := hq.trans hb8) | fail))
        have HB8 := Lib.hid hq8
        have HO8 := Lib.hid ho8
        have hsz8 := Nat.le_trans hszr hq8.size
        have hal2 : (acc ++ E.data.toList).length + 1 < 1073741824 := by rw [List.length_append, ← Lib.size_eq]; omega
        clear hq8 ho8 hb8 hq hz7 HO7 HKK HOD HBD a0 a1 a2 a3 a4 hp
        go_wp2_with (at_builtin; refine wpList_append_bytesG rfl (.tmp 52) (.tmp 53) rfl w2.heap.size v8 (acc ++ E.data.toList) w8 rfl HO8.out [59] [.int .u8 59] rfl 1 rfl rfl hal2 hsz8 ?_)
        intro v9 w9 ho9 hb9
        have HN := Lib.hid (HQ.out.next (n' := 1028 + 25 * (k + 1)) (x := Cel.numE (k0 - 4) y) (v' := v9) hfl.out (by unfold Cel.numE; rw [List.length_append, List.length_singleton, ← HEd.out, ← Lib.size_eq]; omega) (HB8.out.trans hb9) (by unfold Cel.numE; rw [← HEd.out]; simpa using ho9))
        clear ho9 hb9
        go_wp2
        go_roundg g
        case measure => omega
        case rel => exact ⟨k + 1, _, int_eq' (by omega), by have := HK.out; omega, HN.out⟩
end Go.Proofs.YthnaiiejjdmnaaaGreatDoor
