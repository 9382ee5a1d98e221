/- Layer 22 (cell): the program's Print. -/
import Derived.Test.YtoofbflplhbpbaaGreatDoorCelElem
namespace Go.Proofs.YtoofbflplhbpbaaGreatDoor
open Go.RowKit

theorem numS_len (k n : Int) (hn : Cel.In64 n) : (Cel.numS k n).length ≤ 24 := by
  have h1 := itoa_len20 hn.1 hn.2
  have h2 := fmt_len (Cel.u64 n)
  unfold Cel.numS
  repeat' split
  · omega
  · exact h2
  · decide
  · decide
theorem numsWrong_all {k : Int} : ∀ {l : List Int}, Cel.numsWrong k l = 0 → ∀ n ∈ l, Cel.numWrong k n = 0
  | [], _, n, h => by cases h
  | m :: r, h, n, hn => by
    obtain ⟨h1, h2⟩ := Cel.numsWrong_cons h
    rcases List.mem_cons.1 hn with rfl | hn
    · exact h1
    · exact numsWrong_all h2 n hn
theorem longs_all {l : List Cel.L} (h : Cel.longs l = false) : ∀ t ∈ l, t.length ≤ 1000 := by
  intro t ht
  unfold Cel.longs at h
  rw [List.any_eq_false] at h
  have := h t ht
  simp at this
  exact this
theorem cls_fin : ∀ j : Fin 4, (({ data := #[98, 105, 102, 115] } : ByteArray).data.toList)[j.val]? = some (Cel.cls ((j.val : Int) + 1)) := by decide +kernel
theorem cls_at (j : Nat) (h : j < 4) (h' : j < ({ data := #[98, 105, 102, 115] } : ByteArray).size) : ({ data := #[98, 105, 102, 115] } : ByteArray)[j]'h' = Cel.cls ((j : Int) + 1) := by
  have e := cls_fin ⟨j, h⟩
  have e2 := at_extract (s := { data := #[98, 105, 102, 115] }) h'
  rw [e2] at e
  exact Option.some.inj e
structure PrtRel (B : Nat) (w : World) (A C : List UInt8) (n : Nat) (acc : List UInt8) (wx : World) : Prop where
  text : acc = A ++ C
  len : acc.length ≤ n
  bel : Below B w wx
  bld : Bld B B acc wx
theorem PrtRel.next {B : Nat} {w : World} {A C C' : List UInt8} {n n' : Nat} {acc x : List UInt8} {wx wy wz : World} (h : PrtRel B w A C n acc wx) (hc : C' = C ++ x) (hl : n + x.length ≤ n') (h1 : Below B wx wy) (h2 : Below B wy wz) (hb : Bld B B (acc ++ x) wz) : PrtRel B w A C' n' (acc ++ x) wz :=
  ⟨by rw [h.text, hc, List.append_assoc], by rw [List.length_append]; have := h.len; omega, (h.bel.trans h1).trans h2, hb⟩
theorem cat59 {E : ByteArray} {l : List UInt8} (h : E.data.toList = l) : (E ++ ⟨#[59]⟩).data.toList = l ++ [59] := by
  rw [ByteArray.data_append, Array.toList_append, h]
theorem cat59_size (E : ByteArray) : (E ++ ⟨#[59]⟩).size = E.size + 1 := by
  rw [ByteArray.size_append]
  rfl
theorem flat_take {α : Type} {l : List α} {k : Nat} {y : α} (h : l[k]? = some y) (f : α → List UInt8) : (l.take (k + 1)).flatMap f = (l.take k).flatMap f ++ f y := by
  obtain ⟨hk, he⟩ := List.getElem?_eq_some_iff.1 h
  rw [List.take_succ_eq_append_getElem hk, List.flatMap_append, he]
  simp

set_option maxHeartbeats 16000000 in
set_option maxRecDepth 100000 in
theorem print_any (B : Nat) (u : Value) (v : Cel.V) (w : World) (h : VIn w B u v) (hB : B ≤ w.heap.size) (hL : Laid w) :
    Calls Tryz.prog 15 #[u] w fun e w' => e = .returned (.tuple #[.string ⟨(Cel.printR v).1.toArray⟩, .int .i64 ((Cel.printR v).2 : Nat)]) ∧ Below w.heap.size w w' := by
  have hch := fun (W : World) (hb : Below w.heap.size w W) => check_any B u v W (h.below (hb.mono hB)) (Nat.le_trans hB hb.size)
  obtain ⟨A1, c1, A2, c2, rfl, ra1, ra2⟩ := h.ex
  have hnum := h.num
  have hnums := h.nums
  have hnl := h.nl
  have hsl := h.sl
  clear h
  obtain ⟨R, hR⟩ : ∃ R, Cel.printR v = R := ⟨_, rfl⟩
  rw [hR]
  unfold Cel.printR at hR
  have hcp := fun h => Cel.check_parts (v := v) h
  obtain ⟨cv, hcv⟩ : ∃ c, Cel.check v = c := ⟨_, rfl⟩
  rw [hcv] at hch hR hcp
  have hpr : Cel.print v = Cel.letter v.kind ++ [58] ++ (if v.kind < 4 then Cel.numS v.kind v.num else []) ++ v.text ++ v.nums.flatMap (Cel.numE (v.kind - 4)) ++ v.texts.flatMap Cel.textE := rfl
  obtain ⟨pv, hpv⟩ : ∃ c, Cel.print v = c := ⟨_, rfl⟩
  rw [hpv] at hpr hR
  clear hcv hpv
  obtain ⟨k0, n0, t0, ns, ts⟩ := v
  simp only at ra1 ra2 hnum hnums hch hcp hpr hnl hsl ⊢
  obtain ⟨nn, hnn⟩ : ∃ n, ns.length = n := ⟨_, rfl⟩
  obtain ⟨tn, htn⟩ : ∃ n, ts.length = n := ⟨_, rfl⟩
  obtain ⟨z, hz⟩ : ∃ z : ByteArray, (⟨t0.toArray⟩ : ByteArray) = z := ⟨_, rfl⟩
  have hzs : z.size = t0.length := by rw [← hz]; exact size_list _
  have hzd : z.data.toList = t0 := by rw [← hz]
  rw [hnn] at ra1 hch hnl ⊢
  rw [htn] at ra2 hch hsl ⊢
  rw [hz] at hch ⊢
  obtain ⟨W1, hW1⟩ : ∃ W1, w.alloc (.cells #[.int .i64 k0, .int .i64 n0, .string z, .slice A1 nn c1, .slice A2 tn c2] 25) = W1 := ⟨_, rfl⟩
  have hb1 : Below w.heap.size w W1 := by rw [← hW1]; exact (Below.refl _ w).alloc (Nat.le_refl _) _
  have k1 : Blk W1 w.heap.size 25 #[.int .i64 k0, .int .i64 n0, .string z, .slice A1 nn c1, .slice A2 tn c2] := by rw [← hW1]; exact Blk.new _ _ _
  have RA1 := Lib.hid (ra1.below (hb1.mono hB))
  have RA2 := Lib.hid (ra2.below (hb1.mono hB))
  have HB1 := Lib.hid hb1
  have HW1 := Lib.hid hW1
  have HCH := Lib.hid (hch W1 hb1)
  have HNN := Lib.hid hnn
  have HTN := Lib.hid htn
  have HNUM := Lib.hid hnum
  have HNUMS := Lib.hid hnums
  have HKB := Lib.hid k1
  have HPR := Lib.hid hpr
  have HR := Lib.hid hR
  have HCP := Lib.hid hcp
  have HZS := Lib.hid hzs
  have HZD := Lib.hid hzd
  have HL := Lib.hid hL
  obtain ⟨a0, a1, a2, a3, a4, -⟩ := val_cells k1
  clear ra1 ra2 hnn htn hz k1 hb1 hW1 hch hnum hnums hpr hR hcp hzs hzd hL
  have hu := undef_no
  go_enter Tryz.func15, Tryz.ntmps15
  go_upto_region 1 with fail
  rw [HW1.out]
  clear HW1
  go_wp2_with fail
  refine HCH.out.mono ?_
  rintro e w2 ⟨rfl, hb2⟩
  have HB2 := Lib.hid (HB1.out.trans (hb2.mono HB1.out.size))
  have HK2 := Lib.hid (HKB.out.below hb2 HKB.out.lt)
  have hwz := HB1.out.size
  have RA1' := Lib.hid (RA1.out.below (hb2.mono (Nat.le_trans hB hwz)))
  have RA2' := Lib.hid (RA2.out.below (hb2.mono (Nat.le_trans hB hwz)))
  clear hb2 a0 a1 a2 a3 a4 HCH RA1 RA2 HKB
  have hsz2 := HB2.out.size
  obtain ⟨a0, a1, a2, a3, a4, -⟩ := val_cells HK2.out
  by_cases hc0 : cv = 0
  case neg =>
    have hr : R = ([], cv) := by rw [← HR.out, if_neg hc0]
    have HRR := Lib.hid hr
    have t0 : ((cv : Int) != 0) = true := by rw [bne_iff_ne]; omega
    clear hr hc0
    go_wp2
    go_ret2
    exact ⟨by rw [HRR.out]; rfl, HB2.out⟩
  subst hc0
  have hr : R = (pv, 0) := by rw [← HR.out, if_pos rfl]
  have HRR := Lib.hid hr
  obtain ⟨p1, p2, p3, p4, p5, p6, p7, p8⟩ := HCP.out rfl
  unfold Cel.Unused at p3
  simp only [not_or] at p3
  obtain ⟨u1, u2, u3, u4⟩ := p3
  obtain ⟨m, hm⟩ : ∃ m : Nat, (m : Int) = Cel.cbase k0 - 1 := ⟨(Cel.cbase k0 - 1).toNat, by unfold Cel.cbase; split <;> omega⟩
  have hm4 : m < 4 := by unfold Cel.cbase at hm; split at hm <;> omega
  have hmi : (m : Int) < 4 := by omega
  have hmod : (k0 - 1).tmod 4 = (m : Int) := by
    rw [Int.tmod_eq_emod_of_nonneg (by omega), hm]
    unfold Cel.cbase
    split <;> omega
  have hcl := fun h => cls_at m hm4 h
  have hm1 : (m : Int) + 1 = Cel.cbase k0 := by omega
  rw [hm1] at hcl
  obtain ⟨c, hc⟩ : ∃ c, Cel.cls (Cel.cbase k0) = c := ⟨_, rfl⟩
  rw [hc] at hcl
  have hlt : Cel.letter k0 = if 4 < k0 then [c, 91, 93] else [c] := by
    unfold Cel.letter
    rw [← hc]
    unfold Cel.cbase
    split <;> rfl
  have HLT := Lib.hid hlt
  have hcb := byte_le c
  have hNL := HNN.out
  have hTL := HTN.out
  rw [hNL] at p4
  rw [hTL] at p5
  have HU := Lib.hid (⟨u1, u2, u3, u4⟩ : _ ∧ _ ∧ _ ∧ _)
  have HP6 := Lib.hid p6
  have HP7 := Lib.hid p7
  have HP8 := Lib.hid p8
  have HM1 := Lib.hid hm1
  have p4i : (nn : Int) ≤ 40 := by omega
  have p5i : (tn : Int) ≤ 40 := by omega
  clear hr HR u1 u2 u3 u4 p6 p7 p8 hm hm1 hlt hNL hTL hc HCP
  obtain ⟨W3, hW3⟩ : ∃ W3, w2.alloc (.cells #[.pointer none, .slice none 0 0] 70) = W3 := ⟨_, rfl⟩
  have hbl0 := Bld.fresh w2
  have hbl1 : Below w2.heap.size w2 (w2.alloc _) := (Below.refl _ w2).alloc (Nat.le_refl _) (.cells #[.pointer none, .slice none 0 0] 70)
  rw [hW3] at hbl0 hbl1
  have hsz3 := hbl1.size
  have hkl := HK2.out.lt
  have HK3 := Lib.hid (HK2.out.below hbl1 hkl)
  have HW3 := Lib.hid hW3
  have HB3 := Lib.hid hbl1
  have HD3 := Lib.hid hbl0
  clear hW3 hbl0 hbl1
  go_upto_region 5 with fail
  rw [HW3.out]
  clear HW3 a0 a1 a2 a3 a4
  obtain ⟨a0, a1, a2, a3, a4, -⟩ := val_cells HK3.out
  go_wp2_with fail
  refine (bld_byte w2.heap.size w2.heap.size [] (c.toNat : Int) W3 HD3.out (by omega) (by omega) (by simp) hsz3).mono ?_
  rintro e w4 ⟨rfl, hbld4, hbel4, -⟩
  rw [byte_back, List.nil_append] at hbld4
  have HB4 := Lib.hid (HB3.out.trans hbel4)
  have HD4 := Lib.hid hbld4
  have hsz4 := HB4.out.size
  clear hbld4 hbel4 a0 a1 a2 a3 a4 hcl hcb hmod
  obtain ⟨a0, a1, a2, a3, a4, -⟩ := val_cells (HK2.out.below HB4.out hkl)
  by_cases h4 : 4 < k0
  · have d4 : decide (4 < k0) = true := decide_eq_true h4
    have d44 : (k0 == 4) = false := beq_eq_false_iff_ne.2 (by omega)
    have d3 : decide (k0 < 4) = false := decide_eq_false (by omega)
    have h4i : 5 ≤ k0 := by omega
    have hn0 : n0 = 0 := by apply Decidable.not_not.1; intro e; exact HU.out.1 ⟨e, by omega⟩
    have ht0 : t0 = [] := by apply Decidable.not_not.1; intro e; exact HU.out.2.1 ⟨e, by omega⟩
    have hp := HPR.out
    rw [if_neg (show ¬ k0 < 4 by omega), ht0, HLT.out, if_pos h4] at hp
    simp only [List.append_nil] at hp
    have HP := Lib.hid hp
    have hmk0 : (m : Int) + 1 = k0 - 4 := by rw [HM1.out]; unfold Cel.cbase; rw [if_pos h4]
    have HMK := Lib.hid hmk0
    clear hn0 ht0 hp hmk0
    go_wp2_with fail
    refine (bld_str w2.heap.size w2.heap.size [c] _ w4 HD4.out (by decide) (by simp) hsz4).mono ?_
    rintro e w5 ⟨rfl, hbld5, hbel5, -⟩
    have HB5 := Lib.hid (HB4.out.trans hbel5)
    have HD5 := Lib.hid hbld5
    have hsz5 := HB5.out.size
    clear hbld5 hbel5 a0 a1 a2 a3 a4
    obtain ⟨a0, a1, a2, a3, a4, -⟩ := val_cells (HK2.out.below HB5.out hkl)
    go_wp2_with fail
    refine (bld_str w2.heap.size w2.heap.size _ _ w5 HD5.out (by decide) (by simp) hsz5).mono ?_
    rintro e w6 ⟨rfl, hbld6, hbel6, -⟩
    have HB6 := Lib.hid (HB5.out.trans hbel6)
    have HD6 : Hid (Bld w2.heap.size w2.heap.size ([c, 91, 93] ++ [58]) w6) := hbld6
    have hsz6 := HB6.out.size
    clear hbld6 hbel6 a0 a1 a2 a3 a4
    obtain ⟨a0, a1, a2, a3, a4, -⟩ := val_cells (HK2.out.below HB6.out hkl)
    go_wp2_with fail
    clear a0 a1 a2 a3 a4
    go_loopg [48] nn (fun g x wr => ∃ (k : Nat) (acc : List UInt8), x = .int .i64 k ∧ k + g = nn ∧ PrtRel w2.heap.size w2 ([c, 91, 93] ++ [58]) ((ns.take k).flatMap (Cel.numE (k0 - 4))) (4 + 25 * k) acc wr)
    case atStart => exact ⟨0, _, rfl, by omega, ⟨by simp, by simp, HB6.out, HD6.out⟩⟩
    case round =>
      obtain ⟨k, acc, rfl, hk, hrel⟩ := hrel
      have hlen := hrel.len
      have hszr := hrel.bel.size
      have HQ := Lib.hid hrel
      have HK := Lib.hid hk
      clear hrel
      cases gk with
      | zero =>
        obtain rfl : k = nn := by omega
        have hfull : (ns.take k).flatMap (Cel.numE (k0 - 4)) = ns.flatMap (Cel.numE (k0 - 4)) := by rw [List.take_of_length_le (by have := HNN.out; omega)]
        have hq := HQ.out
        rw [hfull] at hq
        have HQ2 := Lib.hid hq
        obtain ⟨a0, a1, a2, a3, a4, -⟩ := val_cells (HK2.out.below HQ.out.bel hkl)
        clear hfull hq hk HQ
        go_wp2_with fail
        clear a0 a1 a2 a3 a4
        go_loopg [62] tn (fun g x wr => ∃ (j : Nat) (acc : List UInt8), x = .int .i64 j ∧ j + g = tn ∧ PrtRel w2.heap.size w2 ([c, 91, 93] ++ [58] ++ ns.flatMap (Cel.numE (k0 - 4))) ((ts.take j).flatMap Cel.textE) (1100 + 2001 * j) acc wr)
        case atStart => exact ⟨0, acc, rfl, by omega, ⟨by rw [HQ2.out.text]; simp, by omega, HQ2.out.bel, HQ2.out.bld⟩⟩
        case round =>
          clear hlen hszr
          obtain ⟨j, acc, rfl, hj, hrel⟩ := hrel
          have hlen := hrel.len
          have hszr := hrel.bel.size
          have HQ := Lib.hid hrel
          have HJ := Lib.hid hj
          clear hrel
          cases gk with
          | zero =>
            obtain rfl : j = tn := by omega
            have hfin : acc = pv := by
              rw [HQ.out.text, HP.out, List.take_of_length_le (by have := HTN.out; omega)]
            have HF := Lib.hid hfin
            clear hfin hj
            go_wp2_with fail
            refine (bld_string w2.heap.size w2.heap.size _ _ HQ.out.bld hszr).mono ?_
            rintro e w7 ⟨rfl, hbld7, hbel7, -⟩
            go_wp2
            go_ret2
            exact ⟨by rw [HRR.out, ← HF.out]; rfl, HB2.out.trans ((HQ.out.bel.trans hbel7).mono hsz2)⟩
          | succ g =>
            have hjn : j < tn := by omega
            have hjnI : (j : Int) < tn := by omega
            have hjl : j < ts.length := by rw [HTN.out]; exact hjn
            obtain ⟨p, o, x, rfl, -, hx, hp⟩ := (RA2'.out.below (HQ.out.bel.mono (by omega))).cell hjn
            rw [List.getElem?_map, List.getElem?_eq_getElem hjl] at hx
            obtain rfl := (Option.some.inj hx).symm
            obtain ⟨y, hy⟩ : ∃ y, ts[j] = y := ⟨_, rfl⟩
            rw [hy] at hp
            unfold ST at hp
            have hyj : ts[j]? = some y := by rw [List.getElem?_eq_getElem hjl, hy]
            have hyl : y.length ≤ 1000 := longs_all HP7.out y (List.mem_of_getElem? hyj)
            have hcall := fun (W : World) (hb : Below w2.heap.size w2 W) => celEscape_any y W (by omega) (HL.out.below (HB2.out.trans (hb.mono hsz2)))
            have hel := escT_len y
            obtain ⟨zy, hzy⟩ : ∃ zy : ByteArray, (⟨y.toArray⟩ : ByteArray) = zy := ⟨_, rfl⟩
            obtain ⟨E, hE⟩ : ∃ E : ByteArray, (⟨(Cel.escT y).toArray⟩ : ByteArray) = E := ⟨_, rfl⟩
            have hEs : E.size = (Cel.escT y).length := by rw [← hE]; exact size_list _
            have hEd : E.data.toList = Cel.escT y := by rw [← hE]
            rw [hzy] at hp hcall
            rw [hE] at hcall
            have HC := Lib.hid (hcall _ HQ.out.bel)
            have HEd := Lib.hid hEd
            have hEl : E.size ≤ 2000 := by omega
            have HEl := Lib.hid (show (Cel.escT y).length ≤ 2000 by omega)
            have hfl := Lib.hid (flat_take hyj Cel.textE)
            clear hx hj hjl hy hyj hyl hcall hel hzy hE hEs hEd
            go_wp2_with fail
            refine HC.out.mono ?_
            rintro e w7 ⟨rfl, hb7⟩
            have HB7 := Lib.hid hb7
            have hbld := HQ.out.bld.below hb7
            have HD7 := Lib.hid hbld
            have hsz7 := Nat.le_trans hszr hb7.size
            clear hb7 hbld
            go_wp2_with fail
            have q1 : (E ++ ⟨#[59]⟩).size < 1073741824 := by rw [cat59_size]; omega
            have q2 : acc.length < 1073741824 := by omega
            have q3 := bld_str w2.heap.size w2.heap.size acc (E ++ ⟨#[59]⟩) w7 HD7.out q1 q2 hsz7
            clear q1 q2
            refine q3.mono ?_
            rintro e w8 ⟨rfl, hbld8, hbel8, -⟩
            rw [cat59 HEd.out] at hbld8
            have hel2 := HEl.out
            have HN := Lib.hid (HQ.out.next (n' := 1100 + 2001 * (j + 1)) (x := Cel.textE y) hfl.out (by unfold Cel.textE; rw [List.length_append, List.length_singleton]; omega) (HB7.out.mono hszr) hbel8 hbld8)
            clear hel2 q3
            clear hbld8 hbel8
            go_wp2
            go_roundg g
            case measure => omega
            case rel => exact ⟨j + 1, _, int_eq' (by omega), by have := HJ.out; omega, HN.out⟩
      | succ g =>
        have hkn : k < nn := by omega
        have hknI : (k : Int) < nn := by omega
        have hkl' : k < ns.length := by rw [HNN.out]; exact hkn
        obtain ⟨p, o, x, rfl, -, hx, hp⟩ := (RA1'.out.below (HQ.out.bel.mono (by omega))).cell hkn
        rw [List.getElem?_map, List.getElem?_eq_getElem hkl'] at hx
        obtain rfl := (Option.some.inj hx).symm
        obtain ⟨y, hy⟩ : ∃ y, ns[k] = y := ⟨_, rfl⟩
        rw [hy] at hp
        unfold I64 at hp
        have hyk : ns[k]? = some y := by rw [List.getElem?_eq_getElem hkl', hy]
        have hyi : Cel.In64 y := HNUMS.out y (List.mem_of_getElem? hyk)
        have hk8 : k0 ≠ 8 := fun e => HU.out.2.2.1 ⟨fun h => by rw [h] at hkl'; simp at hkl', .inr e⟩
        have hw8 := HP8.out
        rw [if_neg (show ¬ k0 < 4 by omega)] at hw8
        have hyw := numsWrong_all hw8 y (List.mem_of_getElem? hyk)
        have hcall := fun (W : World) (hb : Below w2.heap.size w2 W) => printNum_any (k0 - 4) y W (by omega) (by omega) hyi hyw (HL.out.below (HB2.out.trans (hb.mono hsz2)))
        have hel := numS_len (k0 - 4) y hyi
        obtain ⟨E, hE⟩ : ∃ E : ByteArray, (⟨(Cel.numS (k0 - 4) y).toArray⟩ : ByteArray) = E := ⟨_, rfl⟩
        have hEs : E.size = (Cel.numS (k0 - 4) y).length := by rw [← hE]; exact size_list _
        have hEd : E.data.toList = Cel.numS (k0 - 4) y := by rw [← hE]
        have hmi2 : (m : Int) < 3 := by have := HMK.out; omega
        rw [hE, ← HMK.out] at hcall
        have HC := Lib.hid (hcall _ HQ.out.bel)
        have HEd := Lib.hid hEd
        have hEl : E.size ≤ 24 := by omega
        have HEl := Lib.hid (show (Cel.numS (k0 - 4) y).length ≤ 24 by omega)
        have hfl := Lib.hid (flat_take hyk (Cel.numE (k0 - 4)))
        clear hx hk hkl' hy hyk hyi hk8 hw8 hyw hcall hel hE hEs hEd
        go_wp2_with fail
        refine HC.out.mono ?_
        rintro e w7 ⟨rfl, hb7⟩
        have HB7 := Lib.hid hb7
        have hbld := HQ.out.bld.below hb7
        have HD7 := Lib.hid hbld
        have hsz7 := Nat.le_trans hszr hb7.size
        clear hb7 hbld
        go_wp2_with fail
        have q1 : (E ++ ⟨#[59]⟩).size < 1073741824 := by rw [cat59_size]; omega
        have q2 : acc.length < 1073741824 := by omega
        have q3 := bld_str w2.heap.size w2.heap.size acc (E ++ ⟨#[59]⟩) w7 HD7.out q1 q2 hsz7
        clear q1 q2
        refine q3.mono ?_
        rintro e w8 ⟨rfl, hbld8, hbel8, -⟩
        rw [cat59 HEd.out] at hbld8
        have hel2 := HEl.out
        have HN := Lib.hid (HQ.out.next (n' := 4 + 25 * (k + 1)) (x := Cel.numE (k0 - 4) y) hfl.out (by unfold Cel.numE; rw [List.length_append, List.length_singleton]; omega) (HB7.out.mono hszr) hbel8 hbld8)
        clear hel2 q3
        clear hbld8 hbel8
        go_wp2
        go_roundg g
        case measure => omega
        case rel => exact ⟨k + 1, _, int_eq' (by omega), by have := HK.out; omega, HN.out⟩
  · have d4 : decide (4 < k0) = false := decide_eq_false h4
    have h4i : k0 ≤ 4 := by omega
    have hns : ns = [] := by apply Decidable.not_not.1; intro e; exact HU.out.2.2.1 ⟨e, .inl (by omega)⟩
    have hts : ts = [] := by apply Decidable.not_not.1; intro e; exact HU.out.2.2.2 ⟨e, by omega⟩
    subst hns hts
    obtain rfl : nn = 0 := HNN.out.symm
    obtain rfl : tn = 0 := HTN.out.symm
    have hp := HPR.out
    rw [HLT.out, if_neg h4, List.flatMap_nil, List.flatMap_nil, List.append_nil, List.append_nil] at hp
    go_wp2_with fail
    refine (bld_str w2.heap.size w2.heap.size [c] _ w4 HD4.out (by decide) (by simp) hsz4).mono ?_
    rintro e w6 ⟨rfl, hbld6, hbel6, -⟩
    have HB6 := Lib.hid (HB4.out.trans hbel6)
    have HD6 : Hid (Bld w2.heap.size w2.heap.size ([c] ++ [58]) w6) := hbld6
    have hsz6 := HB6.out.size
    clear hbld6 hbel6 a0 a1 a2 a3 a4
    obtain ⟨a0, a1, a2, a3, a4, -⟩ := val_cells (HK2.out.below HB6.out hkl)
    by_cases h44 : k0 = 4
    · subst h44
      rw [if_neg (show ¬ (4 : Int) < 4 by omega), List.append_nil] at hp
      have HP := Lib.hid hp
      have hzl : z.size < 1073741824 := by have := HZS.out; have := HP6.out; omega
      clear hp h4 d4
      go_wp2_with fail
      refine (bld_str w2.heap.size w2.heap.size _ z w6 HD6.out hzl (by simp) hsz6).mono ?_
      rintro e w7 ⟨rfl, hbld7, hbel7, -⟩
      rw [HZD.out, ← HP.out] at hbld7
      have HB7 := Lib.hid (HB6.out.trans hbel7)
      have HD7 := Lib.hid hbld7
      have hsz7 := HB7.out.size
      clear hbld7 hbel7 a0 a1 a2 a3 a4
      obtain ⟨a0, a1, a2, a3, a4, -⟩ := val_cells (HK2.out.below HB7.out hkl)
      go_wp2_with fail
      clear a0 a1 a2 a3 a4
      go_loopg [48] 0 (fun g x wr => x = .int .i64 0 ∧ w7 = wr ∧ g = 0)
      case atStart => exact ⟨rfl, rfl, rfl⟩
      case round =>
        obtain ⟨rfl, rfl, hg0⟩ := hrel
        cases gk with
        | succ g => omega
        | zero =>
          obtain ⟨a0, a1, a2, a3, a4, -⟩ := val_cells (HK2.out.below HB7.out hkl)
          go_wp2_with fail
          clear a0 a1 a2 a3 a4
          go_loopg [62] 0 (fun g x wr => x = .int .i64 0 ∧ w7 = wr ∧ g = 0)
          case atStart => exact ⟨rfl, rfl, rfl⟩
          case round =>
            obtain ⟨rfl, rfl, hg0⟩ := hrel
            cases gk with
            | succ g => omega
            | zero =>
              go_wp2_with fail
              refine (bld_string w2.heap.size w2.heap.size _ _ HD7.out hsz7).mono ?_
              rintro e wE ⟨rfl, hbldE, hbelE, -⟩
              go_wp2
              go_ret2
              exact ⟨by rw [HRR.out]; rfl, HB2.out.trans ((HB7.out.trans hbelE).mono hsz2)⟩
    · have h43 : k0 < 4 := by omega
      have d44 : (k0 == 4) = false := beq_eq_false_iff_ne.2 h44
      have d3 : decide (k0 < 4) = true := decide_eq_true h43
      have ht0 : t0 = [] := by apply Decidable.not_not.1; intro e; exact HU.out.2.1 ⟨e, by omega⟩
      rw [if_pos h43, ht0, List.append_nil] at hp
      have HP := Lib.hid hp
      have hw8 := HP8.out
      rw [if_pos h43] at hw8
      have hcall := printNum_any k0 n0 w6 (by omega) (by omega) HNUM.out hw8 (HL.out.below (HB2.out.trans (HB6.out.mono hsz2)))
      have hel := numS_len k0 n0 HNUM.out
      obtain ⟨E, hE⟩ : ∃ E : ByteArray, (⟨(Cel.numS k0 n0).toArray⟩ : ByteArray) = E := ⟨_, rfl⟩
      have hEs : E.size = (Cel.numS k0 n0).length := by rw [← hE]; exact size_list _
      have hEd : E.data.toList = Cel.numS k0 n0 := by rw [← hE]
      rw [hE] at hcall
      have HC := Lib.hid hcall
      have HEd := Lib.hid hEd
      have hEl : E.size < 1073741824 := by omega
      clear hp h4 d4 h44 ht0 hw8 hcall hel hE hEs hEd
      go_wp2_with fail
      refine HC.out.mono ?_
      rintro e w7 ⟨rfl, hb7⟩
      have HB7 := Lib.hid (HB6.out.trans (hb7.mono hsz6))
      have hbld := HD6.out.below hb7
      have HD7 := Lib.hid hbld
      have hsz7 := HB7.out.size
      clear hb7 hbld a0 a1 a2 a3 a4
      go_wp2_with fail
      have q3 := bld_str w2.heap.size w2.heap.size ([c] ++ [58]) E w7 HD7.out hEl (by simp) hsz7
      refine q3.mono ?_
      rintro e w8 ⟨rfl, hbld8, hbel8, -⟩
      rw [HEd.out, ← HP.out] at hbld8
      have HB8 := Lib.hid (HB7.out.trans hbel8)
      have HD8 := Lib.hid hbld8
      have hsz8 := HB8.out.size
      clear hbld8 hbel8 q3
      obtain ⟨a0, a1, a2, a3, a4, -⟩ := val_cells (HK2.out.below HB8.out hkl)
      go_wp2_with fail
      clear a0 a1 a2 a3 a4
      go_loopg [48] 0 (fun g x wr => x = .int .i64 0 ∧ w8 = wr ∧ g = 0)
      case atStart => exact ⟨rfl, rfl, rfl⟩
      case round =>
        obtain ⟨rfl, rfl, hg0⟩ := hrel
        cases gk with
        | succ g => omega
        | zero =>
          obtain ⟨a0, a1, a2, a3, a4, -⟩ := val_cells (HK2.out.below HB8.out hkl)
          go_wp2_with fail
          clear a0 a1 a2 a3 a4
          go_loopg [62] 0 (fun g x wr => x = .int .i64 0 ∧ w8 = wr ∧ g = 0)
          case atStart => exact ⟨rfl, rfl, rfl⟩
          case round =>
            obtain ⟨rfl, rfl, hg0⟩ := hrel
            cases gk with
            | succ g => omega
            | zero =>
              go_wp2_with fail
              refine (bld_string w2.heap.size w2.heap.size _ _ HD8.out hsz8).mono ?_
              rintro e wE ⟨rfl, hbldE, hbelE, -⟩
              go_wp2
              go_ret2
              exact ⟨by rw [HRR.out]; rfl, HB2.out.trans ((HB8.out.trans hbelE).mono hsz2)⟩
end Go.Proofs.YtoofbflplhbpbaaGreatDoor
