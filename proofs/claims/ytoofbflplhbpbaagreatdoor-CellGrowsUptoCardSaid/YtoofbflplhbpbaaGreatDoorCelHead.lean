/- Layer 22 (cell): the program's head. -/
import Derived.Test.YtoofbflplhbpbaaGreatDoorCelNum
namespace Go.Proofs.YtoofbflplhbpbaaGreatDoor
open Go.RowKit

def headV : Option (Int × List UInt8) → Value
  | none => .tuple #[.int .i64 0, .string ⟨#[]⟩, .bool false]
  | some (k, r) => .tuple #[.int .i64 k, .string ⟨r.toArray⟩, .bool true]
theorem kindOf_ix_fin : ∀ c : Fin 256, Lib.indexByte [98, 105, 102, 115] (UInt8.ofNat c.val) = Cel.kindOf (UInt8.ofNat c.val) - 1 := by decide +kernel
theorem kindOf_ix (c : UInt8) : Lib.indexByte [98, 105, 102, 115] c = Cel.kindOf c - 1 := by
  have := kindOf_ix_fin ⟨c.toNat, UInt8.toNat_lt c⟩
  simp only [UInt8.ofNat_toNat] at this
  exact this
theorem kindOf_range (c : UInt8) : 0 ≤ Cel.kindOf c ∧ Cel.kindOf c ≤ 4 := by
  unfold Cel.kindOf
  repeat' split
  all_goals omega
theorem extract_drop (s : ByteArray) (a : Nat) : (s.extract a s.size).data.toList = s.data.toList.drop a := by
  rw [Lib.extract_data, List.take_of_length_le]
  rw [Lib.size_eq]
  simp
theorem trimPrefix_if (l p : List UInt8) : Lib.trimPrefix l p = if Lib.hasPrefix l p = true then l.drop p.length else l := rfl
/-- the head where there is a first byte -/
theorem headP_cons (c : UInt8) (r : List UInt8) :
    Cel.headP (c :: r) = if Cel.kindOf c = 0 ∨ Lib.hasPrefix (Lib.trimPrefix r [91, 93]) [58] = false then none else some (Cel.kindOf c + (if Lib.hasPrefix r [91, 93] = true then 4 else 0), Lib.trimPrefix (Lib.trimPrefix r [91, 93]) [58]) := by
  simp only [Cel.headP]
  cases hp : Lib.hasPrefix r [91, 93] with
  | true =>
    have e : Lib.trimPrefix r [91, 93] = r.drop 2 := by rw [trimPrefix_if, hp]; rfl
    rw [e]
    cases hq : Lib.hasPrefix (r.drop 2) [58] with
    | true =>
      have e2 : Lib.trimPrefix (r.drop 2) [58] = r.drop 3 := by rw [trimPrefix_if, hq, if_pos rfl, List.drop_drop]; rfl
      rw [e2]
      simp
    | false => simp
  | false =>
    have e : Lib.trimPrefix r [91, 93] = r := by rw [trimPrefix_if, hp]; rfl
    rw [e]
    cases hq : Lib.hasPrefix r [58] with
    | true =>
      have e2 : Lib.trimPrefix r [58] = r.drop 1 := by rw [trimPrefix_if, hq]; rfl
      rw [e2]
      simp
    | false => simp

set_option maxHeartbeats 4000000 in
set_option maxRecDepth 100000 in
theorem head_any (s : ByteArray) (w : World) (hs : s.size ≤ 1073741824) :
    Calls Tryz.prog 63 #[.string s] w fun e w' => e = .returned (headV (Cel.headP s.data.toList)) ∧ w = w' := by
  obtain ⟨R, hR⟩ : ∃ R, Cel.headP s.data.toList = R := ⟨_, rfl⟩
  rw [hR]
  cases hl : s.data.toList with
  | nil =>
    have t0 : (s.toList == []) = true := by rw [Lib.toList_data, hl]; rfl
    rw [hl] at hR
    obtain rfl : R = none := hR.symm
    clear hR hl hs
    go_enter Tryz.func63, Tryz.ntmps63
    go_wp2
    go_ret3
    exact ⟨rfl, rfl⟩
  | cons c r =>
    have t0 : (s.toList == []) = false := by rw [Lib.toList_data, hl]; rfl
    have hlen : s.data.toList.length = r.length + 1 := by rw [hl]; rfl
    rw [← Lib.size_eq] at hlen
    have h0 : 0 < s.size := by omega
    have hc : s[0]'h0 = c := by
      have := at_extract h0
      rw [hl] at this
      exact (Option.some.inj this).symm
    have hx : (s.extract 1 s.size).data.toList = r := by rw [extract_drop, hl]; rfl
    rw [hl, headP_cons] at hR
    obtain ⟨d, hd⟩ : ∃ d, Cel.kindOf c = d := ⟨_, rfl⟩
    have hdr := kindOf_range c
    have hib := fun (W : World) => Tryz.strings_IndexByte ⟨#[98, 105, 102, 115]⟩ ((s[0]'h0).toNat : Int) W
    have eib : Lib.indexByte (⟨#[98, 105, 102, 115]⟩ : ByteArray).data.toList ((((s[0]'h0).toNat : Int)).toNat.toUInt8) = d - 1 := by
      rw [byte_back, hc, ← hd]
      exact kindOf_ix c
    rw [eib] at hib
    rw [hd] at hR hdr
    have hc1 := fun (W : World) => Tryz.strings_CutPrefix (s.extract 1 s.size) ⟨#[91, 93]⟩ W
    have e1 : (⟨#[91, 93]⟩ : ByteArray).data.toList = [91, 93] := rfl
    have e2 : (⟨#[58]⟩ : ByteArray).data.toList = [58] := rfl
    rw [hx, e1] at hc1
    obtain ⟨P, hP⟩ : ∃ P, Lib.hasPrefix r [91, 93] = P := ⟨_, rfl⟩
    obtain ⟨l1, hl1⟩ : ∃ l1, Lib.trimPrefix r [91, 93] = l1 := ⟨_, rfl⟩
    obtain ⟨z1, hz1⟩ : ∃ z1 : ByteArray, (⟨l1.toArray⟩ : ByteArray) = z1 := ⟨_, rfl⟩
    rw [hP, hl1, hz1] at hc1
    have hc2 := fun (W : World) => Tryz.strings_CutPrefix z1 ⟨#[58]⟩ W
    have hz1l : z1.data.toList = l1 := by rw [← hz1]
    rw [hz1l, e2] at hc2
    obtain ⟨C, hC⟩ : ∃ C, Lib.hasPrefix l1 [58] = C := ⟨_, rfl⟩
    obtain ⟨l2, hl2⟩ : ∃ l2, Lib.trimPrefix l1 [58] = l2 := ⟨_, rfl⟩
    obtain ⟨z2, hz2⟩ : ∃ z2 : ByteArray, (⟨l2.toArray⟩ : ByteArray) = z2 := ⟨_, rfl⟩
    rw [hC, hl2, hz2] at hc2
    rw [hP, hl1, hC, hl2] at hR
    have HIB := Lib.hid hib
    have HC1 := Lib.hid hc1
    have HC2 := Lib.hid hc2
    have HZ2 := Lib.hid hz2
    obtain ⟨hd0, hd4⟩ := hdr
    have h0i : (1 : Int) ≤ s.size := by omega
    have hsi : (s.size : Int) ≤ 1073741824 := by omega
    have hr' := hR
    have HR := Lib.hid hr'
    have HX := Lib.hid hx
    clear hib hc1 hc2 hz2 hz1l hz1 hP hC hl1 hl2 hl hx hr' hR hd eib e1 e2 hlen hc
    go_enter Tryz.func63, Tryz.ntmps63
    go_wp2_with fail
    refine (HIB.out _).mono ?_
    rintro e w1 ⟨rfl, rfl⟩
    go_wp2_with fail
    refine (HC1.out _).mono ?_
    rintro e w1 ⟨rfl, rfl⟩
    go_wp2_with fail
    refine (HC2.out _).mono ?_
    rintro e w1 ⟨rfl, rfl⟩
    by_cases hd1 : d = 0
    · subst hd1
      have hr : R = none := by rw [← HR.out, if_pos (.inl rfl)]
      have HRR := Lib.hid hr
      clear hr
      go_wp2
      go_ret3
      exact ⟨by rw [HRR.out]; rfl, rfl⟩
    · have t1 : (d == 0) = false := beq_eq_false_iff_ne.2 hd1
      have t2 : (d - 1 + 1 == 0) = false := beq_eq_false_iff_ne.2 (by omega)
      cases C with
      | false =>
        have hr : R = none := by rw [← HR.out, if_pos (.inr rfl)]
        have HRR := Lib.hid hr
        clear hr hd1
        go_wp2
        go_ret3
        exact ⟨by rw [HRR.out]; rfl, rfl⟩
      | true =>
        cases P with
        | false =>
          have hr : R = some (d, l2) := by rw [← HR.out, if_neg (by rintro (h | h); exact hd1 h; cases h)]; simp
          have HRR := Lib.hid hr
          clear hr hd1
          go_wp2
          go_ret3
          exact ⟨by rw [HRR.out, headV, HZ2.out]; simp, rfl⟩
        | true =>
          have hr : R = some (d + 4, l2) := by rw [← HR.out, if_neg (by rintro (h | h); exact hd1 h; cases h)]; simp
          have HRR := Lib.hid hr
          clear hr hd1
          go_wp2
          go_ret3
          exact ⟨by rw [HRR.out, headV, HZ2.out]; congr 1, rfl⟩
end Go.Proofs.YtoofbflplhbpbaaGreatDoor
