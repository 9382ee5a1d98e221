/- Layer 22 (cell): the program's printNum, parseNum, escape. -/
import Derived.Test.YtoofbflplhbpbaaGreatDoorCelPCheck
import Derived.Test.YtoofbflplhbpbaaGreatDoorReplace
import Derived.Test.YtoofbflplhbpbaaGreatDoorNumLawsB
namespace Go.Proofs.YtoofbflplhbpbaaGreatDoor
open Go.RowKit

theorem s64_wrap {b : Nat} (h : b < 18446744073709551616) : IntKind.i64.wrap (b : Int) = Cel.s64 b := by
  rw [IntKind.wrap_i64]
  unfold Cel.s64
  split <;> omega

set_option maxHeartbeats 4000000 in
set_option maxRecDepth 100000 in
theorem printNum_any (k n : Int) (w : World) (hk1 : 1 ≤ k) (hk3 : k ≤ 3) (hn : Cel.In64 n) (hw : Cel.numWrong k n = 0) (hL : Laid w) :
    Calls Tryz.prog 32 #[.int .i64 k, .int .i64 n] w fun e w' => e = .returned (.string ⟨(Cel.numS k n).toArray⟩) ∧ Below w.heap.size w w' := by
  obtain ⟨R, hR⟩ : ∃ R, Cel.numS k n = R := ⟨_, rfl⟩
  rw [hR]
  unfold Cel.numS at hR
  by_cases h1 : k = 1
  · subst h1
    rw [if_neg (by omega), if_neg (by omega)] at hR
    by_cases h01 : n = 1
    · subst h01
      rw [if_neg (by omega)] at hR
      subst hR
      clear hw hL hn hk1 hk3
      go_enter Tryz.func32, Tryz.ntmps32
      go_wp2
      go_ret
      exact ⟨rfl, Below.refl _ _⟩
    · have h0 : n = 0 := by
        unfold Cel.numWrong at hw
        by_cases h9 : n = 0
        · exact h9
        · rw [if_pos ⟨rfl, h9, h01⟩] at hw; omega
      subst h0
      rw [if_pos rfl] at hR
      subst hR
      clear hw hL hn hk1 hk3
      go_enter Tryz.func32, Tryz.ntmps32
      go_wp2
      go_ret
      exact ⟨rfl, Below.refl _ _⟩
  by_cases h2 : k = 2
  · subst h2
    rw [if_pos rfl] at hR
    have hc := fmtInt_any n w hn.1 hn.2 hL
    rw [hR] at hc
    have HC := Lib.hid hc
    clear hw hL hn hk1 hk3 hc hR h1
    go_enter Tryz.func32, Tryz.ntmps32
    go_wp2_with fail
    refine HC.out.mono ?_
    rintro e w1 ⟨rfl, hb⟩
    have HB := Lib.hid hb
    clear hb
    go_wp2
    go_ret
    exact ⟨rfl, HB.out⟩
  · obtain rfl : k = 3 := by omega
    rw [if_neg (by omega), if_pos rfl] at hR
    have hc := fmtFloat_any (Cel.u64 n) w (Cel.u64_lt n) hL
    rw [hR] at hc
    have hwr := u64_wrap n
    obtain ⟨b, hb⟩ : ∃ b, Cel.u64 n = b := ⟨_, rfl⟩
    rw [hb] at hc hwr
    have HC := Lib.hid hc
    have hu := undef_no
    clear hw hL hn hk1 hk3 hc hR h1 h2 hb
    go_enter Tryz.func32, Tryz.ntmps32
    go_wp2_with fail
    refine HC.out.mono ?_
    rintro e w1 ⟨rfl, hb⟩
    have HB := Lib.hid hb
    clear hb
    go_wp2
    go_ret
    exact ⟨rfl, HB.out⟩

def NumRes (x : Int × Nat) (w : World) (e : Ending) (w' : World) : Prop := e = .returned (.tuple #[.int .i64 x.1, .int .i64 x.2]) ∧ Below w.heap.size w w'
set_option maxHeartbeats 4000000 in
set_option maxRecDepth 100000 in
theorem parseNum_any (k : Int) (s : ByteArray) (w : World) (hk1 : 1 ≤ k) (hk3 : k ≤ 3) (hs : s.size ≤ 1073741824) (hL : Laid w) :
    Calls Tryz.prog 65 #[.int .i64 k, .string s] w (NumRes (Cel.numP k s.data.toList) w) := by
  obtain ⟨R, hR⟩ : ∃ R, Cel.numP k s.data.toList = R := ⟨_, rfl⟩
  rw [hR]
  unfold Cel.numP at hR
  by_cases h1 : k = 1
  · subst h1
    rw [if_pos rfl] at hR
    by_cases ht : s.data.toList = Cel.TRUE
    · have t1 : (s.toList == [116, 114, 117, 101]) = true := by rw [Lib.toList_data, ht]; rfl
      rw [if_pos ht] at hR
      subst hR
      clear hL hs hk1 hk3 ht
      go_enter Tryz.func65, Tryz.ntmps65
      go_wp2
      go_ret2
      exact ⟨rfl, Below.refl _ _⟩
    · have t1 : (s.toList == [116, 114, 117, 101]) = false := by rw [Lib.toList_data]; exact beq_eq_false_iff_ne.2 ht
      rw [if_neg ht] at hR
      by_cases hf : s.data.toList = Cel.FALSE
      · have t2 : (s.toList == [102, 97, 108, 115, 101]) = true := by rw [Lib.toList_data, hf]; rfl
        rw [if_pos hf] at hR
        subst hR
        clear hL hs hk1 hk3 ht hf
        go_enter Tryz.func65, Tryz.ntmps65
        go_wp2
        go_ret2
        exact ⟨rfl, Below.refl _ _⟩
      · have t2 : (s.toList == [102, 97, 108, 115, 101]) = false := by rw [Lib.toList_data]; exact beq_eq_false_iff_ne.2 hf
        rw [if_neg hf] at hR
        subst hR
        clear hL hs hk1 hk3 ht hf
        go_enter Tryz.func65, Tryz.ntmps65
        go_wp2
        go_ret2
        exact ⟨rfl, Below.refl _ _⟩
  by_cases h2 : k = 2
  · subst h2
    rw [if_neg h1, if_pos rfl] at hR
    have hc := parseInt_any s w hs hL
    rw [hR] at hc
    obtain ⟨x, y⟩ := R
    have HC := Lib.hid hc
    clear hL hs hk1 hk3 hc hR h1
    go_enter Tryz.func65, Tryz.ntmps65
    go_wp2_with fail
    refine HC.out.mono ?_
    rintro e w1 ⟨rfl, hb⟩
    have HB := Lib.hid hb
    clear hb
    go_wp2
    go_ret2
    exact ⟨rfl, HB.out⟩
  · obtain rfl : k = 3 := by omega
    rw [if_neg (by omega), if_neg (by omega)] at hR
    have hc := parseFloat_any s w hs hL
    cases hp : Num.parse s.data.toList with
    | none =>
      rw [hp] at hR hc
      subst hR
      have hwr : IntKind.i64.wrap 0 = 0 := by decide
      have hc2 := hc.mono (R := fun e w' => e = .returned (.tuple #[.int .u64 0, .int .i64 52]) ∧ Below w.heap.size w w') (fun e w' h => h)
      have HC := Lib.hid hc2
      have hu := undef_no
      clear hL hs hk1 hk3 hc hc2 h1 h2 hp
      go_enter Tryz.func65, Tryz.ntmps65
      go_wp2_with fail
      refine HC.out.mono ?_
      rintro e w1 ⟨rfl, hb⟩
      have HB := Lib.hid hb
      clear hb
      go_wp2
      go_ret2
      exact ⟨rfl, HB.out⟩
    | some b =>
      rw [hp] at hR hc
      subst hR
      obtain ⟨-, hlt, -⟩ := Num.fmt_parse hp
      have hwr := s64_wrap hlt
      have hc2 := hc.mono (R := fun e w' => e = .returned (.tuple #[.int .u64 b, .int .i64 0]) ∧ Below w.heap.size w w') (fun e w' h => h)
      have HC := Lib.hid hc2
      have hu := undef_no
      clear hL hs hk1 hk3 hc hc2 h1 h2 hp hlt
      go_enter Tryz.func65, Tryz.ntmps65
      go_wp2_with fail
      refine HC.out.mono ?_
      rintro e w1 ⟨rfl, hb⟩
      have HB := Lib.hid hb
      clear hb
      go_wp2
      go_ret2
      exact ⟨rfl, HB.out⟩

theorem repl_escT : ∀ t : List UInt8, repl1 59 [92, 59] (repl1 92 [92, 92] t) = Cel.escT t
  | [] => rfl
  | c :: t => by
    have ih := repl_escT t
    have e : ∀ (a : UInt8) (l : List UInt8), repl1 59 [92, 59] (a :: l) = (if a = 59 then [92, 59] else [a]) ++ repl1 59 [92, 59] l := fun a l => rfl
    have e2 : repl1 92 [92, 92] (c :: t) = (if c = 92 then [92, 92] else [c]) ++ repl1 92 [92, 92] t := rfl
    unfold Cel.escT
    rw [e2]
    by_cases h1 : c = 92
    · subst h1
      rw [if_pos rfl, if_pos (.inl rfl), List.cons_append, List.cons_append, List.nil_append, e, e, ih]
      rfl
    · rw [if_neg h1, List.cons_append, List.nil_append, e, ih]
      by_cases h2 : c = 59
      · subst h2
        rw [if_pos rfl, if_pos (.inr rfl)]
        rfl
      · rw [if_neg h2, if_neg (fun h => h.elim h1 h2)]
        rfl
theorem escT_len (t : List UInt8) : (Cel.escT t).length ≤ 2 * t.length := by
  induction t with
  | nil => simp [Cel.escT]
  | cons c t ih =>
    unfold Cel.escT
    split
    · simp only [List.length_cons]; omega
    · simp only [List.length_cons]; omega

set_option maxHeartbeats 4000000 in
theorem replace1_any (t : List UInt8) (c d : UInt8) (w : World) (ht : t.length ≤ 100000) (hL : Laid w) :
    Calls Tryz.prog 72 #[.string ⟨t.toArray⟩, .string ⟨#[c]⟩, .string ⟨#[92, d]⟩] w fun e w' => e = .returned (.string ⟨(repl1 c [92, d] t).toArray⟩) ∧ Below w.heap.size w w' := by
  obtain ⟨m, hm⟩ := hL.max
  have h2 : (⟨t.toArray⟩ : ByteArray).size = t.length := by simp [ByteArray.size]
  exact (Tryz.strings_ReplaceAll ⟨t.toArray⟩ ⟨#[c]⟩ ⟨#[92, d]⟩ m w (by rw [h2]; omega) hm (Nat.le_refl 1) (by
    have := Lib.countB_le (⟨#[c]⟩ : ByteArray) (Nat.le_refl 1) (⟨t.toArray⟩ : ByteArray).size ⟨t.toArray⟩ (Nat.le_refl _)
    have h3 : (⟨#[92, d]⟩ : ByteArray).size = 2 := rfl
    rw [h2] at this ⊢
    rw [h3]
    omega)).mono fun e w' ⟨h1, h2⟩ => ⟨by
      rw [h1]
      have : Lib.replaceAll (⟨t.toArray⟩ : ByteArray).data.toList (⟨#[c]⟩ : ByteArray).data.toList (⟨#[92, d]⟩ : ByteArray).data.toList = repl1 c [92, d] t := replaceAll_one t c [92, d] (by simp)
      rw [this], h2⟩

set_option maxHeartbeats 4000000 in
set_option maxRecDepth 100000 in
theorem celEscape_any (t : List UInt8) (w : World) (ht : t.length ≤ 10000) (hL : Laid w) :
    Calls Tryz.prog 33 #[.string ⟨t.toArray⟩] w fun e w' => e = .returned (.string ⟨(Cel.escT t).toArray⟩) ∧ Below w.heap.size w w' := by
  have hl := repl1_length 92 [92, 92] t
  have h1 := replace1_any t 92 92 w (by omega) hL
  have h2 := fun (W : World) (hb : Below w.heap.size w W) => replace1_any (repl1 92 [92, 92] t) 59 59 W (by simp only [List.length_cons, List.length_nil] at hl; omega) (hL.below hb)
  rw [repl_escT] at h2
  have H1 := Lib.hid h1
  have H2 := Lib.hid h2
  obtain ⟨z, hz⟩ : ∃ z : ByteArray, (⟨t.toArray⟩ : ByteArray) = z := ⟨_, rfl⟩
  obtain ⟨y, hy⟩ : ∃ y : ByteArray, (⟨(repl1 92 [92, 92] t).toArray⟩ : ByteArray) = y := ⟨_, rfl⟩
  rw [hz] at H1 ⊢
  rw [hy] at H1 H2
  clear h1 h2 hl hL ht hz hy
  go_enter Tryz.func33, Tryz.ntmps33
  go_wp2_with fail
  refine H1.out.mono ?_
  rintro e w1 ⟨rfl, hb⟩
  have HB1 := Lib.hid hb
  clear hb
  go_wp2_with fail
  refine (H2.out w1 HB1.out).mono ?_
  rintro e w2 ⟨rfl, hb⟩
  have HB2 := Lib.hid (HB1.out.trans (hb.mono HB1.out.size))
  clear hb
  go_wp2
  go_ret
  exact ⟨rfl, HB2.out⟩
end Go.Proofs.YtoofbflplhbpbaaGreatDoor
