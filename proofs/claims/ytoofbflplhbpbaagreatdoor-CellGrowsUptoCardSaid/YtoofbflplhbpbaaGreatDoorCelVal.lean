/- Layer 22 (cell): values as the calls have them; the document's numWrong. -/
import Derived.Test.YtoofbflplhbpbaaGreatDoorCelPlain
import Derived.Test.YtoofbflplhbpbaaGreatDoorLexRun
import Derived.Test.YtoofbflplhbpbaaGreatDoorLexEsc
import Derived.Test.YtoofbflplhbpbaaGreatDoorLexNum
import Derived.Test.YtoofbflplhbpbaaGreatDoorAppS
namespace Go.Proofs.YtoofbflplhbpbaaGreatDoor
open Go.RowKit

def I64 (n : Int) : Value := .int .i64 n
def ST (t : List UInt8) : Value := .string ⟨t.toArray⟩
/-- u is the value v, its lists lie below block B -/
structure VIn (W : World) (B : Nat) (u : Value) (v : Cel.V) : Prop where
  ex : ∃ An cn At ct, u = .agg #[.int .i64 v.kind, .int .i64 v.num, .string ⟨v.text.toArray⟩, .slice An v.nums.length cn, .slice At v.texts.length ct] ∧ Reads W B 1 An v.nums.length (v.nums.map I64) ∧ Reads W B 1 At v.texts.length (v.texts.map ST)
  kin : Cel.In64 v.kind
  num : Cel.In64 v.num
  nums : ∀ n ∈ v.nums, Cel.In64 n
  tl : v.text.length ≤ 1073741824
  nl : v.nums.length ≤ 1073741824
  sl : v.texts.length ≤ 1073741824
  sz : ∀ t ∈ v.texts, t.length ≤ 1073741824
theorem VIn.below {W W' : World} {B : Nat} {u : Value} {v : Cel.V} (h : VIn W B u v) (hb : Below B W W') : VIn W' B u v := by
  obtain ⟨An, cn, At, ct, e, h1, h2⟩ := h.ex
  exact ⟨⟨An, cn, At, ct, e, h1.below hb, h2.below hb⟩, h.kin, h.num, h.nums, h.tl, h.nl, h.sl, h.sz⟩
theorem u64_wrap (n : Int) : IntKind.u64.wrap n = (Cel.u64 n : Int) := by
  rw [IntKind.wrap_u64]
  unfold Cel.u64
  omega
theorem nan_ref (n : Int) : Cel.nanBad n = (((((Cel.u64 n / 4503599627370496) % 2048 : Nat) : Int) == 2047) && (((Cel.u64 n % 4503599627370496 : Nat) : Int) != 0) && ((Cel.u64 n : Int) != 9221120237041090560)) := by
  unfold Cel.nanBad
  have h := Cel.u64_lt n
  obtain ⟨b, hb⟩ : ∃ b, Cel.u64 n = b := ⟨_, rfl⟩
  rw [hb] at h ⊢
  rw [Bool.eq_iff_iff]
  simp only [Bool.and_eq_true, decide_eq_true_eq, beq_iff_eq, bne_iff_ne, ne_eq]
  omega

set_option maxHeartbeats 4000000 in
set_option maxRecDepth 100000 in
theorem refNumWrong_any (k n : Int) (w : World) (hk : Cel.In64 k) (hn : Cel.In64 n) :
    Calls Tryz.prog 28 #[.int .i64 k, .int .i64 n] w fun e w' => e = .returned (.int .i64 (Cel.numWrong k n : Nat)) ∧ w = w' := by
  obtain ⟨R, hR⟩ : ∃ R, Cel.numWrong k n = R := ⟨_, rfl⟩
  rw [hR]
  unfold Cel.numWrong at hR
  obtain ⟨hk1, hk2⟩ := hk
  obtain ⟨hn1, hn2⟩ := hn
  by_cases h1 : k = 1
  · subst h1
    by_cases h0 : n = 0
    · subst h0
      rw [if_neg (by omega), if_neg (by omega)] at hR
      subst hR
      go_enter Tryz.func28, Tryz.ntmps28
      go_wp2
      go_ret
      exact ⟨rfl, rfl⟩
    · by_cases h01 : n = 1
      · subst h01
        rw [if_neg (by omega), if_neg (by omega)] at hR
        subst hR
        go_enter Tryz.func28, Tryz.ntmps28
        go_wp2
        go_ret
        exact ⟨rfl, rfl⟩
      · rw [if_pos ⟨rfl, h0, h01⟩] at hR
        subst hR
        have t0 : (n != 0) = true := bne_iff_ne.2 h0
        have t1 : (n != 1) = true := bne_iff_ne.2 h01
        clear h0 h01 hk1 hk2 hn1 hn2
        go_enter Tryz.func28, Tryz.ntmps28
        go_wp2
        go_ret
        exact ⟨rfl, rfl⟩
  · have t0 : (k == 1) = false := beq_eq_false_iff_ne.2 h1
    by_cases h3 : k = 3
    · subst h3
      rw [if_neg (by omega)] at hR
      have hw := u64_wrap n
      have hnr := nan_ref n
      have hb := Cel.u64_lt n
      obtain ⟨b, hbb⟩ : ∃ b, Cel.u64 n = b := ⟨_, rfl⟩
      rw [hbb] at hw hnr hb
      obtain ⟨E, hE⟩ : ∃ E, (((b / 4503599627370496 % 2048 : Nat) : Int) == 2047) = E := ⟨_, rfl⟩
      obtain ⟨F, hF⟩ : ∃ F, (((b % 4503599627370496 : Nat) : Int) != 0) = F := ⟨_, rfl⟩
      obtain ⟨G, hG⟩ : ∃ G, ((b : Int) != 9221120237041090560) = G := ⟨_, rfl⟩
      rw [hE, hF, hG] at hnr
      obtain ⟨q, hq⟩ : ∃ q, b / 4503599627370496 = q := ⟨_, rfl⟩
      obtain ⟨e, he⟩ : ∃ e, q % 2048 = e := ⟨_, rfl⟩
      have r1 : IntKind.u64.wrap ((b : Int) / 4503599627370496) = (q : Int) := by rw [IntKind.wrap_u64]; omega
      have r2 : ((q : Int)).tmod 2048 = (e : Int) := by rw [Int.tmod_eq_emod_of_nonneg (by omega)]; omega
      have hE' : ((e : Int) == 2047) = E := by rw [← hE, hq, he]
      have hF' : (((b : Int) % 4503599627370496) != 0) = F := by rw [← hF]; congr 1
      have hu := undef_no
      have hr : R = if (E && F && G) = true then 43 else 0 := by rw [← hR, hnr]; simp
      have HR := Lib.hid hr
      have hbi : (0 : Int) ≤ b := by omega
      clear hR hr hE hF hnr hbb hb t0 h1 hk1 hk2 hn1 hn2 hq he
      cases E with
      | false =>
        go_enter Tryz.func28, Tryz.ntmps28
        go_wp2
        go_ret
        exact ⟨by rw [HR.out]; rfl, rfl⟩
      | true =>
        cases F with
        | false =>
          go_enter Tryz.func28, Tryz.ntmps28
          go_wp2
          go_ret
          exact ⟨by rw [HR.out]; rfl, rfl⟩
        | true =>
          cases G with
          | false =>
            go_enter Tryz.func28, Tryz.ntmps28
            go_wp2
            go_ret
            exact ⟨by rw [HR.out]; rfl, rfl⟩
          | true =>
            go_enter Tryz.func28, Tryz.ntmps28
            go_wp2
            go_ret
            exact ⟨by rw [HR.out]; rfl, rfl⟩
    · rw [if_neg (by omega), if_neg (by omega)] at hR
      subst hR
      have t3 : (k == 3) = false := beq_eq_false_iff_ne.2 h3
      clear h1 h3 hk1 hk2 hn1 hn2
      go_enter Tryz.func28, Tryz.ntmps28
      go_wp2
      go_ret
      exact ⟨rfl, rfl⟩
end Go.Proofs.YtoofbflplhbpbaaGreatDoor
