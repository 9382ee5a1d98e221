/- Layer 22 (cell): the program's check of numbers; slices.ContainsFunc at the long texts. -/
import Derived.Test.YtoofbflplhbpbaaGreatDoorCelSame
import Derived.Test.YtoofbflplhbpbaaGreatDoorNumFmt
namespace Go.Proofs.YtoofbflplhbpbaaGreatDoor
open Go.RowKit

namespace Cel
def cbase (k : Int) : Int := if 4 < k then k - 4 else k
end Cel
theorem nan_prog (n : Int) : Cel.nanBad n = ((((Cel.u64 n % 9223372036854775808 / 4503599627370496 : Nat) : Int) == 2047) && (((Cel.u64 n * 4096 % 18446744073709551616 : Nat) : Int) != 0) && ((Cel.u64 n : Int) != 9221120237041090560)) := by
  unfold Cel.nanBad
  have h := Cel.u64_lt n
  obtain ⟨b, hb⟩ : ∃ b, Cel.u64 n = b := ⟨_, rfl⟩
  rw [hb] at h ⊢
  rw [Bool.eq_iff_iff]
  simp only [Bool.and_eq_true, decide_eq_true_eq, beq_iff_eq, bne_iff_ne, ne_eq]
  omega

set_option maxHeartbeats 1000000 in
theorem base_any (k : Int) (w : World) (hk : Cel.In64 k) :
    Calls Tryz.prog 123 #[.int .i64 k] w fun e w' => e = .returned (.int .i64 (Cel.cbase k)) ∧ w = w' := by
  obtain ⟨h1, h2⟩ := hk
  unfold Cel.cbase
  by_cases h : 4 < k
  · rw [if_pos h]
    go_enter Tryz.func123, Tryz.ntmps123
    go_wp2
    go_ret
    exact ⟨rfl, rfl⟩
  · rw [if_neg h]
    have h' : k ≤ 4 := by omega
    go_enter Tryz.func123, Tryz.ntmps123
    go_wp2
    go_ret
    exact ⟨rfl, rfl⟩

set_option maxHeartbeats 4000000 in
set_option maxRecDepth 100000 in
theorem checkNum_any (k n : Int) (w : World) (hk : Cel.In64 k) (_hn : Cel.In64 n) :
    Calls Tryz.prog 69 #[.int .i64 k, .int .i64 n] w fun e w' => e = .returned (.int .i64 (Cel.numWrong (Cel.cbase k) n : Nat)) ∧ w = w' := by
  have hb := fun (W : World) => base_any k W hk
  obtain ⟨c, hc⟩ : ∃ c, Cel.cbase k = c := ⟨_, rfl⟩
  rw [hc] at hb ⊢
  have HB := Lib.hid hb
  obtain ⟨R, hR⟩ : ∃ R, Cel.numWrong c n = R := ⟨_, rfl⟩
  rw [hR]
  unfold Cel.numWrong at hR
  clear hk _hn hb hc
  by_cases h1 : c = 1
  · subst h1
    by_cases h0 : n = 0
    · subst h0
      rw [if_neg (by omega), if_neg (by omega)] at hR
      subst hR
      go_enter Tryz.func69, Tryz.ntmps69
      go_wp2_with fail
      refine (HB.out _).mono ?_
      rintro e w' ⟨rfl, rfl⟩
      go_wp2
      go_ret
      exact ⟨rfl, rfl⟩
    · by_cases h01 : n = 1
      · subst h01
        rw [if_neg (by omega), if_neg (by omega)] at hR
        subst hR
        go_enter Tryz.func69, Tryz.ntmps69
        go_wp2_with fail
        refine (HB.out _).mono ?_
        rintro e w' ⟨rfl, rfl⟩
        go_wp2
        go_ret
        exact ⟨rfl, rfl⟩
      · rw [if_pos ⟨rfl, h0, h01⟩] at hR
        subst hR
        have t0 : (n != 0) = true := bne_iff_ne.2 h0
        have t1 : (n != 1) = true := bne_iff_ne.2 h01
        clear h0 h01
        go_enter Tryz.func69, Tryz.ntmps69
        go_wp2_with fail
        refine (HB.out _).mono ?_
        rintro e w' ⟨rfl, rfl⟩
        go_wp2
        go_ret
        exact ⟨rfl, rfl⟩
  · have t0 : (c == 1) = false := beq_eq_false_iff_ne.2 h1
    by_cases h3 : c = 3
    · subst h3
      rw [if_neg (by omega)] at hR
      have hw := u64_wrap n
      have hnr := nan_prog n
      have hb := Cel.u64_lt n
      obtain ⟨b, hbb⟩ : ∃ b, Cel.u64 n = b := ⟨_, rfl⟩
      rw [hbb] at hw hnr hb
      obtain ⟨q, hq⟩ : ∃ q, b % 9223372036854775808 / 4503599627370496 = q := ⟨_, rfl⟩
      obtain ⟨g, hg⟩ : ∃ g, b * 4096 % 18446744073709551616 = g := ⟨_, rfl⟩
      have r1 := and_exp b hb
      rw [hq] at r1 hnr
      rw [hg] at hnr
      have r2 : IntKind.u64.wrap ((b : Int) * 4096) = (g : Int) := by rw [IntKind.wrap_u64]; omega
      obtain ⟨E, hE⟩ : ∃ E, ((q : Int) == 2047) = E := ⟨_, rfl⟩
      obtain ⟨F, hF⟩ : ∃ F, ((g : Int) != 0) = F := ⟨_, rfl⟩
      obtain ⟨G, hG⟩ : ∃ G, ((b : Int) != 9221120237041090560) = G := ⟨_, rfl⟩
      rw [hE, hF, hG] at hnr
      have hu := undef_no
      have hr : R = if (E && F && G) = true then 43 else 0 := by rw [← hR, hnr]; simp
      have HR := Lib.hid hr
      have hbi : (0 : Int) ≤ b := by omega
      clear hR hr hnr hbb hb t0 h1 hq hg
      cases E with
      | false =>
        go_enter Tryz.func69, Tryz.ntmps69
        go_wp2_with fail
        refine (HB.out _).mono ?_
        rintro e w' ⟨rfl, rfl⟩
        go_wp2
        go_ret
        exact ⟨by rw [HR.out]; rfl, rfl⟩
      | true =>
        cases F with
        | false =>
          go_enter Tryz.func69, Tryz.ntmps69
          go_wp2_with fail
          refine (HB.out _).mono ?_
          rintro e w' ⟨rfl, rfl⟩
          go_wp2
          go_ret
          exact ⟨by rw [HR.out]; rfl, rfl⟩
        | true =>
          cases G with
          | false =>
            go_enter Tryz.func69, Tryz.ntmps69
            go_wp2_with fail
            refine (HB.out _).mono ?_
            rintro e w' ⟨rfl, rfl⟩
            go_wp2
            go_ret
            exact ⟨by rw [HR.out]; rfl, rfl⟩
          | true =>
            go_enter Tryz.func69, Tryz.ntmps69
            go_wp2_with fail
            refine (HB.out _).mono ?_
            rintro e w' ⟨rfl, rfl⟩
            go_wp2
            go_ret
            exact ⟨by rw [HR.out]; rfl, rfl⟩
    · rw [if_neg (by omega), if_neg (by omega)] at hR
      subst hR
      have t3 : (c == 3) = false := beq_eq_false_iff_ne.2 h3
      clear h1 h3
      go_enter Tryz.func69, Tryz.ntmps69
      go_wp2_with fail
      refine (HB.out _).mono ?_
      rintro e w' ⟨rfl, rfl⟩
      go_wp2
      go_ret
      exact ⟨rfl, rfl⟩

set_option maxHeartbeats 1000000 in
theorem long_any (s : ByteArray) (w : World) : Calls Tryz.prog 68 #[.string s] w fun e w' => e = .returned (.bool (decide (1000 < s.size))) ∧ w = w' := by
  by_cases h : 1000 < s.size
  · rw [decide_eq_true h]
    have h' : (1000 : Int) < s.size := by omega
    have t : decide (1000 < s.size) = true := decide_eq_true h
    go_enter Tryz.func68, Tryz.ntmps68
    go_wp2
    go_ret
    exact ⟨by simp, rfl⟩
  · rw [decide_eq_false h]
    have h' : (s.size : Int) ≤ 1000 := by omega
    have t : decide (1000 < s.size) = false := decide_eq_false h
    go_enter Tryz.func68, Tryz.ntmps68
    go_wp2
    go_ret
    exact ⟨by simp; omega, rfl⟩

/-- the place of the first long text -/
def longAt : List (List UInt8) → Nat → Int
  | [], _ => -1
  | t :: r, i => if 1000 < t.length then (i : Int) else longAt r (i + 1)
theorem longAt_longs : ∀ (l : List (List UInt8)) (i : Nat), decide (0 ≤ longAt l i) = Cel.longs l
  | [], i => rfl
  | t :: r, i => by
    unfold longAt Cel.longs
    rw [List.any_cons]
    by_cases h : 1000 < t.length
    · rw [if_pos h, decide_eq_true h, Bool.true_or]
      exact decide_eq_true (by omega)
    · rw [if_neg h, decide_eq_false h, Bool.false_or]
      exact longAt_longs r (i + 1)
set_option maxHeartbeats 4000000 in
set_option maxRecDepth 100000 in
theorem indexLong_any (B : Nat) (A : Option Addr) (n c : Nat) (ts : List (List UInt8)) (w : World) (h : Reads w B 1 A n (ts.map ST)) (hn : ts.length = n) (hl : n ≤ 1073741824) (hsz : ∀ t ∈ ts, t.length ≤ 1073741824) :
    Calls Tryz.prog 124 #[.slice A n c, .func (.func 68) #[] #[]] w fun e w' => e = .returned (.int .i64 (longAt ts 0)) ∧ w = w' := by
  obtain ⟨R, hR⟩ : ∃ R, longAt ts 0 = R := ⟨_, rfl⟩
  rw [hR]
  have H := Lib.hid h
  have HN := Lib.hid hn
  have HR := Lib.hid hR
  have HSZ := Lib.hid hsz
  have HLG := Lib.hid long_any
  clear h hn hR hsz
  go_enter Tryz.func124, Tryz.ntmps124
  go_wp2_with fail
  go_loopg [8] n (fun g x wr => ∃ k : Nat, x = .int .i64 k ∧ k + g = n ∧ longAt (ts.drop k) k = R ∧ w = wr)
  case atStart => exact ⟨0, rfl, by omega, HR.out, rfl⟩
  case round =>
    obtain ⟨k, rfl, hk, hr, rfl⟩ := hrel
    have HK := Lib.hid hk
    have HRK := Lib.hid hr
    have hkI : (k : Int) ≤ 1073741824 := by omega
    clear hr
    cases gk with
    | zero =>
      obtain rfl : k = n := by omega
      have hr := HRK.out
      rw [List.drop_of_length_le (by have := HN.out; omega)] at hr
      have HRR := Lib.hid (show -1 = R from hr)
      clear hk hr
      go_wp2
      go_ret
      exact ⟨by rw [← HRR.out]; rfl, rfl⟩
    | succ g =>
      have hkn : k < n := by omega
      have hknI : (k : Int) < n := by omega
      have hkl : k < ts.length := by rw [HN.out]; exact hkn
      obtain ⟨p, o, x, rfl, -, hx, hp⟩ := H.out.cell hkn
      rw [List.getElem?_map, List.getElem?_eq_getElem hkl] at hx
      obtain rfl := (Option.some.inj hx).symm
      have hr := HRK.out
      rw [List.drop_eq_getElem_cons hkl] at hr
      have hyl : (ts[k]).length ≤ 1073741824 := HSZ.out _ (List.getElem_mem _)
      obtain ⟨y, hy⟩ : ∃ y, ts[k] = y := ⟨_, rfl⟩
      rw [hy] at hp hr hyl
      unfold ST at hp
      obtain ⟨zy, hzy⟩ : ∃ z : ByteArray, (⟨y.toArray⟩ : ByteArray) = z := ⟨_, rfl⟩
      rw [hzy] at hp
      have hzs : zy.size = y.length := by rw [← hzy]; exact size_list _
      have hcall := fun (W : World) => HLG.out zy W
      rw [hzs] at hcall
      unfold longAt at hr
      by_cases hl1 : 1000 < y.length
      · rw [if_pos hl1] at hr
        rw [decide_eq_true hl1] at hcall
        have HC := Lib.hid hcall
        have HRR := Lib.hid hr
        clear hx hk hkl hy hzy hzs hcall hr hl1 hyl
        go_wp2_with fail
        refine (HC.out _).mono ?_
        rintro e w' ⟨rfl, rfl⟩
        go_wp2
        go_ret
        exact ⟨by rw [← HRR.out]; rfl, rfl⟩
      · rw [if_neg hl1] at hr
        rw [decide_eq_false hl1] at hcall
        have HC := Lib.hid hcall
        have HRR := Lib.hid hr
        clear hx hk hkl hy hzy hzs hcall hr hl1 hyl
        go_wp2_with fail
        refine (HC.out _).mono ?_
        rintro e w' ⟨rfl, rfl⟩
        go_wp2
        go_roundg g
        case measure => omega
        case rel => exact ⟨k + 1, int_eq' (by omega), by have := HK.out; omega, HRR.out, rfl⟩
set_option maxHeartbeats 1000000 in
theorem containsLong_any (B : Nat) (A : Option Addr) (n c : Nat) (ts : List (List UInt8)) (w : World) (h : Reads w B 1 A n (ts.map ST)) (hn : ts.length = n) (hl : n ≤ 1073741824) (hsz : ∀ t ∈ ts, t.length ≤ 1073741824) :
    Calls Tryz.prog 67 #[.slice A n c, .func (.func 68) #[] #[]] w fun e w' => e = .returned (.bool (Cel.longs ts)) ∧ w = w' := by
  have hc := indexLong_any B A n c ts w h hn hl hsz
  obtain ⟨R, hR⟩ : ∃ R, longAt ts 0 = R := ⟨_, rfl⟩
  obtain ⟨L, hL⟩ : ∃ L, Cel.longs ts = L := ⟨_, rfl⟩
  have he := longAt_longs ts 0
  rw [hR, hL] at he
  rw [hR] at hc
  rw [hL]
  have HC := Lib.hid hc
  clear hc hR hL h hn hl hsz
  go_enter Tryz.func67, Tryz.ntmps67
  go_wp2_with fail
  refine HC.out.mono ?_
  rintro e w' ⟨rfl, rfl⟩
  go_wp2
  go_ret
  exact ⟨by simp, rfl⟩
end Go.Proofs.YtoofbflplhbpbaaGreatDoor
