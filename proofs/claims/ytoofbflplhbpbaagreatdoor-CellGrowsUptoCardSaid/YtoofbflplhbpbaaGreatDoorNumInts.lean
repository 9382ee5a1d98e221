/- Layer 5 (number): isInt, ParseInt and FormatInt, the program's and the document's. -/
import Derived.Test.YtoofbflplhbpbaaGreatDoorNumBase
namespace Go.Proofs.YtoofbflplhbpbaaGreatDoor
open Go.RowKit

theorem head_beq (s : ByteArray) (h : 0 < s.size) : s.data.toList.head? = some (s[0]'h) := by
  have := Lib.data_getElem? s 0 h
  rw [List.head?_eq_getElem?, this]
theorem trim_neg (l : List UInt8) : Lib.trimPrefix l [45] = if l.head? = some 45 then l.drop 1 else l := by
  unfold Lib.trimPrefix Lib.hasPrefix
  cases l with
  | nil => simp
  | cons c t =>
    simp only [List.isPrefixOf, List.head?_cons, Option.some.injEq, List.length_singleton, List.drop_succ_cons, List.drop_zero, Bool.and_true, beq_iff_eq]
    by_cases h : c = 45
    · subst h; simp
    · rw [if_neg (fun e => h e.symm), if_neg h]

def restOk : List UInt8 → Bool
  | [] => false
  | c :: r => !(c == 48) && (c :: r).all Num.isDig
theorem isInt_rest {l : List UInt8} (h : l ≠ [48]) : Num.isInt l = restOk (if l.head? = some 45 then l.drop 1 else l) := by
  unfold Num.isInt
  rw [if_neg h]
  cases (if l.head? = some 45 then l.drop 1 else l) <;> rfl
/-- all digits so far -/
theorem all_take_succ {l : List UInt8} {k : Nat} {c : UInt8} (h : (l.take k).all Num.isDig = true) (hc : l[k]? = some c) (hd : Num.isDig c = true) : (l.take (k + 1)).all Num.isDig = true := by
  obtain ⟨hk, e⟩ := List.getElem?_eq_some_iff.1 hc
  rw [List.take_succ_eq_append_getElem hk, List.all_append, h, e]
  simp [hd]
theorem not_all {l : List UInt8} {k : Nat} {c : UInt8} (hc : l[k]? = some c) (hd : Num.isDig c = false) : l.all Num.isDig = false := by
  cases h : l.all Num.isDig with
  | false => rfl
  | true =>
    have := List.all_eq_true.1 h c (List.mem_of_getElem? hc)
    rw [hd] at this
    cases this

set_option maxHeartbeats 4000000 in
set_option maxRecDepth 100000 in
theorem isInt_any (s : ByteArray) (w : World) (hs : s.size ≤ 1073741824) :
    Calls Tryz.prog 169 #[.string s] w fun e w' => e = .returned (.bool (Num.isInt s.data.toList)) ∧ w = w' := by
  obtain ⟨l, hl⟩ : ∃ l, s.data.toList = l := ⟨_, rfl⟩
  have htp := (Tryz.strings_TrimPrefix s ⟨#[45]⟩ w).mono fun e w' (h : _ ∧ w' = w) => (⟨h.1, h.2.symm⟩ : _ ∧ w = w')
  have e45 : (⟨#[45]⟩ : ByteArray).data.toList = [45] := rfl
  rw [e45, trim_neg, hl] at htp
  have hsz : l.length = s.size := by rw [← hl, Lib.size_eq]
  rw [hl]
  by_cases h48 : l = [48]
  · have hb : (s.toList == [48]) = true := by rw [Lib.toList_data, hl, h48]; rfl
    have hr : Num.isInt l = true := by unfold Num.isInt; rw [if_pos h48]
    rw [hr]
    clear htp hl h48 hr hsz
    go_enter Tryz.func169, Tryz.ntmps169
    go_wp2
    go_ret
    exact ⟨rfl, rfl⟩
  · have hb : (s.toList == [48]) = false := by
      rw [Lib.toList_data, hl]
      cases h : l == [48] with
      | false => rfl
      | true => exact absurd (eq_of_beq h) h48
    obtain ⟨r, hr⟩ : ∃ r, (if l.head? = some 45 then l.drop 1 else l) = r := ⟨_, rfl⟩
    have hi := isInt_rest h48
    rw [hr] at hi
    rw [hr] at htp
    have hrl : r.length ≤ 1073741824 := by
      rw [← hr]
      split
      · simp; omega
      · omega
    obtain ⟨z, hz⟩ : ∃ z : ByteArray, (⟨r.toArray⟩ : ByteArray) = z := ⟨_, rfl⟩
    have hzl : z.data.toList = r := by rw [← hz]
    have hzs : z.size = r.length := by rw [← hz, size_list]
    rw [hz] at htp
    have HTP := Lib.hid htp
    have HI := Lib.hid hi
    have HZ := Lib.hid hzl
    have HZS := Lib.hid hzs
    clear htp hi hzl hzs hz hr hl h48 hsz
    cases r with
    | nil =>
      have hzn : z.toList.isEmpty = true := by rw [Lib.toList_data, HZ.out]; rfl
      have hze : (z.toList == []) = true := by rw [Lib.toList_data, HZ.out]; rfl
      rw [HI.out]
      show Calls _ _ _ _ fun e w' => e = .returned (.bool false) ∧ w = w'
      clear HI
      go_enter Tryz.func169, Tryz.ntmps169
      go_wp2_with fail
      refine HTP.out.mono ?_
      rintro e w' ⟨rfl, rfl⟩
      go_wp2
      go_ret
      exact ⟨rfl, rfl⟩
    | cons c t =>
      have hpos : 0 < z.size := by rw [HZS.out]; simp
      have hz0 : z[0]'hpos = c := by
        have h1 := Lib.data_getElem? z 0 hpos
        rw [HZ.out] at h1
        simpa using h1.symm
      have hzn : z.toList.isEmpty = false := by rw [Lib.toList_data, HZ.out]; rfl
      have hze : (z.toList == []) = false := by rw [Lib.toList_data, HZ.out]; rfl
      rw [HI.out]
      clear HI
      obtain ⟨n, hn⟩ : ∃ n, z.size = n := ⟨_, rfl⟩
      by_cases hc48 : c = 48
      · have hb0 : (((z[0]'hpos).toNat : Int) == 48) = true := by rw [hz0, hc48]; rfl
        have hres : restOk (c :: t) = false := by subst hc48; rfl
        rw [hres]
        have HZ0 := Lib.hid hz0
        clear hz0 hn hres
        go_enter Tryz.func169, Tryz.ntmps169
        go_wp2_with fail
        refine HTP.out.mono ?_
        rintro e w' ⟨rfl, rfl⟩
        go_wp2
        go_ret
        exact ⟨rfl, rfl⟩
      · have hb0 : (((z[0]'hpos).toNat : Int) == 48) = false := by
          rw [hz0, beq_eq_false_iff_ne]
          intro e
          exact hc48 (UInt8.toNat_inj.1 (by show c.toNat = 48; omega))
        have hres : restOk (c :: t) = (c :: t).all Num.isDig := by
          unfold restOk
          simp [hc48]
        rw [hres, ← HZ.out]
        have hzb : z.size ≤ 1073741824 := by rw [HZS.out]; exact hrl
        have HRL := Lib.hid hrl
        clear hz0 hn hres hrl
        go_enter Tryz.func169, Tryz.ntmps169
        go_wp2_with fail
        refine HTP.out.mono ?_
        rintro e w' ⟨rfl, rfl⟩
        go_wp2
        go_loopg [17] z.size (fun g i wr => ∃ k : Nat, k + g = z.size ∧ i = .int .i64 k ∧ w = wr ∧ (z.data.toList.take k).all Num.isDig = true)
        case atStart => exact ⟨0, by omega, rfl, rfl, by simp⟩
        case round =>
          obtain ⟨k, hk, rfl, rfl, hall⟩ := hrel
          have HK := Lib.hid hk
          have HA := Lib.hid hall
          clear hk hall
          cases gk with
          | zero =>
            have hkz : k = z.size := by have := HK.out; omega
            have hfin : z.data.toList.all Num.isDig = true := by
              have := HA.out
              rwa [List.take_of_length_le (by rw [hkz, Lib.size_eq]; exact Nat.le_refl _)] at this
            have HF := Lib.hid hfin
            have hkd : decide (k < z.size) = false := decide_eq_false (by omega)
            clear hfin hkz
            go_wp2
            go_ret
            exact ⟨by rw [HF.out]; rfl, rfl⟩
          | succ g =>
            have hlt : k < z.size := by have := HK.out; omega
            have hlt' : (k : Int) < z.size := by omega
            obtain ⟨x, hx⟩ : ∃ x, z[k]'hlt = x := ⟨_, rfl⟩
            have hget := Lib.data_getElem? z k hlt
            rw [hx] at hget
            have HG := Lib.hid hget
            by_cases hd : 48 ≤ x.toNat ∧ x.toNat ≤ 57
            · have t1 : decide (((z[k]'hlt).toNat : Int) < 48) = false := by rw [hx]; exact decide_eq_false (by omega)
              have t2 : decide (57 < ((z[k]'hlt).toNat : Int)) = false := by rw [hx]; exact decide_eq_false (by omega)
              have HD := Lib.hid hd
              clear hx hget hd
              go_wp2
              go_roundg g
              case measure => omega
              case rel => exact ⟨k + 1, by have := HK.out; omega, by go_num, rfl, all_take_succ HA.out HG.out ((Num.isDig_iff x).2 HD.out)⟩
            · have hno : Num.isDig x = false := by
                cases h : Num.isDig x with
                | false => rfl
                | true => exact absurd ((Num.isDig_iff x).1 h) hd
              have HNO := Lib.hid (not_all hget hno)
              clear hget hno
              by_cases h48 : x.toNat < 48
              · have t1 : decide (((z[k]'hlt).toNat : Int) < 48) = true := by rw [hx]; exact decide_eq_true (by omega)
                clear hx hd
                go_wp2
                go_ret
                exact ⟨by rw [HNO.out]; rfl, rfl⟩
              · have t1 : decide (((z[k]'hlt).toNat : Int) < 48) = false := by rw [hx]; exact decide_eq_false (by omega)
                have t2 : decide (57 < ((z[k]'hlt).toNat : Int)) = true := by rw [hx]; exact decide_eq_true (by omega)
                clear hx hd
                go_wp2
                go_ret
                exact ⟨by rw [HNO.out]; rfl, rfl⟩

/-- number.FormatInt -/
theorem fmtInt_any (n : Int) (w : World) (h0 : -9223372036854775808 ≤ n) (h1 : n ≤ 9223372036854775807) (hL : Laid w) :
    Calls Tryz.prog 44 #[.int .i64 n] w fun e w' => e = .returned (.string ⟨(Lib.itoa n).toArray⟩) ∧ Below w.heap.size w w' := by
  have H := Lib.hid (formatInt_any n w h0 h1 hL)
  clear hL
  go_enter Tryz.func44, Tryz.ntmps44
  go_wp2_with fail
  refine H.out.mono ?_
  rintro e w1 ⟨rfl, hb⟩
  have HB := Lib.hid hb
  clear hb
  go_wp2
  go_ret
  exact ⟨rfl, HB.out⟩

theorem err_not_nil (w : World) (a : Addr) : (binOp .neq 72 (.iface 307 (.pointer (some a))) .nilIface).run Tryz.prog w = .ok (.bool true) w := by kernel_rfl
/-- how a whole number's parse ends -/
def IntRes (x : Int × Nat) (w : World) (e : Ending) (w' : World) : Prop := e = .returned (.tuple #[.int .i64 x.1, .int .i64 x.2]) ∧ Below w.heap.size w w'

set_option maxHeartbeats 4000000 in
/-- number.ParseInt -/
theorem parseInt_any (s : ByteArray) (w : World) (hs : s.size ≤ 1073741824) (hL : Laid w) :
    Calls Tryz.prog 121 #[.string s] w (IntRes (Num.parseInt s.data.toList) w) := by
  have hI := isInt_any s w hs
  cases hi : Num.isInt s.data.toList with
  | false =>
    rw [hi] at hI
    rw [Num.parseInt_bad hi]
    have HI := Lib.hid hI
    clear hI hi hL
    go_enter Tryz.func121, Tryz.ntmps121
    go_wp2_with fail
    refine HI.out.mono ?_
    rintro e w' ⟨rfl, rfl⟩
    go_wp2
    go_ret2
    exact ⟨rfl, Below.refl _ _⟩
  | true =>
    rw [hi] at hI
    rcases Num.lib_parse_isInt hi with ⟨v, h1, h2⟩ | ⟨h1, h2⟩
    · rw [h2]
      have hc := (Tryz.strconv_ParseInt_10_at64_ok s (by omega) v h1 w).mono fun e w' ⟨he, hw⟩ => (⟨he, below_bytesWorld hw⟩ : e = Ending.returned (.tuple #[.int .i64 v, .nilIface]) ∧ Below w.heap.size w w')
      have HI := Lib.hid hI
      have HC := Lib.hid hc
      clear hI hi hL h1 h2 hc
      go_enter Tryz.func121, Tryz.ntmps121
      go_wp2_with fail
      refine HI.out.mono ?_
      rintro e w' ⟨rfl, rfl⟩
      go_wp2_with fail
      refine HC.out.mono ?_
      rintro e w1 ⟨rfl, hb⟩
      have HB := Lib.hid hb
      clear hb
      go_wp2
      go_ret2
      exact ⟨rfl, HB.out⟩
    · rw [h2]
      obtain ⟨tp, p, hv⟩ := hL.rng
      have hc := Tryz.strconv_ParseInt_10_at64_range_var s (by omega) h1 tp p w hv
      have HI := Lib.hid hI
      have HC := Lib.hid hc
      clear hI hi hL h1 h2 hc hv
      go_enter Tryz.func121, Tryz.ntmps121
      go_wp2_with fail
      refine HI.out.mono ?_
      rintro e w' ⟨rfl, rfl⟩
      go_wp2_with fail
      refine HC.out.mono ?_
      rintro e w1 ⟨N, rfl, -, -, hb⟩
      have HB := Lib.hid hb
      have hne := err_not_nil
      clear hb
      go_wp2
      go_ret2
      exact ⟨rfl, HB.out⟩

/-! the document's -/
theorem conv_one (w : World) (x : Int) (b : UInt8) (h : (b.toNat : Int) = x) :
    (convert 55 9 (.slice (some ⟨w.heap.size, 0, none⟩) 1 1)).run Tryz.prog (w.alloc (.cells #[.int .u8 x] 5)) = .ok (.string ⟨#[b]⟩) (w.alloc (.cells #[.int .u8 x] 5)) := by
  have := run_convert_bytes_back (P := Tryz.prog) (w.alloc (.cells #[.int .u8 x] 5)) 55 9 5 ⟨w.heap.size, 0, none⟩ 1 [b] Tryz.underlying55 Tryz.underlying5 Tryz.underlying9 (fun j hj => by
    have hj0 : j = 0 := by simp at hj; omega
    subst hj0
    simp [Addr.add, h])
  exact this
theorem nDigits_le : ∀ k u : Nat, u < 10 ^ (k + 1) → Lib.nDigits u ≤ k + 1
  | 0, u, hu => by rw [Lib.nDigits_small (by simpa using hu)]; omega
  | k + 1, u, hu => by
    by_cases hs : u < 10
    · rw [Lib.nDigits_small hs]; omega
    · rw [Lib.nDigits_big hs]
      have := nDigits_le k (u / 10) (by rw [Nat.pow_succ] at hu; omega)
      omega
theorem str_app (a b : List UInt8) : (⟨a.toArray⟩ ++ ⟨b.toArray⟩ : ByteArray) = ⟨(a ++ b).toArray⟩ := by
  apply ByteArray.ext
  simp
theorem dig_toNat {d : Nat} (h : d < 10) : ((UInt8.ofNat (48 + d)).toNat : Int) = 48 + (d : Int) := by rw [Num.ofNat_dig h]; omega

set_option maxHeartbeats 4000000 in
set_option maxRecDepth 100000 in
theorem digits_any (n : Nat) (w : World) (hn : n < 18446744073709551616) :
    Calls Tryz.prog 132 #[.int .u64 n] w fun e w' => e = .returned (.string ⟨(Lib.decDigits n).toArray⟩) ∧ Below w.heap.size w w' := by
  have hn' : (n : Int) ≤ 18446744073709551615 := by omega
  go_enter Tryz.func132, Tryz.ntmps132
  go_wp2
  go_loopg [0, 3] n (fun g a b wr => ∃ (m : Nat) (acc : List UInt8), m ≤ g ∧ m ≤ n ∧ a = .int .u64 m ∧ b = .string ⟨acc.toArray⟩ ∧ Lib.decDigits n = Lib.decDigits m ++ acc ∧ Below w.heap.size w wr)
  case atStart => exact ⟨n, [], Nat.le_refl _, Nat.le_refl _, rfl, rfl, by simp, Below.refl _ _⟩
  case round =>
    obtain ⟨m, acc, hm, hmn, rfl, rfl, hacc, hb⟩ := hrel
    have HA := Lib.hid hacc
    have HB := Lib.hid hb
    clear hacc hb
    have hal : acc.length ≤ 20 := by
      have h1 := congrArg List.length HA.out
      rw [List.length_append, Num.dec_len, Num.dec_len] at h1
      have h2 := nDigits_le 19 n (by omega)
      omega
    by_cases h10 : m < 10
    · have hd : decide (10 ≤ (m : Int)) = false := decide_eq_false (by omega)
      have hm0 : (m : Int) < 10 := by omega
      obtain ⟨b, hbb⟩ : ∃ b, UInt8.ofNat (48 + m) = b := ⟨_, rfl⟩
      have hcv := fun wx => conv_one wx (48 + (m : Int)) b (by rw [← hbb]; exact dig_toNat (by omega))
      have hfin : Lib.decDigits n = b :: acc := by rw [HA.out, Lib.decDigits_one h10, hbb]; rfl
      have HF := Lib.hid hfin
      clear hbb hfin
      go_wp2
      go_ret
      exact ⟨by rw [HF.out, str_app]; rfl, (HB.out.alloc HB.out.size _)⟩
    · have hd : decide (10 ≤ (m : Int)) = true := decide_eq_true (by omega)
      have hm0 : (10 : Int) ≤ m := by omega
      have hmb : (m : Int) ≤ 18446744073709551615 := by omega
      obtain ⟨b, hbb⟩ : ∃ b, UInt8.ofNat (48 + m % 10) = b := ⟨_, rfl⟩
      have hcv := fun wx => conv_one wx (48 + (m : Int) % 10) b (by rw [← hbb, dig_toNat (by omega)]; omega)
      have hfin : Lib.decDigits n = Lib.decDigits (m / 10) ++ (b :: acc) := by rw [HA.out, Num.dec_step h10, hbb, List.append_assoc]; rfl
      have HF := Lib.hid hfin
      obtain ⟨g, rfl⟩ : ∃ g, gk = g + 1 := ⟨gk - 1, by omega⟩
      clear hbb hfin
      go_wp2
      go_roundg g
      case measure => omega
      case rel => exact ⟨m / 10, b :: acc, by omega, by omega, by go_num, by rw [str_app]; rfl, HF.out, HB.out.alloc HB.out.size _⟩

set_option maxHeartbeats 4000000 in
theorem refFmtInt_any (n : Int) (w : World) (h0 : -9223372036854775808 ≤ n) (h1 : n ≤ 9223372036854775807) :
    Calls Tryz.prog 75 #[.int .i64 n] w fun e w' => e = .returned (.string ⟨(Lib.itoa n).toArray⟩) ∧ Below w.heap.size w w' := by
  by_cases hn : n < 0
  · obtain ⟨m, rfl⟩ : ∃ m : Nat, n = -(m : Int) := ⟨(-n).toNat, by omega⟩
    have hm1 : (1 : Int) ≤ m := by omega
    have hm2 : (m : Int) ≤ 9223372036854775808 := by omega
    have e1 : IntKind.u64.wrap (-(m : Int)) = 18446744073709551616 - m := by rw [IntKind.wrap_u64]; omega
    have e2 : IntKind.u64.wrap (-(18446744073709551616 - (m : Int))) = m := by rw [IntKind.wrap_u64]; omega
    have hi := Lib.itoa_neg m (by omega)
    have HI := Lib.hid hi
    have hd : decide (-(m : Int) < 0) = true := decide_eq_true hn
    have hdl : (Lib.decDigits m).length ≤ 20 := by rw [Num.dec_len]; exact nDigits_le 19 m (by omega)
    obtain ⟨r, hr⟩ : ∃ r, Lib.decDigits m = r := ⟨_, rfl⟩
    have hc := digits_any m w (by omega)
    rw [hr] at hc hdl
    rw [HI.out, hr]
    have HC := Lib.hid hc
    clear hi hc HI hr
    go_enter Tryz.func75, Tryz.ntmps75
    go_wp2_with fail
    refine HC.out.mono ?_
    rintro e w1 ⟨rfl, hb⟩
    have HB := Lib.hid hb
    clear hb
    go_wp2
    go_ret
    exact ⟨congrArg (fun b => Ending.returned (Value.string b)) (str_app [45] r), HB.out⟩
  · obtain ⟨m, rfl⟩ : ∃ m : Nat, n = (m : Int) := ⟨n.toNat, by omega⟩
    have hm2 : (m : Int) ≤ 9223372036854775807 := by omega
    have hm0 : (0 : Int) ≤ m := by omega
    have e1 : IntKind.u64.wrap (m : Int) = m := by rw [IntKind.wrap_u64]; omega
    have hd : decide ((m : Int) < 0) = false := decide_eq_false hn
    have HC := Lib.hid (digits_any m w (by omega))
    rw [Lib.itoa_nonneg]
    go_enter Tryz.func75, Tryz.ntmps75
    go_wp2_with fail
    refine HC.out.mono ?_
    rintro e w1 ⟨rfl, hb⟩
    have HB := Lib.hid hb
    clear hb
    go_wp2
    go_ret
    exact ⟨rfl, HB.out⟩

theorem all_take {l : List UInt8} (h : l.all Num.isDig = true) (k : Nat) : (l.take k).all Num.isDig = true :=
  List.all_eq_true.2 fun x hx => List.all_eq_true.1 h x (List.mem_of_mem_take hx)
theorem int_eq' {k : IntKind} {a b : Int} (h : a = b) : Value.int k a = Value.int k b := by rw [h]
theorem valD_pos {r : List UInt8} {c : UInt8} (h : r.all Num.isDig = true) (h0 : r.head? = some c) : c ≠ 48 → 1 ≤ Num.valD 0 r := fun hc => by
  cases r with
  | nil => cases h0
  | cons x t =>
    simp only [List.head?_cons, Option.some.injEq] at h0
    subst h0
    simp only [List.all_cons, Bool.and_eq_true, Num.isDig_iff] at h
    have := Num.valD_mono t (0 * 10 + (x.toNat - 48))
    have h2 := Num.ne48.1 hc
    rw [Num.valD_cons]
    omega

set_option maxHeartbeats 8000000 in
set_option maxRecDepth 100000 in
theorem refParse1 (s : ByteArray) (w : World) (hs : s.size ≤ 1073741824) (hpos : 0 < s.size) (hc : (s[0]'hpos).toNat = 45) :
    Calls Tryz.prog 164 #[.string s] w (IntRes (Num.parseInt s.data.toList) w) := by
  have hb45 : (((s[0]'hpos).toNat : Int) == 45) = true := by rw [beq_iff_eq]; omega
  obtain ⟨l, hl⟩ : ∃ l, s.data.toList = l := ⟨_, rfl⟩
  have hsz : l.length = s.size := by rw [← hl, Lib.size_eq]
  have hget : ∀ (k : Nat) (h : k < s.size), l[k]? = some (s[k]'h) := fun k h => by rw [← hl]; exact Lib.data_getElem? s k h
  have hd : l.head? = some 45 := by
    rw [List.head?_eq_getElem?, hget 0 hpos]
    exact congrArg some (UInt8.toNat_inj.1 hc)
  obtain ⟨r, hr⟩ : ∃ r, l.drop 1 = r := ⟨_, rfl⟩
  have hrl : r.length + 1 = s.size := by rw [← hr, List.length_drop]; omega
  have hpi : Num.parseInt l = if r = [] ∨ (r.head? = some 48 ∧ 1 < l.length) then (0, 50) else if ¬ r.all Num.isDig = true then (0, 50) else if 19 < r.length then (0, 51) else
      if 9223372036854775808 < Num.valD 0 r then (0, 51) else (-(Num.valD 0 r : Int), 0) := by
    unfold Num.parseInt
    simp only [hd, if_true, hr]
    
  have hrg : ∀ (k : Nat) (h : k + 1 < s.size), r[k]? = some (s[k + 1]'h) := fun k h => by rw [← hr, List.getElem?_drop, Nat.add_comm]; exact hget _ h
  rw [hl, hpi]
  have HRG := Lib.hid hrg
  have HRL := Lib.hid hrl
  have HSZ := Lib.hid hsz
  clear hpi hr hd hget hl hrg hsz
  by_cases hnil : s.size = 1
  · have hrn : r = [] := List.eq_nil_of_length_eq_zero (by omega)
    rw [if_pos (.inl hrn)]
    have hE : ((1 : Int) == s.size) = true := by rw [beq_iff_eq]; omega
    have hp' : (0 : Int) < s.size := by omega
    clear hrl hrn hnil hc
    go_enter Tryz.func164, Tryz.ntmps164
    go_wp2
    go_ret2
    exact ⟨rfl, Below.refl _ _⟩
  · have hf : 1 < s.size := by omega
    have hE : ((1 : Int) == s.size) = false := by rw [beq_eq_false_iff_ne]; omega
    have hp' : (0 : Int) < s.size := by omega
    obtain ⟨c2, hc2⟩ : ∃ c, s[1]'hf = c := ⟨_, rfl⟩
    have hr0 : r.head? = some c2 := by rw [List.head?_eq_getElem?, HRG.out 0 (by omega), ← hc2]
    have hrn : r ≠ [] := fun e => by rw [e] at hr0; cases hr0
    by_cases hz : c2 = 48 ∧ 1 < s.size
    · rw [if_pos (.inr ⟨by rw [hr0, hz.1], by rw [HSZ.out]; exact hz.2⟩)]
      have t1 : (((s[1]'hf).toNat : Int) == 48) = true := by rw [hc2, hz.1]; rfl
      have t2 : decide (1 < (s.size : Int)) = true := decide_eq_true (by omega)
      have t2' : (1 : Int) < s.size := by omega
      clear hrl hrn hr0 hz hc2 hc hnil
      go_enter Tryz.func164, Tryz.ntmps164
      go_wp2
      go_ret2
      exact ⟨rfl, Below.refl _ _⟩
    · have hcond : ¬ (r = [] ∨ (r.head? = some 48 ∧ 1 < l.length)) := by
        rintro (h | ⟨h1, h2⟩)
        · exact hrn h
        · rw [hr0] at h1
          exact hz ⟨Option.some.inj h1, by rw [← HSZ.out]; exact h2⟩
      rw [if_neg hcond]
      obtain ⟨X, hX⟩ : ∃ X : Int × Nat, (if ¬ r.all Num.isDig = true then (0, 50) else if 19 < r.length then (0, 51) else
        if 9223372036854775808 < Num.valD 0 r then (0, 51) else (-(Num.valD 0 r : Int), 0)) = X := ⟨_, rfl⟩
      rw [hX]
      have HX := Lib.hid hX
      have HR0 := Lib.hid hr0
      have HRN := Lib.hid hrn
      clear hX hrn
      have h48 : c2 ≠ 48 := fun e => hz ⟨e, by omega⟩
      have t1 : (((s[1]'hf).toNat : Int) == 48) = false := by rw [hc2, beq_eq_false_iff_ne]; intro e; exact h48 (UInt8.toNat_inj.1 (by show c2.toNat = 48; omega))
      have hLE := hp'
      clear hrl hr0 hz hc2 hcond hc hnil
      go_enter Tryz.func164, Tryz.ntmps164
      go_wp2
      go_loopg [5] (s.size - 1) (fun g i wr => ∃ k : Nat, k + g = s.size ∧ 1 ≤ k ∧ i = .int .i64 k ∧ w = wr ∧ (r.take (k - 1)).all Num.isDig = true)
      case atStart => exact ⟨1, by omega, by omega, rfl, rfl, by simp⟩
      case round =>
        obtain ⟨k, hk, hkf, rfl, rfl, hall⟩ := hrel
        have HK := Lib.hid hk
        have HA := Lib.hid hall
        clear hk hall
        cases gk with
        | zero =>
          have hkz : k = s.size := by have := HK.out; omega
          have hfin : r.all Num.isDig = true := by
            have := HA.out
            rwa [List.take_of_length_le (by have := HRL.out; omega)] at this
          have HF := Lib.hid hfin
          have hx := HX.out
          rw [if_neg (by rw [hfin]; simp)] at hx
          have HX2 := Lib.hid hx
          have hkd : decide (k < s.size) = false := decide_eq_false (by omega)
          clear hfin hkz HA HX hx
          by_cases hl19 : 19 < r.length
          · have hx := HX2.out
            rw [if_pos hl19] at hx
            have HX3 := Lib.hid hx
            have h19 : (19 : Int) < (s.size : Int) - 1 := by have := HRL.out; omega
            clear hx HX2 hl19
            go_wp2
            go_ret2
            rw [← HX3.out]
            exact ⟨rfl, Below.refl _ _⟩
          · have hx := HX2.out
            rw [if_neg hl19] at hx
            have HX3 := Lib.hid hx
            have h19 : (s.size : Int) - 1 ≤ 19 := by have := HRL.out; omega
            have HL19 := Lib.hid hl19
            clear hx HX2 hl19
            go_wp2
            clear hkf HK hkd
            go_loopg [6, 7] (s.size - 1) (fun g a i wr => ∃ k : Nat, k + g = s.size ∧ 1 ≤ k ∧ i = .int .i64 k ∧ a = .int .u64 (Num.valD 0 (r.take (k - 1))) ∧ w = wr)
            case atStart => exact ⟨1, by omega, by omega, rfl, by simp [Num.valD_nil], rfl⟩
            case round =>
              obtain ⟨k, hk, hkf, rfl, rfl, rfl⟩ := hrel
              have HK := Lib.hid hk
              clear hk
              have hpre : (r.take (k - 1)).all Num.isDig = true := all_take HF.out _
              have hvl := Num.valD_lt (r.take (k - 1)) 0 hpre
              have hvlen : (r.take (k - 1)).length ≤ k - 1 := List.length_take_le _ _
              cases gk with
              | zero =>
                have hkz : k = s.size := by have := HK.out; omega
                have htk : r.take (k - 1) = r := List.take_of_length_le (by have := HRL.out; omega)
                have hvb := Num.short_lt HF.out HL19.out
                rw [htk]
                have hx := HX3.out
                have hv1 := valD_pos HF.out HR0.out
                obtain ⟨v, hv⟩ : ∃ v, Num.valD 0 r = v := ⟨_, rfl⟩
                rw [hv] at hvb hx ⊢
                rw [hv] at hv1
                have hkd : decide (k < s.size) = false := decide_eq_false (by omega)
                clear hv hkz htk hpre hvl hvlen HX3
                have hv1' : 1 ≤ v := hv1 h48
                clear hv1
                by_cases hov : 9223372036854775808 < v
                · rw [if_pos hov] at hx
                  have HX4 := Lib.hid hx
                  have hd : decide ((9223372036854775808 : Int) < v) = true := decide_eq_true (by omega)
                  have hd' : (9223372036854775808 : Int) < v := by omega
                  clear hx hov
                  go_wp2
                  go_ret2
                  rw [← HX4.out]
                  exact ⟨rfl, Below.refl _ _⟩
                · rw [if_neg hov] at hx
                  have HX4 := Lib.hid hx
                  have hd : decide ((9223372036854775808 : Int) < v) = false := decide_eq_false (by omega)
                  have hd' : (v : Int) ≤ 9223372036854775808 := by omega
                  have e1 : IntKind.u64.wrap (-(v : Int)) = 18446744073709551616 - v := by rw [IntKind.wrap_u64]; omega
                  have e2 : wrap64 (18446744073709551616 - (v : Int)) = -(v : Int) := by unfold wrap64; omega
                  clear hx hov
                  go_wp2
                  go_ret2
                  rw [← HX4.out]
                  refine ⟨?_, Below.refl _ _⟩
                  show Ending.returned (.tuple #[.int .i64 (wrap64 (18446744073709551616 - (v : Int))), .int .i64 0]) = _
                  rw [e2]
                  rfl
              | succ g =>
                have hlt : k < s.size := by have := HK.out; omega
                have hlt' : (k : Int) < s.size := by omega
                have hk1 : k - 1 + 1 = k := by omega
                have hget0 := HRG.out (k - 1) (by omega)
                obtain ⟨x, hx⟩ : ∃ x, s[k]'hlt = x := ⟨_, rfl⟩
                have hget : r[k - 1]? = some x := by rw [hget0, ← hx]; first | done | (congr 1; done) | (congr 1; simp only [hk1])
                have hdx := (Num.isDig_iff x).1 (List.all_eq_true.1 HF.out x (List.mem_of_getElem? hget))
                have hnext : Num.valD 0 (r.take (k + 1 - 1)) = Num.valD 0 (r.take (k - 1)) * 10 + (x.toNat - 48) := by
                  obtain ⟨hk2, e⟩ := List.getElem?_eq_some_iff.1 hget
                  rw [show k + 1 - 1 = (k - 1) + 1 by omega, List.take_succ_eq_append_getElem hk2, Num.valD_app, e]
                  rfl
                have hp18 : 10 ^ (r.take (k - 1)).length ≤ 10 ^ 18 := Nat.pow_le_pow_right (by decide) (by have := HL19.out; have := HRL.out; omega)
                obtain ⟨v, hv⟩ : ∃ v, Num.valD 0 (r.take (k - 1)) = v := ⟨_, rfl⟩
                rw [hv] at hnext hvl ⊢
                have hvb : (v : Int) ≤ 999999999999999999 := by
                  have h1 : (0 + 1) * 10 ^ (r.take (k - 1)).length = 10 ^ (r.take (k - 1)).length := by omega
                  have h2 : (10 : Nat) ^ 18 = 1000000000000000000 := by decide
                  omega
                have hv0 : (0 : Int) ≤ v := by omega
                have hx48 : (48 : Int) ≤ ((s[k]'hlt).toNat : Int) := by rw [hx]; omega
                have hx57 : ((s[k]'hlt).toNat : Int) ≤ 57 := by rw [hx]; omega
                have HN := Lib.hid hnext
                have HXX := Lib.hid hx
                clear hv hvl hvlen hpre hget hget0 hnext hp18 hk1 hx hdx
                go_wp2
                go_roundg g
                case measure => omega
                case rel => exact ⟨k + 1, by have := HK.out; omega, by omega, by go_num, by rw [HN.out, ← HXX.out]; exact int_eq' (by omega), rfl⟩
        | succ g =>
          have hlt : k < s.size := by have := HK.out; omega
          have hlt' : (k : Int) < s.size := by omega
          have hk1 : k - 1 + 1 = k := by omega
          have hget0 := HRG.out (k - 1) (by omega)
          obtain ⟨x, hx⟩ : ∃ x, s[k]'hlt = x := ⟨_, rfl⟩
          have hget : r[k - 1]? = some x := by rw [hget0, ← hx]; first | done | (congr 1; done) | (congr 1; simp only [hk1])
          have HG := Lib.hid hget
          by_cases hd : 48 ≤ x.toNat ∧ x.toNat ≤ 57
          · have t1 : decide (((s[k]'hlt).toNat : Int) < 48) = false := by rw [hx]; exact decide_eq_false (by omega)
            have t2 : decide (57 < ((s[k]'hlt).toNat : Int)) = false := by rw [hx]; exact decide_eq_false (by omega)
            have HD := Lib.hid hd
            clear hx hget hget0 hd hk1
            go_wp2
            go_roundg g
            case measure => omega
            case rel => exact ⟨k + 1, by have := HK.out; omega, by omega, by go_num, rfl, by rw [show k + 1 - 1 = (k - 1) + 1 by omega]; exact all_take_succ HA.out HG.out ((Num.isDig_iff x).2 HD.out)⟩
          · have hno : Num.isDig x = false := by
              cases h : Num.isDig x with
              | false => rfl
              | true => exact absurd ((Num.isDig_iff x).1 h) hd
            have hx50 := HX.out
            rw [if_pos (by rw [not_all hget hno]; simp)] at hx50
            have HX5 := Lib.hid hx50
            clear hget hget0 hno HX hx50 hk1
            by_cases h48 : x.toNat < 48
            · have t1 : decide (((s[k]'hlt).toNat : Int) < 48) = true := by rw [hx]; exact decide_eq_true (by omega)
              clear hx hd
              go_wp2
              go_ret2
              rw [← HX5.out]
              exact ⟨rfl, Below.refl _ _⟩
            · have t1 : decide (((s[k]'hlt).toNat : Int) < 48) = false := by rw [hx]; exact decide_eq_false (by omega)
              have t2 : decide (57 < ((s[k]'hlt).toNat : Int)) = true := by rw [hx]; exact decide_eq_true (by omega)
              clear hx hd
              go_wp2
              go_ret2
              rw [← HX5.out]
              exact ⟨rfl, Below.refl _ _⟩

set_option maxHeartbeats 8000000 in
set_option maxRecDepth 100000 in
theorem refParse0 (s : ByteArray) (w : World) (hs : s.size ≤ 1073741824) (hpos : 0 < s.size) (hc : (s[0]'hpos).toNat ≠ 45) :
    Calls Tryz.prog 164 #[.string s] w (IntRes (Num.parseInt s.data.toList) w) := by
  have hb45 : (((s[0]'hpos).toNat : Int) == 45) = false := by rw [beq_eq_false_iff_ne]; omega
  obtain ⟨l, hl⟩ : ∃ l, s.data.toList = l := ⟨_, rfl⟩
  have hsz : l.length = s.size := by rw [← hl, Lib.size_eq]
  have hget : ∀ (k : Nat) (h : k < s.size), l[k]? = some (s[k]'h) := fun k h => by rw [← hl]; exact Lib.data_getElem? s k h
  have hd : l.head? ≠ some 45 := by
    rw [List.head?_eq_getElem?, hget 0 hpos]
    intro e; apply hc; rw [Option.some.inj e]; rfl
  obtain ⟨r, hr⟩ : ∃ r, l.drop 0 = r := ⟨_, rfl⟩
  have hrl : r.length + 0 = s.size := by rw [← hr, List.length_drop]; omega
  have hpi : Num.parseInt l = if r = [] ∨ (r.head? = some 48 ∧ 1 < l.length) then (0, 50) else if ¬ r.all Num.isDig = true then (0, 50) else if 19 < r.length then (0, 51) else
      if 9223372036854775808 ≤ Num.valD 0 r then (0, 51) else ((Num.valD 0 r : Int), 0) := by
    unfold Num.parseInt
    simp only [if_neg hd]
    rw [← hr, List.drop_zero]
  have hrg : ∀ (k : Nat) (h : k + 0 < s.size), r[k]? = some (s[k + 0]'h) := fun k h => by rw [← hr, List.getElem?_drop, Nat.add_comm]; exact hget _ h
  rw [hl, hpi]
  have HRG := Lib.hid hrg
  have HRL := Lib.hid hrl
  have HSZ := Lib.hid hsz
  clear hpi hr hd hget hl hrg hsz
  by_cases hnil : s.size = 0
  · have hrn : r = [] := List.eq_nil_of_length_eq_zero (by omega)
    rw [if_pos (.inl hrn)]
    have hE : ((0 : Int) == s.size) = true := by rw [beq_iff_eq]; omega
    have hp' : (0 : Int) < s.size := by omega
    clear hrl hrn hnil hc
    go_enter Tryz.func164, Tryz.ntmps164
    go_wp2
    go_ret2
    exact ⟨rfl, Below.refl _ _⟩
  · have hf : 0 < s.size := by omega
    have hE : ((0 : Int) == s.size) = false := by rw [beq_eq_false_iff_ne]; omega
    have hp' : (0 : Int) < s.size := by omega
    obtain ⟨c2, hc2⟩ : ∃ c, s[0]'hf = c := ⟨_, rfl⟩
    have hr0 : r.head? = some c2 := by rw [List.head?_eq_getElem?, HRG.out 0 (by omega), ← hc2]
    have hrn : r ≠ [] := fun e => by rw [e] at hr0; cases hr0
    by_cases hz : c2 = 48 ∧ 1 < s.size
    · rw [if_pos (.inr ⟨by rw [hr0, hz.1], by rw [HSZ.out]; exact hz.2⟩)]
      have t1 : (((s[0]'hf).toNat : Int) == 48) = true := by rw [hc2, hz.1]; rfl
      have t2 : decide (1 < (s.size : Int)) = true := decide_eq_true (by omega)
      have t2' : (1 : Int) < s.size := by omega
      clear hrl hrn hr0 hz hc2 hc hnil
      go_enter Tryz.func164, Tryz.ntmps164
      go_wp2
      go_ret2
      exact ⟨rfl, Below.refl _ _⟩
    · have hcond : ¬ (r = [] ∨ (r.head? = some 48 ∧ 1 < l.length)) := by
        rintro (h | ⟨h1, h2⟩)
        · exact hrn h
        · rw [hr0] at h1
          exact hz ⟨Option.some.inj h1, by rw [← HSZ.out]; exact h2⟩
      rw [if_neg hcond]
      obtain ⟨X, hX⟩ : ∃ X : Int × Nat, (if ¬ r.all Num.isDig = true then (0, 50) else if 19 < r.length then (0, 51) else
        if 9223372036854775808 ≤ Num.valD 0 r then (0, 51) else ((Num.valD 0 r : Int), 0)) = X := ⟨_, rfl⟩
      rw [hX]
      have HX := Lib.hid hX
      have HR0 := Lib.hid hr0
      have HRN := Lib.hid hrn
      clear hX hrn
      by_cases h48 : c2 = 48
      · have hs1 : s.size = 1 := by
          have : ¬ 1 < s.size := fun h => hz ⟨h48, h⟩
          omega
        have t1 : (((s[0]'hf).toNat : Int) == 48) = true := by rw [hc2, h48]; rfl
        have t2 : decide (1 < (s.size : Int)) = false := decide_eq_false (by omega)
        have t2' : (s.size : Int) ≤ 1 := by omega
        clear hs1
        have hLE := hp'
        clear hrl hr0 hz hc2 hcond hc hnil
        go_enter Tryz.func164, Tryz.ntmps164
        go_wp2
        go_loopg [5] (s.size - 0) (fun g i wr => ∃ k : Nat, k + g = s.size ∧ 0 ≤ k ∧ i = .int .i64 k ∧ w = wr ∧ (r.take (k - 0)).all Num.isDig = true)
        case atStart => exact ⟨0, by omega, by omega, rfl, rfl, by simp⟩
        case round =>
          obtain ⟨k, hk, hkf, rfl, rfl, hall⟩ := hrel
          have HK := Lib.hid hk
          have HA := Lib.hid hall
          clear hk hall
          cases gk with
          | zero =>
            have hkz : k = s.size := by have := HK.out; omega
            have hfin : r.all Num.isDig = true := by
              have := HA.out
              rwa [List.take_of_length_le (by have := HRL.out; omega)] at this
            have HF := Lib.hid hfin
            have hx := HX.out
            rw [if_neg (by rw [hfin]; simp)] at hx
            have HX2 := Lib.hid hx
            have hkd : decide (k < s.size) = false := decide_eq_false (by omega)
            clear hfin hkz HA HX hx
            by_cases hl19 : 19 < r.length
            · have hx := HX2.out
              rw [if_pos hl19] at hx
              have HX3 := Lib.hid hx
              have h19 : (19 : Int) < (s.size : Int) := by have := HRL.out; omega
              clear hx HX2 hl19
              go_wp2
              go_ret2
              rw [← HX3.out]
              exact ⟨rfl, Below.refl _ _⟩
            · have hx := HX2.out
              rw [if_neg hl19] at hx
              have HX3 := Lib.hid hx
              have h19 : (s.size : Int) ≤ 19 := by have := HRL.out; omega
              have HL19 := Lib.hid hl19
              clear hx HX2 hl19
              go_wp2
              clear hkf HK hkd
              go_loopg [6, 7] (s.size - 0) (fun g a i wr => ∃ k : Nat, k + g = s.size ∧ 0 ≤ k ∧ i = .int .i64 k ∧ a = .int .u64 (Num.valD 0 (r.take (k - 0))) ∧ w = wr)
              case atStart => exact ⟨0, by omega, by omega, rfl, by simp [Num.valD_nil], rfl⟩
              case round =>
                obtain ⟨k, hk, hkf, rfl, rfl, rfl⟩ := hrel
                have HK := Lib.hid hk
                clear hk
                have hpre : (r.take (k - 0)).all Num.isDig = true := all_take HF.out _
                have hvl := Num.valD_lt (r.take (k - 0)) 0 hpre
                have hvlen : (r.take (k - 0)).length ≤ k - 0 := List.length_take_le _ _
                cases gk with
                | zero =>
                  have hkz : k = s.size := by have := HK.out; omega
                  have htk : r.take (k - 0) = r := List.take_of_length_le (by have := HRL.out; omega)
                  have hvb := Num.short_lt HF.out HL19.out
                  rw [htk]
                  have hx := HX3.out
                  have hv1 := valD_pos HF.out HR0.out
                  obtain ⟨v, hv⟩ : ∃ v, Num.valD 0 r = v := ⟨_, rfl⟩
                  rw [hv] at hvb hx ⊢
                  rw [hv] at hv1
                  have hkd : decide (k < s.size) = false := decide_eq_false (by omega)
                  clear hv hkz htk hpre hvl hvlen HX3
                  clear hv1
                  by_cases hov : 9223372036854775808 ≤ v
                  · rw [if_pos hov] at hx
                    have HX4 := Lib.hid hx
                    have hd : decide ((9223372036854775808 : Int) ≤ v) = true := decide_eq_true (by omega)
                    have hd' : (9223372036854775808 : Int) ≤ v := by omega
                    clear hx hov
                    go_wp2
                    go_ret2
                    rw [← HX4.out]
                    exact ⟨rfl, Below.refl _ _⟩
                  · rw [if_neg hov] at hx
                    have HX4 := Lib.hid hx
                    have hd : decide ((9223372036854775808 : Int) ≤ v) = false := decide_eq_false (by omega)
                    have hd' : (v : Int) ≤ 9223372036854775807 := by omega
                    have hd0 : (0 : Int) ≤ v := by omega
                    clear hx hov
                    go_wp2
                    go_ret2
                    rw [← HX4.out]
                    exact ⟨rfl, Below.refl _ _⟩
                | succ g =>
                  have hlt : k < s.size := by have := HK.out; omega
                  have hlt' : (k : Int) < s.size := by omega
                  have hk1 : k - 0 + 0 = k := by omega
                  have hget0 := HRG.out (k - 0) (by omega)
                  obtain ⟨x, hx⟩ : ∃ x, s[k]'hlt = x := ⟨_, rfl⟩
                  have hget : r[k - 0]? = some x := by rw [hget0, ← hx]; first | done | (congr 1; done) | (congr 1; simp only [hk1])
                  have hdx := (Num.isDig_iff x).1 (List.all_eq_true.1 HF.out x (List.mem_of_getElem? hget))
                  have hnext : Num.valD 0 (r.take (k + 1 - 0)) = Num.valD 0 (r.take (k - 0)) * 10 + (x.toNat - 48) := by
                    obtain ⟨hk2, e⟩ := List.getElem?_eq_some_iff.1 hget
                    rw [show k + 1 - 0 = (k - 0) + 1 by omega, List.take_succ_eq_append_getElem hk2, Num.valD_app, e]
                    rfl
                  have hp18 : 10 ^ (r.take (k - 0)).length ≤ 10 ^ 18 := Nat.pow_le_pow_right (by decide) (by have := HL19.out; have := HRL.out; omega)
                  obtain ⟨v, hv⟩ : ∃ v, Num.valD 0 (r.take (k - 0)) = v := ⟨_, rfl⟩
                  rw [hv] at hnext hvl ⊢
                  have hvb : (v : Int) ≤ 999999999999999999 := by
                    have h1 : (0 + 1) * 10 ^ (r.take (k - 0)).length = 10 ^ (r.take (k - 0)).length := by omega
                    have h2 : (10 : Nat) ^ 18 = 1000000000000000000 := by decide
                    omega
                  have hv0 : (0 : Int) ≤ v := by omega
                  have hx48 : (48 : Int) ≤ ((s[k]'hlt).toNat : Int) := by rw [hx]; omega
                  have hx57 : ((s[k]'hlt).toNat : Int) ≤ 57 := by rw [hx]; omega
                  have HN := Lib.hid hnext
                  have HXX := Lib.hid hx
                  clear hv hvl hvlen hpre hget hget0 hnext hp18 hk1 hx hdx
                  go_wp2
                  go_roundg g
                  case measure => omega
                  case rel => exact ⟨k + 1, by have := HK.out; omega, by omega, by go_num, by rw [HN.out, ← HXX.out]; exact int_eq' (by omega), rfl⟩
          | succ g =>
            have hlt : k < s.size := by have := HK.out; omega
            have hlt' : (k : Int) < s.size := by omega
            have hk1 : k - 0 + 0 = k := by omega
            have hget0 := HRG.out (k - 0) (by omega)
            obtain ⟨x, hx⟩ : ∃ x, s[k]'hlt = x := ⟨_, rfl⟩
            have hget : r[k - 0]? = some x := by rw [hget0, ← hx]; first | done | (congr 1; done) | (congr 1; simp only [hk1])
            have HG := Lib.hid hget
            by_cases hd : 48 ≤ x.toNat ∧ x.toNat ≤ 57
            · have t1 : decide (((s[k]'hlt).toNat : Int) < 48) = false := by rw [hx]; exact decide_eq_false (by omega)
              have t2 : decide (57 < ((s[k]'hlt).toNat : Int)) = false := by rw [hx]; exact decide_eq_false (by omega)
              have HD := Lib.hid hd
              clear hx hget hget0 hd hk1
              go_wp2
              go_roundg g
              case measure => omega
              case rel => exact ⟨k + 1, by have := HK.out; omega, by omega, by go_num, rfl, by rw [show k + 1 - 0 = (k - 0) + 1 by omega]; exact all_take_succ HA.out HG.out ((Num.isDig_iff x).2 HD.out)⟩
            · have hno : Num.isDig x = false := by
                cases h : Num.isDig x with
                | false => rfl
                | true => exact absurd ((Num.isDig_iff x).1 h) hd
              have hx50 := HX.out
              rw [if_pos (by rw [not_all hget hno]; simp)] at hx50
              have HX5 := Lib.hid hx50
              clear hget hget0 hno HX hx50 hk1
              by_cases h48 : x.toNat < 48
              · have t1 : decide (((s[k]'hlt).toNat : Int) < 48) = true := by rw [hx]; exact decide_eq_true (by omega)
                clear hx hd
                go_wp2
                go_ret2
                rw [← HX5.out]
                exact ⟨rfl, Below.refl _ _⟩
              · have t1 : decide (((s[k]'hlt).toNat : Int) < 48) = false := by rw [hx]; exact decide_eq_false (by omega)
                have t2 : decide (57 < ((s[k]'hlt).toNat : Int)) = true := by rw [hx]; exact decide_eq_true (by omega)
                clear hx hd
                go_wp2
                go_ret2
                rw [← HX5.out]
                exact ⟨rfl, Below.refl _ _⟩
      · have t1 : (((s[0]'hf).toNat : Int) == 48) = false := by rw [hc2, beq_eq_false_iff_ne]; intro e; exact h48 (UInt8.toNat_inj.1 (by show c2.toNat = 48; omega))
        have hLE := hp'
        clear hrl hr0 hz hc2 hcond hc hnil
        go_enter Tryz.func164, Tryz.ntmps164
        go_wp2
        go_loopg [5] (s.size - 0) (fun g i wr => ∃ k : Nat, k + g = s.size ∧ 0 ≤ k ∧ i = .int .i64 k ∧ w = wr ∧ (r.take (k - 0)).all Num.isDig = true)
        case atStart => exact ⟨0, by omega, by omega, rfl, rfl, by simp⟩
        case round =>
          obtain ⟨k, hk, hkf, rfl, rfl, hall⟩ := hrel
          have HK := Lib.hid hk
          have HA := Lib.hid hall
          clear hk hall
          cases gk with
          | zero =>
            have hkz : k = s.size := by have := HK.out; omega
            have hfin : r.all Num.isDig = true := by
              have := HA.out
              rwa [List.take_of_length_le (by have := HRL.out; omega)] at this
            have HF := Lib.hid hfin
            have hx := HX.out
            rw [if_neg (by rw [hfin]; simp)] at hx
            have HX2 := Lib.hid hx
            have hkd : decide (k < s.size) = false := decide_eq_false (by omega)
            clear hfin hkz HA HX hx
            by_cases hl19 : 19 < r.length
            · have hx := HX2.out
              rw [if_pos hl19] at hx
              have HX3 := Lib.hid hx
              have h19 : (19 : Int) < (s.size : Int) := by have := HRL.out; omega
              clear hx HX2 hl19
              go_wp2
              go_ret2
              rw [← HX3.out]
              exact ⟨rfl, Below.refl _ _⟩
            · have hx := HX2.out
              rw [if_neg hl19] at hx
              have HX3 := Lib.hid hx
              have h19 : (s.size : Int) ≤ 19 := by have := HRL.out; omega
              have HL19 := Lib.hid hl19
              clear hx HX2 hl19
              go_wp2
              clear hkf HK hkd
              go_loopg [6, 7] (s.size - 0) (fun g a i wr => ∃ k : Nat, k + g = s.size ∧ 0 ≤ k ∧ i = .int .i64 k ∧ a = .int .u64 (Num.valD 0 (r.take (k - 0))) ∧ w = wr)
              case atStart => exact ⟨0, by omega, by omega, rfl, by simp [Num.valD_nil], rfl⟩
              case round =>
                obtain ⟨k, hk, hkf, rfl, rfl, rfl⟩ := hrel
                have HK := Lib.hid hk
                clear hk
                have hpre : (r.take (k - 0)).all Num.isDig = true := all_take HF.out _
                have hvl := Num.valD_lt (r.take (k - 0)) 0 hpre
                have hvlen : (r.take (k - 0)).length ≤ k - 0 := List.length_take_le _ _
                cases gk with
                | zero =>
                  have hkz : k = s.size := by have := HK.out; omega
                  have htk : r.take (k - 0) = r := List.take_of_length_le (by have := HRL.out; omega)
                  have hvb := Num.short_lt HF.out HL19.out
                  rw [htk]
                  have hx := HX3.out
                  have hv1 := valD_pos HF.out HR0.out
                  obtain ⟨v, hv⟩ : ∃ v, Num.valD 0 r = v := ⟨_, rfl⟩
                  rw [hv] at hvb hx ⊢
                  rw [hv] at hv1
                  have hkd : decide (k < s.size) = false := decide_eq_false (by omega)
                  clear hv hkz htk hpre hvl hvlen HX3
                  clear hv1
                  by_cases hov : 9223372036854775808 ≤ v
                  · rw [if_pos hov] at hx
                    have HX4 := Lib.hid hx
                    have hd : decide ((9223372036854775808 : Int) ≤ v) = true := decide_eq_true (by omega)
                    have hd' : (9223372036854775808 : Int) ≤ v := by omega
                    clear hx hov
                    go_wp2
                    go_ret2
                    rw [← HX4.out]
                    exact ⟨rfl, Below.refl _ _⟩
                  · rw [if_neg hov] at hx
                    have HX4 := Lib.hid hx
                    have hd : decide ((9223372036854775808 : Int) ≤ v) = false := decide_eq_false (by omega)
                    have hd' : (v : Int) ≤ 9223372036854775807 := by omega
                    have hd0 : (0 : Int) ≤ v := by omega
                    clear hx hov
                    go_wp2
                    go_ret2
                    rw [← HX4.out]
                    exact ⟨rfl, Below.refl _ _⟩
                | succ g =>
                  have hlt : k < s.size := by have := HK.out; omega
                  have hlt' : (k : Int) < s.size := by omega
                  have hk1 : k - 0 + 0 = k := by omega
                  have hget0 := HRG.out (k - 0) (by omega)
                  obtain ⟨x, hx⟩ : ∃ x, s[k]'hlt = x := ⟨_, rfl⟩
                  have hget : r[k - 0]? = some x := by rw [hget0, ← hx]; first | done | (congr 1; done) | (congr 1; simp only [hk1])
                  have hdx := (Num.isDig_iff x).1 (List.all_eq_true.1 HF.out x (List.mem_of_getElem? hget))
                  have hnext : Num.valD 0 (r.take (k + 1 - 0)) = Num.valD 0 (r.take (k - 0)) * 10 + (x.toNat - 48) := by
                    obtain ⟨hk2, e⟩ := List.getElem?_eq_some_iff.1 hget
                    rw [show k + 1 - 0 = (k - 0) + 1 by omega, List.take_succ_eq_append_getElem hk2, Num.valD_app, e]
                    rfl
                  have hp18 : 10 ^ (r.take (k - 0)).length ≤ 10 ^ 18 := Nat.pow_le_pow_right (by decide) (by have := HL19.out; have := HRL.out; omega)
                  obtain ⟨v, hv⟩ : ∃ v, Num.valD 0 (r.take (k - 0)) = v := ⟨_, rfl⟩
                  rw [hv] at hnext hvl ⊢
                  have hvb : (v : Int) ≤ 999999999999999999 := by
                    have h1 : (0 + 1) * 10 ^ (r.take (k - 0)).length = 10 ^ (r.take (k - 0)).length := by omega
                    have h2 : (10 : Nat) ^ 18 = 1000000000000000000 := by decide
                    omega
                  have hv0 : (0 : Int) ≤ v := by omega
                  have hx48 : (48 : Int) ≤ ((s[k]'hlt).toNat : Int) := by rw [hx]; omega
                  have hx57 : ((s[k]'hlt).toNat : Int) ≤ 57 := by rw [hx]; omega
                  have HN := Lib.hid hnext
                  have HXX := Lib.hid hx
                  clear hv hvl hvlen hpre hget hget0 hnext hp18 hk1 hx hdx
                  go_wp2
                  go_roundg g
                  case measure => omega
                  case rel => exact ⟨k + 1, by have := HK.out; omega, by omega, by go_num, by rw [HN.out, ← HXX.out]; exact int_eq' (by omega), rfl⟩
          | succ g =>
            have hlt : k < s.size := by have := HK.out; omega
            have hlt' : (k : Int) < s.size := by omega
            have hk1 : k - 0 + 0 = k := by omega
            have hget0 := HRG.out (k - 0) (by omega)
            obtain ⟨x, hx⟩ : ∃ x, s[k]'hlt = x := ⟨_, rfl⟩
            have hget : r[k - 0]? = some x := by rw [hget0, ← hx]; first | done | (congr 1; done) | (congr 1; simp only [hk1])
            have HG := Lib.hid hget
            by_cases hd : 48 ≤ x.toNat ∧ x.toNat ≤ 57
            · have t1 : decide (((s[k]'hlt).toNat : Int) < 48) = false := by rw [hx]; exact decide_eq_false (by omega)
              have t2 : decide (57 < ((s[k]'hlt).toNat : Int)) = false := by rw [hx]; exact decide_eq_false (by omega)
              have HD := Lib.hid hd
              clear hx hget hget0 hd hk1
              go_wp2
              go_roundg g
              case measure => omega
              case rel => exact ⟨k + 1, by have := HK.out; omega, by omega, by go_num, rfl, by rw [show k + 1 - 0 = (k - 0) + 1 by omega]; exact all_take_succ HA.out HG.out ((Num.isDig_iff x).2 HD.out)⟩
            · have hno : Num.isDig x = false := by
                cases h : Num.isDig x with
                | false => rfl
                | true => exact absurd ((Num.isDig_iff x).1 h) hd
              have hx50 := HX.out
              rw [if_pos (by rw [not_all hget hno]; simp)] at hx50
              have HX5 := Lib.hid hx50
              clear hget hget0 hno HX hx50 hk1
              by_cases h48 : x.toNat < 48
              · have t1 : decide (((s[k]'hlt).toNat : Int) < 48) = true := by rw [hx]; exact decide_eq_true (by omega)
                clear hx hd
                go_wp2
                go_ret2
                rw [← HX5.out]
                exact ⟨rfl, Below.refl _ _⟩
              · have t1 : decide (((s[k]'hlt).toNat : Int) < 48) = false := by rw [hx]; exact decide_eq_false (by omega)
                have t2 : decide (57 < ((s[k]'hlt).toNat : Int)) = true := by rw [hx]; exact decide_eq_true (by omega)
                clear hx hd
                go_wp2
                go_ret2
                rw [← HX5.out]
                exact ⟨rfl, Below.refl _ _⟩
end Go.Proofs.YtoofbflplhbpbaaGreatDoor
