/- Layer 5 (number): exponent, the program's. -/
import Derived.Test.YtoofbflplhbpbaaGreatDoorNumParse
namespace Go.Proofs.YtoofbflplhbpbaaGreatDoor
open Go.RowKit

def ExpRes (r : Option Int) (w : World) (e : Ending) (w' : World) : Prop := ∃ v, e = .returned (.tuple #[.int .i64 v, .bool r.isSome]) ∧ (∀ x, r = some x → v = x) ∧ Below w.heap.size w w'
theorem ExpRes.none_ {r : Option Int} {w w' : World} {v : Int} (h : r = none) (hb : Below w.heap.size w w') : ExpRes r w (.returned (.tuple #[.int .i64 v, .bool false])) w' := by
  subst h
  exact ⟨v, rfl, (fun x hx => by cases hx), hb⟩
theorem ExpRes.some_ {r : Option Int} {w w' : World} {v : Int} (h : r = some v) (hb : Below w.heap.size w w') : ExpRes r w (.returned (.tuple #[.int .i64 v, .bool true])) w' := by
  subst h
  exact ⟨v, rfl, fun x hx => Option.some.inj hx, hb⟩
theorem expG_cons (c : UInt8) (r : List UInt8) : Num.expG (c :: r) = if r = [] ∨ 4 < r.length ∨ (c ≠ 112 ∧ c ≠ 109) ∨ Num.isInt r = false ∨ r.head? = some 45 ∨ (c = 109 ∧ r = [48]) then none else
    if Num.expR c r ≤ 1023 ∧ -1074 ≤ Num.expR c r then some (Num.expR c r) else none := rfl
theorem undef_no (b : Bool) : (some undef = some (Value.bool b)) = False := by simp [undef]
theorem byte_beq (x y : UInt8) : ((x.toNat : Int) == (y.toNat : Int)) = decide (x = y) := by
  by_cases h : x = y
  · rw [decide_eq_true h, h]; simp
  · rw [decide_eq_false h, beq_eq_false_iff_ne]
    intro e
    exact h (UInt8.toNat_inj.1 (by omega))

set_option maxHeartbeats 4000000 in
set_option maxRecDepth 100000 in
theorem exponent_any (s : ByteArray) (w : World) (hs : s.size ≤ 1073741824) :
    Calls Tryz.prog 173 #[.string s] w (ExpRes (Num.expG s.data.toList) w) := by
  obtain ⟨l, hl⟩ : ∃ l, s.data.toList = l := ⟨_, rfl⟩
  have hsz : s.size = l.length := by rw [Lib.size_eq, hl]
  have hsg : ∀ (k : Nat) (h : k < s.size), l[k]? = some (s[k]'h) := fun k h => by rw [← hl]; exact Lib.data_getElem? s k h
  obtain ⟨R, hR⟩ : ∃ R, Num.expG l = R := ⟨_, rfl⟩
  rw [hl, hR]
  by_cases h2 : s.size < 2
  · have hr : R = none := by
      rw [← hR]
      cases l with
      | nil => rfl
      | cons c r =>
        have : r = [] := List.eq_nil_of_length_eq_zero (by simp at hsz; omega)
        rw [expG_cons, if_pos (.inl this)]
    have HR := Lib.hid hr
    have t1 : (s.size : Int) < 2 := by omega
    have t1' : decide ((s.size : Int) < 2) = true := decide_eq_true t1
    have hu := undef_no
    clear hr hR hsg hsz hl h2
    go_enter Tryz.func173, Tryz.ntmps173
    go_wp2
    go_ret2
    exact ExpRes.none_ HR.out (Below.refl _ _)
  · obtain ⟨c, d, r', rfl⟩ : ∃ c d r', l = c :: d :: r' := by
      cases l with
      | nil => rw [List.length_nil] at hsz; omega
      | cons c r =>
        cases r with
        | nil => rw [List.length_singleton] at hsz; omega
        | cons d r' => exact ⟨c, d, r', rfl⟩
    have t1 : (2 : Int) ≤ s.size := by omega
    have hp0 : 0 < s.size := by omega
    have hp1 : 1 < s.size := by omega
    have hp0' : (0 : Int) < s.size := by omega
    have hp1' : (1 : Int) < s.size := by omega
    have hp1'' : (1 : Int) ≤ s.size := by omega
    have e0 : s[0]'hp0 = c := by have := hsg 0 hp0; simpa using this.symm
    have e1 : s[1]'hp1 = d := by have := hsg 1 hp1; simpa using this.symm
    have hu := undef_no
    obtain ⟨z, hz⟩ : ∃ z, s.extract 1 s.size = z := ⟨_, rfl⟩
    have hzl : z.data.toList = d :: r' := by
      rw [← hz, Lib.extract_data, hl]
      simp
      rw [List.take_of_length_le]
      simp at hsz ⊢
      omega
    have hzs : z.size = r'.length + 1 := by rw [Lib.size_eq, hzl]; rfl
    have hrl : (d :: r').length + 1 = s.size := by rw [hsz]; rfl
    have hrl2 : r'.length + 2 = s.size := by rw [hsz]; rfl
    rw [expG_cons] at hR
    by_cases h5 : 5 < s.size
    · rw [if_pos (.inr (.inl (by omega)))] at hR
      have HR := Lib.hid hR.symm
      have t2 : (5 : Int) < s.size := by omega
      clear hR hsg hsz hl h2 h5 e0 e1 hzl hzs hrl hrl2 hz
      go_enter Tryz.func173, Tryz.ntmps173
      go_wp2
      go_ret2
      exact ExpRes.none_ HR.out (Below.refl _ _)
    · have t2 : (s.size : Int) ≤ 5 := by omega
      by_cases hpm : c ≠ 112 ∧ c ≠ 109
      · rw [if_pos (.inr (.inr (.inl hpm)))] at hR
        have HR := Lib.hid hR.symm
        have t3 : (((s[0]'hp0).toNat : Int) != 112) = true := by rw [e0, bne, show (112 : Int) = ((112 : UInt8).toNat : Int) from rfl, byte_beq, decide_eq_false hpm.1]; rfl
        have t4 : (((s[0]'hp0).toNat : Int) != 109) = true := by rw [e0, bne, show (109 : Int) = ((109 : UInt8).toNat : Int) from rfl, byte_beq, decide_eq_false hpm.2]; rfl
        clear hR hsg hsz hl h2 h5 e0 e1 hzl hzs hrl hrl2 hz hpm
        go_enter Tryz.func173, Tryz.ntmps173
        go_wp2
        go_ret2
        exact ExpRes.none_ HR.out (Below.refl _ _)
      · have hcc : c = 112 ∨ c = 109 := by
          by_cases h : c = 112
          · exact .inl h
          · exact .inr (Classical.byContradiction fun h' => hpm ⟨h, h'⟩)
        have hI := isInt_any z w (by omega)
        rw [hzl] at hI
        rcases hcc with hcv | hcv
        · subst hcv
          have t3 : (((s[0]'hp0).toNat : Int) != 112) = false := by rw [e0]; rfl
          have t4 : (((s[0]'hp0).toNat : Int) != 109) = true := by rw [e0]; rfl
          have t9 : (((s[0]'hp0).toNat : Int) == 109) = false := by rw [e0]; rfl
          cases hi : Num.isInt (d :: r') with
          | false =>
            rw [hi] at hI
            rw [if_pos (.inr (.inr (.inr (.inl hi))))] at hR
            have HR := Lib.hid hR.symm
            have HI := Lib.hid hI
            clear hR hsg hsz hl h2 h5 e0 e1 hzl hzs hrl hrl2 hI hi hpm
            go_enter Tryz.func173, Tryz.ntmps173
            go_wp2_with fail
            refine HI.out.mono ?_
            rintro e w' ⟨rfl, rfl⟩
            go_wp2
            go_ret2
            exact ExpRes.none_ HR.out (Below.refl _ _)
          | true =>
            rw [hi] at hI
            by_cases hd45 : d = 45
            · rw [if_pos (.inr (.inr (.inr (.inr (.inl (by rw [hd45]; rfl))))))] at hR
              have HR := Lib.hid hR.symm
              have HI := Lib.hid hI
              have t5 : (((s[1]'hp1).toNat : Int) == 45) = true := by rw [e1, hd45]; rfl
              clear hR hsg hsz hl h2 h5 e0 e1 hzl hzs hrl hrl2 hI hi hpm hd45
              go_enter Tryz.func173, Tryz.ntmps173
              go_wp2_with fail
              refine HI.out.mono ?_
              rintro e w' ⟨rfl, rfl⟩
              go_wp2
              go_ret2
              exact ExpRes.none_ HR.out (Below.refl _ _)
            · have t5 : (((s[1]'hp1).toNat : Int) == 45) = false := by rw [e1, show (45 : Int) = ((45 : UInt8).toNat : Int) from rfl, byte_beq, decide_eq_false hd45]
              have hhd : (d :: r' : List UInt8).head? ≠ some 45 := by simp [hd45]
              have hg := Num.isInt_head hi hhd
              have hlen : ¬ 4 < (d :: r' : List UInt8).length := by omega
              rw [if_neg (by
                rintro (h | h | h | h | h | h)
                · cases h
                · exact hlen h
                · exact hpm h
                · rw [hi] at h; cases h
                · exact hhd h
                · exact absurd h.1 (by decide))] at hR
              have t6 : (s.toList == [109, 48]) = false := by
                rw [Lib.toList_data, hl]
                rfl
              have hk : Num.valD 0 (d :: r') < 10000 := by
                have h1 := Num.valD_lt (d :: r') 0 hg.1
                have h3 : 10 ^ (d :: r' : List UInt8).length ≤ 10 ^ 4 := Nat.pow_le_pow_right (by decide) (by omega)
                have e4 : (10 : Nat) ^ 4 = 10000 := by decide
                omega
              obtain ⟨k, hkk⟩ : ∃ k, Num.valD 0 (d :: r') = k := ⟨_, rfl⟩
              have hat : Lib.atoiAll z.data.toList = .ok (k : Int) := by
                rw [hzl, ← Lib.parseIntB_64]
                have := Num.lib_parse hg
                rw [hkk] at this
                rw [show (d :: r' : List UInt8) = Num.sg false ++ (d :: r') from rfl, this, if_neg (by unfold Num.over; simp; omega)]
                rfl
              rw [hkk] at hk
              have hE : Num.expR 112 (d :: r') = (k : Int) := by rw [Num.expR_p (by decide), hkk]
              rw [hE] at hR
              have hca := (Tryz.strconv_Atoi_ok z (by omega) (k : Int) hat w).mono fun e w' ⟨h1, h2⟩ => (⟨h1, below_bytesWorld h2⟩ : e = Ending.returned (.tuple #[.int .i64 (k : Int), .nilIface]) ∧ Below w.heap.size w w')
              have HCA := Lib.hid hca
              have HR := Lib.hid hR.symm
              have HI := Lib.hid hI
              have hki : (k : Int) ≤ 9999 := by omega
              have hki0 : (0 : Int) ≤ k := by omega
              clear hR hsg hsz hl h2 h5 e0 e1 hzl hzs hrl hrl2 hI hi hpm hd45 hhd hg hlen hk hkk hat hE hca
              by_cases hbd : (k : Int) ≤ 1023
              · have hbd2 : -1074 ≤ (k : Int) := by omega
                have hr := HR.out
                rw [if_pos ⟨hbd, hbd2⟩] at hr
                have HR2 := Lib.hid hr
                clear hr
                go_enter Tryz.func173, Tryz.ntmps173
                go_wp2_with fail
                refine HI.out.mono ?_
                rintro e w' ⟨rfl, rfl⟩
                go_wp2_with fail
                refine HCA.out.mono ?_
                rintro e w1 ⟨rfl, hb1⟩
                have HB1 := Lib.hid hb1
                clear hb1
                go_wp2
                go_ret2
                exact ExpRes.some_ HR2.out HB1.out
              · have hr := HR.out
                rw [if_neg (by omega)] at hr
                have HR2 := Lib.hid hr
                have hbd2 : (1023 : Int) < k := by omega
                skip
                clear hr
                go_enter Tryz.func173, Tryz.ntmps173
                go_wp2_with fail
                refine HI.out.mono ?_
                rintro e w' ⟨rfl, rfl⟩
                go_wp2_with fail
                refine HCA.out.mono ?_
                rintro e w1 ⟨rfl, hb1⟩
                have HB1 := Lib.hid hb1
                clear hb1
                go_wp2
                go_ret2
                exact ExpRes.none_ HR2.out HB1.out
        · subst hcv
          have t3 : (((s[0]'hp0).toNat : Int) != 112) = true := by rw [e0]; rfl
          have t4 : (((s[0]'hp0).toNat : Int) != 109) = false := by rw [e0]; rfl
          have t9 : (((s[0]'hp0).toNat : Int) == 109) = true := by rw [e0]; rfl
          cases hi : Num.isInt (d :: r') with
          | false =>
            rw [hi] at hI
            rw [if_pos (.inr (.inr (.inr (.inl hi))))] at hR
            have HR := Lib.hid hR.symm
            have HI := Lib.hid hI
            clear hR hsg hsz hl h2 h5 e0 e1 hzl hzs hrl hrl2 hI hi hpm
            go_enter Tryz.func173, Tryz.ntmps173
            go_wp2_with fail
            refine HI.out.mono ?_
            rintro e w' ⟨rfl, rfl⟩
            go_wp2
            go_ret2
            exact ExpRes.none_ HR.out (Below.refl _ _)
          | true =>
            rw [hi] at hI
            by_cases hd45 : d = 45
            · rw [if_pos (.inr (.inr (.inr (.inr (.inl (by rw [hd45]; rfl))))))] at hR
              have HR := Lib.hid hR.symm
              have HI := Lib.hid hI
              have t5 : (((s[1]'hp1).toNat : Int) == 45) = true := by rw [e1, hd45]; rfl
              clear hR hsg hsz hl h2 h5 e0 e1 hzl hzs hrl hrl2 hI hi hpm hd45
              go_enter Tryz.func173, Tryz.ntmps173
              go_wp2_with fail
              refine HI.out.mono ?_
              rintro e w' ⟨rfl, rfl⟩
              go_wp2
              go_ret2
              exact ExpRes.none_ HR.out (Below.refl _ _)
            · have t5 : (((s[1]'hp1).toNat : Int) == 45) = false := by rw [e1, show (45 : Int) = ((45 : UInt8).toNat : Int) from rfl, byte_beq, decide_eq_false hd45]
              have hhd : (d :: r' : List UInt8).head? ≠ some 45 := by simp [hd45]
              by_cases hm0 : (d :: r' : List UInt8) = [48]
              · rw [if_pos (.inr (.inr (.inr (.inr (.inr ⟨rfl, hm0⟩)))))] at hR
                have HR := Lib.hid hR.symm
                have HI := Lib.hid hI
                have t6 : (s.toList == [109, 48]) = true := by rw [Lib.toList_data, hl, hm0]; rfl
                clear hR hsg hsz hl h2 h5 e0 e1 hzl hzs hrl hrl2 hI hi hpm hd45 hhd hm0
                go_enter Tryz.func173, Tryz.ntmps173
                go_wp2_with fail
                refine HI.out.mono ?_
                rintro e w' ⟨rfl, rfl⟩
                go_wp2
                go_ret2
                exact ExpRes.none_ HR.out (Below.refl _ _)
              · have hg := Num.isInt_head hi hhd
                have hlen : ¬ 4 < (d :: r' : List UInt8).length := by omega
                rw [if_neg (by
                  rintro (h | h | h | h | h | h)
                  · cases h
                  · exact hlen h
                  · exact hpm h
                  · rw [hi] at h; cases h
                  · exact hhd h
                  · exact hm0 h.2)] at hR
                have t6 : (s.toList == [109, 48]) = false := by
                  rw [Lib.toList_data, hl]
                  cases hq : ((109 :: d :: r' : List UInt8) == [109, 48]) with
                  | false => rfl
                  | true => exact absurd (List.cons.inj (eq_of_beq hq)).2 hm0
                have hk : Num.valD 0 (d :: r') < 10000 := by
                  have h1 := Num.valD_lt (d :: r') 0 hg.1
                  have h3 : 10 ^ (d :: r' : List UInt8).length ≤ 10 ^ 4 := Nat.pow_le_pow_right (by decide) (by omega)
                  have e4 : (10 : Nat) ^ 4 = 10000 := by decide
                  omega
                obtain ⟨k, hkk⟩ : ∃ k, Num.valD 0 (d :: r') = k := ⟨_, rfl⟩
                have hat : Lib.atoiAll z.data.toList = .ok (k : Int) := by
                  rw [hzl, ← Lib.parseIntB_64]
                  have := Num.lib_parse hg
                  rw [hkk] at this
                  rw [show (d :: r' : List UInt8) = Num.sg false ++ (d :: r') from rfl, this, if_neg (by unfold Num.over; simp; omega)]
                  rfl
                rw [hkk] at hk
                have hE : Num.expR 109 (d :: r') = -(k : Int) := by rw [Num.expR_m, hkk]
                rw [hE] at hR
                have hca := (Tryz.strconv_Atoi_ok z (by omega) (k : Int) hat w).mono fun e w' ⟨h1, h2⟩ => (⟨h1, below_bytesWorld h2⟩ : e = Ending.returned (.tuple #[.int .i64 (k : Int), .nilIface]) ∧ Below w.heap.size w w')
                have HCA := Lib.hid hca
                have HR := Lib.hid hR.symm
                have HI := Lib.hid hI
                have hki : (k : Int) ≤ 9999 := by omega
                have hki0 : (0 : Int) ≤ k := by omega
                clear hR hsg hsz hl h2 h5 e0 e1 hzl hzs hrl hrl2 hI hi hpm hd45 hhd hg hlen hk hkk hat hE hca hm0
                by_cases hbd : -1074 ≤ -(k : Int)
                · have hbd2 : -(k : Int) ≤ 1023 := by omega
                  have hr := HR.out
                  rw [if_pos ⟨hbd2, hbd⟩] at hr
                  have HR2 := Lib.hid hr
                  clear hr
                  go_enter Tryz.func173, Tryz.ntmps173
                  go_wp2_with fail
                  refine HI.out.mono ?_
                  rintro e w' ⟨rfl, rfl⟩
                  go_wp2_with fail
                  refine HCA.out.mono ?_
                  rintro e w1 ⟨rfl, hb1⟩
                  have HB1 := Lib.hid hb1
                  clear hb1
                  go_wp2
                  go_ret2
                  exact ExpRes.some_ HR2.out HB1.out
                · have hr := HR.out
                  rw [if_neg (by omega)] at hr
                  have HR2 := Lib.hid hr
                  have hbd2 : -(k : Int) < -1074 := by omega
                  have hbd3 : -(k : Int) ≤ 1023 := by omega
                  have hbd4 : (1074 : Int) < k := by omega
                  have hbd5 : decide ((k : Int) ≤ 1074) = false := decide_eq_false (by omega)
                  clear hr
                  go_enter Tryz.func173, Tryz.ntmps173
                  go_wp2_with fail
                  refine HI.out.mono ?_
                  rintro e w' ⟨rfl, rfl⟩
                  go_wp2_with fail
                  refine HCA.out.mono ?_
                  rintro e w1 ⟨rfl, hb1⟩
                  have HB1 := Lib.hid hb1
                  clear hb1
                  go_wp2
                  go_ret2
                  exact ExpRes.none_ HR2.out HB1.out
end Go.Proofs.YtoofbflplhbpbaaGreatDoor
