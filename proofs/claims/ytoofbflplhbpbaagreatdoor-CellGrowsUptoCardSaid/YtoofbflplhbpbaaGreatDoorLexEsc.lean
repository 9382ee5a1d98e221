/- Layer 24 (lexer): an escape. -/
import Derived.Test.YtoofbflplhbpbaaGreatDoorLexRun
import Derived.Test.YtoofbflplhbpbaaGreatDoorBuilder
import Derived.Deep.QuietTactic
import Derived.BigQuiet
namespace Go.Proofs.YtoofbflplhbpbaaGreatDoor
open Go.RowKit

/-- what escape tells: the byte, the number of bytes, whether there is one -/
def EscRes (r : Option (UInt8 × Nat)) (w : World) (e : Ending) (w' : World) : Prop :=
  Below w.heap.size w w' ∧ match r with
    | some (x, n) => e = .returned (.tuple #[.int .u8 x.toNat, .int .i64 n, .bool true])
    | none => ∃ c n : Int, e = .returned (.tuple #[.int .u8 c, .int .i64 n, .bool false])

theorem ret3 {P : Program} {fn : Func} {R : Ending → World → Prop} {tmps : Array Value} {W : World} {a b c : Tmp} (h : fn.results = #[.tmp a, .tmp b, .tmp c]) (hR : R (.returned (.tuple #[tmps.getD a undef, tmps.getD b undef, tmps.getD c undef])) W) :
    bodyPost P fn R .ret { tmps := tmps, defers := [] } W :=
  bodyPost_ret (v := .tuple #[tmps.getD a undef, tmps.getD b undef, tmps.getD c undef]) (by simp [results, h, go_sem]) rfl hR
theorem byte_back (c : UInt8) : ((c.toNat : Int)).toNat.toUInt8 = c := by simp
def hexO (a : Option Nat) : Int := match a with | some d => (d : Int) | none => -1
theorem hexIndex_fin : ∀ c : Fin 256, Lib.indexByte [48, 49, 50, 51, 52, 53, 54, 55, 56, 57, 97, 98, 99, 100, 101, 102] (UInt8.ofNat c.val) = hexO (Num.hexv (UInt8.ofNat c.val)) := by decide +kernel
theorem hexIndex (c : UInt8) : Lib.indexByte [48, 49, 50, 51, 52, 53, 54, 55, 56, 57, 97, 98, 99, 100, 101, 102] c = hexO (Num.hexv c) := by
  have := hexIndex_fin ⟨c.toNat, UInt8.toNat_lt c⟩
  simpa using this
theorem hexv_lt_fin : ∀ c : Fin 256, ∀ d ∈ Num.hexv (UInt8.ofNat c.val), d < 16 := by decide +kernel
theorem hexv_lt {c : UInt8} {d : Nat} (h : Num.hexv c = some d) : d < 16 :=
  hexv_lt_fin ⟨c.toNat, UInt8.toNat_lt c⟩ d (by simpa using h)
theorem bq {c : UInt8} {k : UInt8} {n : Int} (hn : (k.toNat : Int) = n) {b : Bool} (h : (c == k) = b) : ((c.toNat : Int) == n) = b := by
  rw [← h, ← hn, Bool.eq_iff_iff, beq_iff_eq, beq_iff_eq, ← UInt8.toNat_inj]
  omega
theorem at_extract {s : ByteArray} {k : Nat} (h : k < s.size) : s.data.toList[k]? = some (s[k]'h) := by
  have h1 : k < s.data.toList.length := by rw [← Lib.size_eq]; exact h
  rw [List.getElem?_eq_getElem h1]
  rfl

set_option maxHeartbeats 4000000 in
set_option maxRecDepth 100000 in
theorem escape_any (s : ByteArray) (w : World) (hs : s.size ≤ 1073741824) :
    Calls Tryz.prog 254 #[.string s] w (EscRes (Lex.esc s.data.toList) w) := by
  have hlen := Lib.size_eq s
  rcases Nat.eq_zero_or_pos s.size with h0 | hpos
  · have hl : s.data.toList = [] := List.eq_nil_of_length_eq_zero (by omega)
    have hsn : s.toList.isEmpty = true := by rw [Lib.toList_data, hl]; rfl
    rw [hl]
    have HE : EscRes (Lex.esc []) w (.returned (.tuple #[.int .u8 0, .int .i64 0, .bool false])) w := ⟨Below.refl _ _, 0, 0, rfl⟩
    have HH := Lib.hid HE
    clear HE hl hlen
    go_enter Tryz.func254, Tryz.ntmps254
    go_wp2
    refine ret3 rfl ?_
    exact HH.out
  have hl : s.data.toList = s[0]'hpos :: s.data.toList.drop 1 := by have := drop_at' hpos; rwa [List.drop_zero] at this
  have hsn : s.toList.isEmpty = false := by rw [Lib.toList_data, hl]; rfl
  have hp : (0 : Int) < s.size := by omega
  by_cases h92 : s[0]'hpos = 92
  · have t92 : ((((s[0]'hpos).toNat : Nat) : Int) == 92) = true := bq (k := 92) rfl (by rw [h92]; decide)
    have t39 : ((((s[0]'hpos).toNat : Nat) : Int) == 39) = false := bq (k := 39) rfl (by rw [h92]; decide)
    have t110 : ((((s[0]'hpos).toNat : Nat) : Int) == 110) = false := bq (k := 110) rfl (by rw [h92]; decide)
    have t114 : ((((s[0]'hpos).toNat : Nat) : Int) == 114) = false := bq (k := 114) rfl (by rw [h92]; decide)
    have t116 : ((((s[0]'hpos).toNat : Nat) : Int) == 116) = false := bq (k := 116) rfl (by rw [h92]; decide)
    have t120 : ((((s[0]'hpos).toNat : Nat) : Int) == 120) = false := bq (k := 120) rfl (by rw [h92]; decide)
    have he : Lex.esc s.data.toList = some (92, 1) := by rw [hl, h92]; rfl
    rw [he]
    have HE : EscRes (some (92, 1)) w (.returned (.tuple #[.int .u8 (s[0]'hpos).toNat, .int .i64 1, .bool true])) w := ⟨Below.refl _ _, by first | rfl | (simp only [h92]; rfl)⟩
    have HH := Lib.hid HE
    clear HE he hl hlen h92
    go_enter Tryz.func254, Tryz.ntmps254
    go_wp2
    refine ret3 rfl ?_
    exact HH.out
  by_cases h39 : s[0]'hpos = 39
  · have t92 : ((((s[0]'hpos).toNat : Nat) : Int) == 92) = false := bq (k := 92) rfl (by rw [h39]; decide)
    have t39 : ((((s[0]'hpos).toNat : Nat) : Int) == 39) = true := bq (k := 39) rfl (by rw [h39]; decide)
    have t110 : ((((s[0]'hpos).toNat : Nat) : Int) == 110) = false := bq (k := 110) rfl (by rw [h39]; decide)
    have t114 : ((((s[0]'hpos).toNat : Nat) : Int) == 114) = false := bq (k := 114) rfl (by rw [h39]; decide)
    have t116 : ((((s[0]'hpos).toNat : Nat) : Int) == 116) = false := bq (k := 116) rfl (by rw [h39]; decide)
    have t120 : ((((s[0]'hpos).toNat : Nat) : Int) == 120) = false := bq (k := 120) rfl (by rw [h39]; decide)
    have he : Lex.esc s.data.toList = some (39, 1) := by rw [hl, h39]; rfl
    rw [he]
    have HE : EscRes (some (39, 1)) w (.returned (.tuple #[.int .u8 (s[0]'hpos).toNat, .int .i64 1, .bool true])) w := ⟨Below.refl _ _, by first | rfl | (simp only [h39]; rfl)⟩
    have HH := Lib.hid HE
    clear HE he hl hlen h92 h39
    go_enter Tryz.func254, Tryz.ntmps254
    go_wp2
    refine ret3 rfl ?_
    exact HH.out
  by_cases h110 : s[0]'hpos = 110
  · have t92 : ((((s[0]'hpos).toNat : Nat) : Int) == 92) = false := bq (k := 92) rfl (by rw [h110]; decide)
    have t39 : ((((s[0]'hpos).toNat : Nat) : Int) == 39) = false := bq (k := 39) rfl (by rw [h110]; decide)
    have t110 : ((((s[0]'hpos).toNat : Nat) : Int) == 110) = true := bq (k := 110) rfl (by rw [h110]; decide)
    have t114 : ((((s[0]'hpos).toNat : Nat) : Int) == 114) = false := bq (k := 114) rfl (by rw [h110]; decide)
    have t116 : ((((s[0]'hpos).toNat : Nat) : Int) == 116) = false := bq (k := 116) rfl (by rw [h110]; decide)
    have t120 : ((((s[0]'hpos).toNat : Nat) : Int) == 120) = false := bq (k := 120) rfl (by rw [h110]; decide)
    have he : Lex.esc s.data.toList = some (10, 1) := by rw [hl, h110]; rfl
    rw [he]
    have HE : EscRes (some (10, 1)) w (.returned (.tuple #[.int .u8 10, .int .i64 1, .bool true])) w := ⟨Below.refl _ _, by first | rfl | (simp only [h110]; rfl)⟩
    have HH := Lib.hid HE
    clear HE he hl hlen h92 h39 h110
    go_enter Tryz.func254, Tryz.ntmps254
    go_wp2
    refine ret3 rfl ?_
    exact HH.out
  by_cases h114 : s[0]'hpos = 114
  · have t92 : ((((s[0]'hpos).toNat : Nat) : Int) == 92) = false := bq (k := 92) rfl (by rw [h114]; decide)
    have t39 : ((((s[0]'hpos).toNat : Nat) : Int) == 39) = false := bq (k := 39) rfl (by rw [h114]; decide)
    have t110 : ((((s[0]'hpos).toNat : Nat) : Int) == 110) = false := bq (k := 110) rfl (by rw [h114]; decide)
    have t114 : ((((s[0]'hpos).toNat : Nat) : Int) == 114) = true := bq (k := 114) rfl (by rw [h114]; decide)
    have t116 : ((((s[0]'hpos).toNat : Nat) : Int) == 116) = false := bq (k := 116) rfl (by rw [h114]; decide)
    have t120 : ((((s[0]'hpos).toNat : Nat) : Int) == 120) = false := bq (k := 120) rfl (by rw [h114]; decide)
    have he : Lex.esc s.data.toList = some (13, 1) := by rw [hl, h114]; rfl
    rw [he]
    have HE : EscRes (some (13, 1)) w (.returned (.tuple #[.int .u8 13, .int .i64 1, .bool true])) w := ⟨Below.refl _ _, by first | rfl | (simp only [h114]; rfl)⟩
    have HH := Lib.hid HE
    clear HE he hl hlen h92 h39 h110 h114
    go_enter Tryz.func254, Tryz.ntmps254
    go_wp2
    refine ret3 rfl ?_
    exact HH.out
  by_cases h116 : s[0]'hpos = 116
  · have t92 : ((((s[0]'hpos).toNat : Nat) : Int) == 92) = false := bq (k := 92) rfl (by rw [h116]; decide)
    have t39 : ((((s[0]'hpos).toNat : Nat) : Int) == 39) = false := bq (k := 39) rfl (by rw [h116]; decide)
    have t110 : ((((s[0]'hpos).toNat : Nat) : Int) == 110) = false := bq (k := 110) rfl (by rw [h116]; decide)
    have t114 : ((((s[0]'hpos).toNat : Nat) : Int) == 114) = false := bq (k := 114) rfl (by rw [h116]; decide)
    have t116 : ((((s[0]'hpos).toNat : Nat) : Int) == 116) = true := bq (k := 116) rfl (by rw [h116]; decide)
    have t120 : ((((s[0]'hpos).toNat : Nat) : Int) == 120) = false := bq (k := 120) rfl (by rw [h116]; decide)
    have he : Lex.esc s.data.toList = some (9, 1) := by rw [hl, h116]; rfl
    rw [he]
    have HE : EscRes (some (9, 1)) w (.returned (.tuple #[.int .u8 9, .int .i64 1, .bool true])) w := ⟨Below.refl _ _, by first | rfl | (simp only [h116]; rfl)⟩
    have HH := Lib.hid HE
    clear HE he hl hlen h92 h39 h110 h114 h116
    go_enter Tryz.func254, Tryz.ntmps254
    go_wp2
    refine ret3 rfl ?_
    exact HH.out
  by_cases h120 : s[0]'hpos = 120
  · have t92 : ((((s[0]'hpos).toNat : Nat) : Int) == 92) = false := bq (k := 92) rfl (by rw [h120]; decide)
    have t39 : ((((s[0]'hpos).toNat : Nat) : Int) == 39) = false := bq (k := 39) rfl (by rw [h120]; decide)
    have t110 : ((((s[0]'hpos).toNat : Nat) : Int) == 110) = false := bq (k := 110) rfl (by rw [h120]; decide)
    have t114 : ((((s[0]'hpos).toNat : Nat) : Int) == 114) = false := bq (k := 114) rfl (by rw [h120]; decide)
    have t116 : ((((s[0]'hpos).toNat : Nat) : Int) == 116) = false := bq (k := 116) rfl (by rw [h120]; decide)
    have t120 : ((((s[0]'hpos).toNat : Nat) : Int) == 120) = true := bq (k := 120) rfl (by rw [h120]; decide)
    by_cases h3 : s.size < 3
    · have he : Lex.esc s.data.toList = none := by
        rw [hl, h120]
        obtain ⟨r, hr⟩ : ∃ r, s.data.toList.drop 1 = r := ⟨_, rfl⟩
        have hrl : r.length < 2 := by rw [← hr, List.length_drop]; omega
        rw [hr]
        match r, hrl with
        | [], _ => rfl
        | [a], _ => rfl
      rw [he]
      have HE : EscRes none w (.returned (.tuple #[.int .u8 0, .int .i64 0, .bool false])) w := ⟨Below.refl _ _, 0, 0, rfl⟩
      have HH := Lib.hid HE
      have hd3 : decide (s.size < 3) = true := decide_eq_true h3
      have hd3' : decide ((s.size : Int) < 3) = true := decide_eq_true (by omega)
      clear HE he hl hlen h92 h39 h110 h114 h116 h120
      go_enter Tryz.func254, Tryz.ntmps254
      go_wp2
      refine ret3 rfl ?_
      exact HH.out
    · have q1 : 1 < s.size := by omega
      have q2 : 2 < s.size := by omega
      have i1 : (1 : Int) < s.size := by omega
      have i2 : (2 : Int) < s.size := by omega
      have he : Lex.esc s.data.toList = match Num.hexv (s[1]'q1), Num.hexv (s[2]'q2) with
          | some x, some y => some (UInt8.ofNat (x * 16 + y), 3)
          | _, _ => none := by
        rw [hl, h120, drop_at' q1, drop_at' q2]
        rfl
      rw [he]
      have hd3 : decide (s.size < 3) = false := decide_eq_false h3
      have hd3' : decide ((s.size : Int) < 3) = false := decide_eq_false (by omega)
      obtain ⟨a, ha⟩ : ∃ a, Num.hexv (s[1]'q1) = a := ⟨_, rfl⟩
      obtain ⟨b, hb⟩ : ∃ b, Num.hexv (s[2]'q2) = b := ⟨_, rfl⟩
      have ca := hexIndex (s[1]'q1)
      have cb := hexIndex (s[2]'q2)
      rw [ha] at ca
      rw [hb] at cb
      have hi1 : ∀ wx : World, Calls Tryz.prog 117 #[.string ⟨#[48, 49, 50, 51, 52, 53, 54, 55, 56, 57, 97, 98, 99, 100, 101, 102]⟩, .int .u8 ((s[1]'q1).toNat : Int)] wx fun e w' => e = .returned (.int .i64 (hexO a)) ∧ w' = wx := fun wx =>
        (Tryz.strings_IndexByte _ _ wx).mono fun e w' ⟨he, hw⟩ => ⟨by rw [he]; exact ret_eq (int_eq (by rw [byte_back]; exact ca)), hw⟩
      have hi2 : ∀ wx : World, Calls Tryz.prog 117 #[.string ⟨#[48, 49, 50, 51, 52, 53, 54, 55, 56, 57, 97, 98, 99, 100, 101, 102]⟩, .int .u8 ((s[2]'q2).toNat : Int)] wx fun e w' => e = .returned (.int .i64 (hexO b)) ∧ w' = wx := fun wx =>
        (Tryz.strings_IndexByte _ _ wx).mono fun e w' ⟨he, hw⟩ => ⟨by rw [he]; exact ret_eq (int_eq (by rw [byte_back]; exact cb)), hw⟩
      have HI1 := Lib.hid hi1
      have HI2 := Lib.hid hi2
      have la : ∀ d, a = some d → d < 16 := fun d h => hexv_lt (ha.trans h)
      have lb : ∀ d, b = some d → d < 16 := fun d h => hexv_lt (hb.trans h)
      have LA := Lib.hid la
      have LB := Lib.hid lb
      rw [ha, hb]
      clear hi1 hi2 he hl hlen ha hb ca cb la lb h92 h39 h110 h114 h116 h120
      cases a with
      | none =>
        have ea : hexO none = -1 := rfl
        rw [ea] at HI1
        cases b with
        | none =>
          have eb : hexO none = -1 := rfl
          rw [eb] at HI2
          go_enter Tryz.func254, Tryz.ntmps254
          go_wp2
          go_quiet ((go_at_call 117; first | exact Calls.quiet_of_same (HI1.out _) | exact Calls.quiet_of_same (HI2.out _) | exact quiet_add_same (HI1.out _) | exact quiet_add_same (HI2.out _)))
          go_wp2
          refine ret3 rfl ?_
          exact ⟨below_drewN (Below.refl _ _) _, _, _, rfl⟩
        | some y =>
          have hy := LB.out y rfl
          have eb : hexO (some y) = (y : Int) := rfl
          rw [eb] at HI2
          clear LA LB
          go_enter Tryz.func254, Tryz.ntmps254
          go_wp2
          go_quiet ((go_at_call 117; first | exact Calls.quiet_of_same (HI1.out _) | exact Calls.quiet_of_same (HI2.out _) | exact quiet_add_same (HI1.out _) | exact quiet_add_same (HI2.out _)))
          go_wp2
          refine ret3 rfl ?_
          exact ⟨below_drewN (Below.refl _ _) _, _, _, rfl⟩
      | some x =>
        have hx := LA.out x rfl
        have ea : hexO (some x) = (x : Int) := rfl
        rw [ea] at HI1
        cases b with
        | none =>
          have eb : hexO none = -1 := rfl
          rw [eb] at HI2
          clear LA LB
          go_enter Tryz.func254, Tryz.ntmps254
          go_wp2
          go_quiet ((go_at_call 117; first | exact Calls.quiet_of_same (HI1.out _) | exact Calls.quiet_of_same (HI2.out _) | exact quiet_add_same (HI1.out _) | exact quiet_add_same (HI2.out _)))
          go_wp2
          refine ret3 rfl ?_
          exact ⟨below_drewN (Below.refl _ _) _, _, _, rfl⟩
        | some y =>
          have hy := LB.out y rfl
          have eb : hexO (some y) = (y : Int) := rfl
          rw [eb] at HI2
          have ev : ((UInt8.ofNat (x * 16 + y)).toNat : Int) = 16 * x + y := by
            rw [UInt8.toNat_ofNat', Nat.mod_eq_of_lt (by omega)]
            omega
          have HV := Lib.hid ev
          clear LA LB ev
          go_enter Tryz.func254, Tryz.ntmps254
          go_wp2
          go_quiet ((go_at_call 117; first | exact Calls.quiet_of_same (HI1.out _) | exact Calls.quiet_of_same (HI2.out _) | exact quiet_add_same (HI1.out _) | exact quiet_add_same (HI2.out _)))
          go_wp2
          refine ret3 rfl ?_
          refine ⟨below_drewN (Below.refl _ _) _, ?_⟩
          show _ = Ending.returned (.tuple #[.int .u8 ((UInt8.ofNat (x * 16 + y)).toNat : Int), _, _])
          rw [HV.out]
          rfl
  · have t92 : ((((s[0]'hpos).toNat : Nat) : Int) == 92) = false := bq (k := 92) rfl (beq_eq_false_iff_ne.2 h92)
    have t39 : ((((s[0]'hpos).toNat : Nat) : Int) == 39) = false := bq (k := 39) rfl (beq_eq_false_iff_ne.2 h39)
    have t110 : ((((s[0]'hpos).toNat : Nat) : Int) == 110) = false := bq (k := 110) rfl (beq_eq_false_iff_ne.2 h110)
    have t114 : ((((s[0]'hpos).toNat : Nat) : Int) == 114) = false := bq (k := 114) rfl (beq_eq_false_iff_ne.2 h114)
    have t116 : ((((s[0]'hpos).toNat : Nat) : Int) == 116) = false := bq (k := 116) rfl (beq_eq_false_iff_ne.2 h116)
    have t120 : ((((s[0]'hpos).toNat : Nat) : Int) == 120) = false := bq (k := 120) rfl (beq_eq_false_iff_ne.2 h120)
    have he : Lex.esc s.data.toList = none := by
      rw [hl]
      simp only [Lex.esc]
      rw [if_neg (fun h => h.elim h92 h39), if_neg h110, if_neg h114, if_neg h116, if_neg h120]
    rw [he]
    have HE : EscRes none w (.returned (.tuple #[.int .u8 0, .int .i64 0, .bool false])) w := ⟨Below.refl _ _, 0, 0, rfl⟩
    have HH := Lib.hid HE
    clear HE he hl hlen h92 h39 h110 h114 h116 h120
    go_enter Tryz.func254, Tryz.ntmps254
    go_wp2
    refine ret3 rfl ?_
    exact HH.out
end Go.Proofs.YtoofbflplhbpbaaGreatDoor
