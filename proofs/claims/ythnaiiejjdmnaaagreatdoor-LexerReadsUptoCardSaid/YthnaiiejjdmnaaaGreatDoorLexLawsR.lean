/- Layer 24 (lexer): the document's Same; the law Reads, as a contract. -/
import Derived.Test.YthnaiiejjdmnaaaGreatDoorLexLaws
import Derived.Test.YthnaiiejjdmnaaaGreatDoorLexRefD
namespace Go.Proofs.YthnaiiejjdmnaaaGreatDoor
open Go.RowKit

theorem OwnToks.atR {w : World} {B : Nat} {A : Option Addr} {n c : Nat} {l : List Lex.Tok} (h : OwnToks w B (.slice A n c) l) {i : Nat} {t : Lex.Tok} (ht : l[i]? = some t) :
    ∃ g, A = some ⟨g, 0, none⟩ ∧ n = l.length ∧ B ≤ g ∧ w.cell? ⟨g, i * 4, none⟩ = some (.int .i64 (t.kind : Int)) ∧ w.cell? ⟨g, i * 4 + 1, none⟩ = some (.string ⟨t.text.toArray⟩) ∧ w.cell? ⟨g, i * 4 + 2, none⟩ = some (.int .i64 t.num) ∧ w.cell? ⟨g, i * 4 + 3, none⟩ = some (.int .i64 (t.pos : Int)) := by
  have hne : 0 < l.length := by have := (List.getElem?_eq_some_iff.1 ht).1; omega
  obtain ⟨g, c', he, hb, hc⟩ := h.place hne
  injection he with e1 e2 e3
  exact ⟨g, e1, e2, hb, hc i t ht⟩

set_option maxHeartbeats 4000000 in
set_option maxRecDepth 100000 in
theorem refSame_any (A1 A2 : Option Addr) (c1 c2 n B1 B2 : Nat) (l : List Lex.Tok) (w : World) (hn : l.length = n) (hl : n ≤ 16777216) (h1 : OwnToks w B1 (.slice A1 n c1) l) (h2 : OwnToks w B2 (.slice A2 n c2) l) :
    Calls Tryz.prog 13 #[.slice A1 n c1, .slice A2 n c2] w fun e w' => e = .returned (.bool true) ∧ Below w.heap.size w w' := by
  have H1 := Lib.hid h1
  have H2 := Lib.hid h2
  have HN := Lib.hid hn
  clear h1 h2 hn
  go_enter Tryz.func13, Tryz.ntmps13
  go_wp2_with fail
  go_loopg [5] n (fun g x wr => ∃ k m : Nat, x = .int .i64 k ∧ k + g = n ∧ w.drewN m = wr)
  case atStart => exact ⟨0, 0, rfl, by omega, rfl⟩
  case round =>
    obtain ⟨k, m, rfl, hk, rfl⟩ := hrel
    have hkI : (k : Int) ≤ 16777216 := by omega
    have HK := Lib.hid hk
    cases gk with
    | zero =>
      obtain rfl : k = n := by omega
      clear hk
      go_wp2
      go_ret
      exact ⟨rfl, below_drewN (Below.refl _ _) _⟩
    | succ g =>
      have hkn : k < n := by omega
      have hknI : (k : Int) < n := by omega
      have hkl : k < l.length := by rw [HN.out]; exact hkn
      have hlk := List.getElem?_eq_getElem hkl
      obtain ⟨t, ht⟩ : ∃ t, l[k] = t := ⟨_, rfl⟩
      rw [ht] at hlk
      obtain ⟨g1, rfl, -, -, p0, p1, p2, p3⟩ := H1.out.atR hlk
      obtain ⟨g2, rfl, -, -, q0, q1, q2, q3⟩ := H2.out.atR hlk
      clear hk hkl hlk ht
      go_wp2_with fail
      go_quiet (fail)
      go_wp2
      go_roundg g
      case measure => omega
      case rel => exact ⟨k + 1, m + nq, int_eq' (by omega), by have := HK.out; omega, rfl⟩

/-- a token is written into the row of the call's own, another row's block stands apart -/
theorem stored4 {w : World} {B e n cap g : Nat} {xs : List Value} (h : w.ownsRow B e 4 (.slice (some ⟨g, 0, none⟩) n cap) n xs) (j : Nat) (u0 u1 u2 u3 : Value) :
    ∃ ys, ((((w.setCell ⟨g, j, none⟩ u0).setCell ⟨g, j + 1, none⟩ u1).setCell ⟨g, j + 2, none⟩ u2).setCell ⟨g, j + 3, none⟩ u3).ownsRow B e 4 (.slice (some ⟨g, 0, none⟩) n cap) n ys ∧
      w.grownBy ((((w.setCell ⟨g, j, none⟩ u0).setCell ⟨g, j + 1, none⟩ u1).setCell ⟨g, j + 2, none⟩ u2).setCell ⟨g, j + 3, none⟩ u3) (some g) := by
  obtain ⟨a0, b0⟩ := h.stored j u0
  obtain ⟨a1, b1⟩ := a0.stored (j + 1) u1
  obtain ⟨a2, b2⟩ := a1.stored (j + 2) u2
  obtain ⟨a3, b3⟩ := a2.stored (j + 3) u3
  exact ⟨_, a3, only_trans (only_trans (only_trans b0 b1) b2) b3⟩
theorem own_apart {w : World} {B1 B2 e n1 n2 : Nat} {v1 v2 : Value} {xs ys : List Value} (h1 : w.ownsRow B1 e 4 v1 n1 xs) (W : World) (hv : ∀ k, v1.ownBlock = some k → k < B2) (h2 : W.ownsRow B2 e 4 v2 n2 ys) : v2.ownBlock = none ∨ v2.ownBlock ≠ v1.ownBlock := by
  cases hb : v2.ownBlock with
  | none => exact .inl rfl
  | some k =>
    refine .inr (fun e2 => ?_)
    have := hv k e2.symm
    have := (h2.lt k hb).1
    omega

set_option maxHeartbeats 8000000 in
set_option maxRecDepth 100000 in
theorem lexerReads_any (s : ByteArray) (w : World) (hs : s.size ≤ 1073741823) (hL : Laid w) :
    Calls Tryz.prog 3 #[.string s] w fun e w' => e = .returned (.bool true) ∧ Below w.heap.size w w' := by
  have hsp := lexSpeaks_any w hL
  have hA := fun (W : World) (h : Below w.heap.size w W) => all_any s hs W (hL.below h)
  have hR := fun (W : World) => refRead_any s hs W
  have hXe := fun p e => @Lex.read_err_ne s.data.toList p e
  have hXl := Lex.read_len s.data.toList
  have hu := undef_no
  obtain ⟨X, hX⟩ : ∃ X, Lex.read s.data.toList = X := ⟨_, rfl⟩
  rw [hX] at hA hXe hXl hR
  obtain ⟨x1, x2⟩ := X
  have HS := Lib.hid hsp
  have HA := Lib.hid hA
  have HR := Lib.hid hR
  clear hsp hA hR hX hL
  cases x2 with
  | some pe =>
    obtain ⟨p, k⟩ := pe
    have hk : k ≠ 0 := hXe p k rfl
    have hkb : ((k : Int) != 0) = true := by rw [bne_iff_ne]; omega
    have hkk : ((k : Int) != k) = false := by simp
    have hpp : ((p : Int) != p) = false := by simp
    have HR2 := Lib.hid (show ∀ W : World, Calls Tryz.prog 12 #[.string s] W fun e w' => Below W.heap.size W w' ∧ ∃ v, e = .returned (.tuple #[v, .int .i64 (p : Int), .int .i64 (k : Int)]) ∧ OwnToks w' W.heap.size v x1 from HR.out)
    have HSM := Lib.hid (fun W : World => refSame_any none none 0 0 0 0 0 [] W rfl (by decide) (World.ownsRow_nil _ _ _ _) (World.ownsRow_nil _ _ _ _))
    clear hXe hXl hk HR
    go_enter Tryz.func3, Tryz.ntmps3
    go_wp2_with fail
    refine HS.out.mono ?_
    rintro e w1 ⟨rfl, hb1⟩
    have HB1 := Lib.hid hb1
    clear hb1
    go_wp2_with fail
    refine (HA.out _ HB1.out).mono ?_
    rintro e w2 ⟨hb2, rfl⟩
    have HB2 : Hid (Below w.heap.size w w2) := HB1.out.trans (hb2.mono HB1.out.size)
    clear hb2
    go_wp2_with fail
    refine (HA.out _ HB2.out).mono ?_
    rintro e w3 ⟨hb3, rfl⟩
    have HB3 : Hid (Below w.heap.size w w3) := HB2.out.trans (hb3.mono HB2.out.size)
    clear hb3
    go_wp2_with fail
    refine (HR2.out _).mono ?_
    rintro e w4 ⟨hb4, v, rfl, -⟩
    have HB4 : Hid (Below w.heap.size w w4) := HB3.out.trans (hb4.mono HB3.out.size)
    clear hb4
    go_wp2_with fail
    refine (HSM.out _).mono ?_
    rintro e w5 ⟨rfl, hb5⟩
    have HB5 : Hid (Below w.heap.size w w5) := HB4.out.trans (hb5.mono HB4.out.size)
    clear hb5
    go_wp2_with fail
    go_loopg [51] 0 (fun g x wr => x = .int .i64 0 ∧ w5 = wr)
    case atStart => exact ⟨rfl, rfl⟩
    case round =>
      obtain ⟨rfl, rfl⟩ := hrel
      go_wp2_with fail
      refine (HSM.out _).mono ?_
      rintro e w6 ⟨rfl, hb6⟩
      have HB6 : Hid (Below w.heap.size w w6) := HB5.out.trans (hb6.mono HB5.out.size)
      clear hb6
      go_wp2
      go_ret
      exact ⟨rfl, HB6.out⟩
  | none =>
    have hXl2 : x1.length ≤ 16777216 := hXl
    obtain ⟨n, hn⟩ : ∃ n, x1.length = n := ⟨_, rfl⟩
    rw [hn] at hXl2
    have HN := Lib.hid hn
    have HR2 := Lib.hid (show ∀ W : World, Calls Tryz.prog 12 #[.string s] W fun e w' => Below W.heap.size W w' ∧ ∃ v, e = .returned (.tuple #[v, .int .i64 0, .int .i64 0]) ∧ OwnToks w' W.heap.size v x1 from HR.out)
    clear hXe hXl HR hn
    go_enter Tryz.func3, Tryz.ntmps3
    go_wp2_with fail
    refine HS.out.mono ?_
    rintro e w1 ⟨rfl, hb1⟩
    have HB1 := Lib.hid hb1
    clear hb1
    go_wp2_with fail
    refine (HA.out _ HB1.out).mono ?_
    rintro e w2 ⟨hb2, vx, rfl, hox⟩
    obtain ⟨Ax, cx, rfl⟩ := own_form hox
    rw [HN.out] at hox ⊢
    have HB2 : Hid (Below w.heap.size w w2) := HB1.out.trans (hb2.mono HB1.out.size)
    have HOX := Lib.hid hox
    clear hb2 hox
    go_wp2_with fail
    refine (HA.out _ HB2.out).mono ?_
    rintro e w3 ⟨hb3, vy, rfl, hoy⟩
    obtain ⟨Ay, cy, rfl⟩ := own_form hoy
    rw [HN.out] at hoy ⊢
    have HB3 : Hid (Below w.heap.size w w3) := HB2.out.trans (hb3.mono HB2.out.size)
    have HOX3 := Lib.hid (HOX.out.below hb3)
    have HOY := Lib.hid hoy
    have hz3 := hb3.size
    clear hb3 hoy
    go_wp2_with fail
    refine (HR2.out _).mono ?_
    rintro e w4 ⟨hb4, vz, rfl, hoz⟩
    obtain ⟨Az, cz, rfl⟩ := own_form hoz
    rw [HN.out] at hoz ⊢
    have HB4 : Hid (Below w.heap.size w w4) := HB3.out.trans (hb4.mono HB3.out.size)
    have HOX4 := Lib.hid (HOX3.out.below hb4)
    have HOY4 := Lib.hid (HOY.out.below hb4)
    have HOZ4 := Lib.hid hoz
    clear hb4 hoz
    go_wp2_with fail
    refine (refSame_any Ax Az cx cz n _ _ x1 w4 HN.out hXl2 HOX4.out HOZ4.out).mono ?_
    rintro e w5 ⟨rfl, hb5⟩
    have HB5 : Hid (Below w.heap.size w w5) := HB4.out.trans (hb5.mono HB4.out.size)
    have hox5 := HOX4.out.below hb5
    unfold OwnToks at hox5
    rw [HN.out] at hox5
    have HOX5 := Lib.hid hox5
    have HOY5 := Lib.hid (HOY4.out.below hb5)
    have HOZ5 := Lib.hid (HOZ4.out.below hb5)
    have HLX : Hid (∀ k, (Value.slice Ax n cx).ownBlock = some k → k < w2.heap.size) := fun k hk => (HOX.out.lt k hk).2
    clear hb5 hox5
    go_wp2_with fail
    go_loopg [51] n (fun g x wr => ∃ (k : Nat) (cells : List Value), x = .int .i64 k ∧ k + g = n ∧ wr.ownsRow w1.heap.size 31 4 (.slice Ax n cx) n cells ∧ OwnToks wr w2.heap.size (.slice Ay n cy) x1 ∧ OwnToks wr w3.heap.size (.slice Az n cz) x1 ∧ Below w.heap.size w wr)
    case atStart => exact ⟨0, _, rfl, by omega, HOX5.out, HOY5.out, HOZ5.out, HB5.out⟩
    case round =>
      obtain ⟨k, cells, rfl, hk, h1, h2, h3, h4⟩ := hrel
      have hkI : (k : Int) ≤ 16777216 := by omega
      have HK := Lib.hid hk
      have K1 := Lib.hid h1
      have K2 := Lib.hid h2
      have K3 := Lib.hid h3
      have K4 := Lib.hid h4
      clear h1 h2 h3 h4
      cases gk with
      | zero =>
        obtain rfl : k = n := by omega
        clear hk
        go_wp2_with fail
        refine (refSame_any Ay Az cy cz k _ _ x1 _ HN.out hXl2 K2.out K3.out).mono ?_
        rintro e w6 ⟨rfl, hb6⟩
        have HB6 : Hid (Below w.heap.size w w6) := K4.out.trans (hb6.mono K4.out.size)
        clear hb6
        go_wp2
        go_ret
        exact ⟨rfl, HB6.out⟩
      | succ g =>
        have hkn : k < n := by omega
        have hknI : (k : Int) < n := by omega
        have hn0 : 0 < n := by omega
        obtain ⟨g1, cap1, he, hB1, hlt1⟩ := K1.out.form hn0
        injection he with e1 e2 e3
        subst e1
        have hcl := K1.out.1
        obtain ⟨u0, c0⟩ : ∃ u, wr.cell? ⟨g1, k * 4, none⟩ = some u := ⟨_, (K1.out.cellAt (k * 4) (by omega)).trans (List.getElem?_eq_getElem (by omega))⟩
        obtain ⟨u1, c1⟩ : ∃ u, wr.cell? ⟨g1, k * 4 + 1, none⟩ = some u := ⟨_, (K1.out.cellAt (k * 4 + 1) (by omega)).trans (List.getElem?_eq_getElem (by omega))⟩
        obtain ⟨u2, c2⟩ : ∃ u, wr.cell? ⟨g1, k * 4 + 2, none⟩ = some u := ⟨_, (K1.out.cellAt (k * 4 + 2) (by omega)).trans (List.getElem?_eq_getElem (by omega))⟩
        obtain ⟨u3, c3⟩ : ∃ u, wr.cell? ⟨g1, k * 4 + 3, none⟩ = some u := ⟨_, (K1.out.cellAt (k * 4 + 3) (by omega)).trans (List.getElem?_eq_getElem (by omega))⟩
        have f0 := K1.out.frozenAt (k * 4)
        have f1 := K1.out.frozenAt (k * 4 + 1)
        have f2 := K1.out.frozenAt (k * 4 + 2)
        have f3 := K1.out.frozenAt (k * 4 + 3)
        clear hk e3 hcl
        go_wp2
        go_roundg g
        case measure => omega
        case rel =>
          obtain ⟨ys, h1, h2⟩ := stored4 K1.out (k * 4) (.int .i64 9) (.string ⟨#[]⟩) (.int .i64 0) (.int .i64 0)
          have a2 := own_apart K1.out wr HLX.out K2.out
          have a3 := own_apart K1.out wr (fun j hj => Nat.lt_of_lt_of_le (HLX.out j hj) hz3) K3.out
          refine ⟨k + 1, ys, int_eq' (by omega), by have := HK.out; omega, h1, World.ownsRow.kept K2.out h2 a2, World.ownsRow.kept K3.out h2 a3, ?_⟩
          exact K4.out.grown h2 (by have := K4.out.size; omega) (fun j e => by cases e; have := HB1.out.size; omega)
end Go.Proofs.YthnaiiejjdmnaaaGreatDoor
