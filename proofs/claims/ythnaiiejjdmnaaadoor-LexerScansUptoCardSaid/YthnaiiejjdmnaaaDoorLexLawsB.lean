/- Layer 24 (lexer): the laws Quotes and Joins, as contracts. -/
import Derived.Test.YthnaiiejjdmnaaaDoorLexLaws
import Derived.Test.YthnaiiejjdmnaaaDoorLexRefQ
import Derived.Test.YthnaiiejjdmnaaaDoorLexRefD
namespace Go.Proofs.YthnaiiejjdmnaaaDoor
open Go.RowKit

set_option maxHeartbeats 4000000 in
set_option maxRecDepth 100000 in
theorem lexerQuotes_any (s : ByteArray) (w : World) (hs : s.size ≤ 67108864) (hL : Laid w) :
    Calls Tryd.prog 5 #[.string s] w fun e w' => e = .returned (.bool true) ∧ Below w.heap.size w w' := by
  have HS := Lib.hid (lexSpeaks_any w hL)
  have h1 := fun (W : World) => quote_any s W hs
  have h2 := fun (W : World) => refQuote_any s W hs
  obtain ⟨q, hq⟩ : ∃ q : ByteArray, (⟨(Lex.quote s.data.toList).toArray⟩ : ByteArray) = q := ⟨_, rfl⟩
  rw [hq] at h1 h2
  have H1 := Lib.hid h1
  have H2 := Lib.hid h2
  clear h1 h2 hL hq
  go_enter Tryd.func5, Tryd.ntmps5
  go_wp2_with fail
  refine HS.out.mono ?_
  rintro e w1 ⟨rfl, hb⟩
  have HB1 := Lib.hid hb
  clear hb
  go_wp2_with fail
  refine (H1.out _).mono ?_
  rintro e w2 ⟨rfl, hb⟩
  have HB2 : Hid (Below w.heap.size w w2) := HB1.out.trans (hb.mono HB1.out.size)
  clear hb
  go_wp2_with fail
  refine (H2.out _).mono ?_
  rintro e w3 ⟨rfl, hb⟩
  have HB3 : Hid (Below w.heap.size w w3) := HB2.out.trans (hb.mono HB2.out.size)
  clear hb
  go_wp2
  go_ret
  exact ⟨by simp, HB3.out⟩

namespace Lex
theorem scan_err_le : ∀ (k : Nat) (l : List UInt8) (i : Nat) {p e : Nat}, (scan k l i).2 = some (p, e) → p ≤ i + l.length
  | 0, l, i, p, e, h => by simp [scan] at h
  | k + 1, [], i, p, e, h => by simp [scan] at h
  | k + 1, c :: r, i, p, e, h => by
    cases ht : tok1 (c :: r) with
    | err o e' =>
      rw [scan_err (by simp) ht] at h
      have := (tok1_err (by simp) ht).2
      cases h
      omega
    | tok kd tx nm n =>
      rw [scan_tok ht rfl] at h
      have h1 := (tok1_len ht).2
      have h2 := gap_le false ((c :: r).drop n)
      have ih := scan_err_le k _ _ h
      rw [List.length_drop] at h2 ih
      omega
theorem read_err_le {l : List UInt8} {p e : Nat} (h : (read l).2 = some (p, e)) : p ≤ l.length := by
  unfold read at h
  split at h
  · cases h; omega
  · unfold body at h
    have := scan_err_le _ _ _ h
    have := gap_le false l
    rw [List.length_drop] at *
    omega
theorem scan_pos : ∀ (k : Nat) (l : List UInt8) (i : Nat) (t : Tok), t ∈ (scan k l i).1 → t.pos ≤ i + l.length
  | 0, l, i, t, h => by simp [scan] at h
  | k + 1, [], i, t, h => by simp [scan] at h
  | k + 1, c :: r, i, t, h => by
    cases ht : tok1 (c :: r) with
    | err o e' => rw [scan_err (by simp) ht] at h; cases h
    | tok kd tx nm n =>
      rw [scan_tok ht rfl] at h
      have h1 := (tok1_len ht).2
      have h2 := gap_le false ((c :: r).drop n)
      rw [List.length_drop] at h2
      rcases List.mem_cons.1 h with rfl | h
      · show i ≤ _; omega
      · have ih := scan_pos k _ _ t h
        rw [List.length_drop] at ih
        omega
theorem read_pos {l : List UInt8} {t : Tok} (h : t ∈ (read l).1) : t.pos ≤ l.length := by
  unfold read at h
  split at h
  · cases h
  · unfold body at h
    have := scan_pos _ _ _ _ h
    have := gap_le false l
    rw [List.length_drop] at *
    omega
end Lex
theorem OwnToks.at_ {w : World} {B : Nat} {A : Option Addr} {n c : Nat} {l : List Lex.Tok} (h : OwnToks w B (.slice A n c) l) {i : Nat} {t : Lex.Tok} (ht : l[i]? = some t) :
    ∃ g, A = some ⟨g, 0, none⟩ ∧ n = l.length ∧ B ≤ g ∧ w.cell? ⟨g, i * 4, none⟩ = some (.int .i64 (t.kind : Int)) ∧ w.cell? ⟨g, i * 4 + 1, none⟩ = some (.string ⟨t.text.toArray⟩) ∧ w.cell? ⟨g, i * 4 + 2, none⟩ = some (.int .i64 t.num) ∧ w.cell? ⟨g, i * 4 + 3, none⟩ = some (.int .i64 (t.pos : Int)) := by
  have hne : 0 < l.length := by have := (List.getElem?_eq_some_iff.1 ht).1; omega
  obtain ⟨g, c', he, hb, hc⟩ := h.place hne
  injection he with e1 e2 e3
  exact ⟨g, e1, e2, hb, hc i t ht⟩

set_option maxHeartbeats 16000000 in
set_option maxRecDepth 100000 in
theorem lexerJoins_any (a b : ByteArray) (w : World) (ha : a.size ≤ 1073741823) (hb : b.size ≤ 1073741823) (hL : Laid w) :
    Calls Tryd.prog 7 #[.string a, .string b] w fun e w' => e = .returned (.bool true) ∧ Below w.heap.size w w' := by
  have hsp := lexSpeaks_any w hL
  have hla := Lib.size_eq a
  have hlb := Lib.size_eq b
  have hA := fun (W : World) (h : Below w.heap.size w W) => all_any a ha W (hL.below h)
  have hB := fun (W : World) (h : Below w.heap.size w W) => all_any b hb W (hL.below h)
  have hXe := fun p e => @Lex.read_err_ne a.data.toList p e
  have hYe := fun p e => @Lex.read_err_ne b.data.toList p e
  have hYp := fun p e => @Lex.read_err_le b.data.toList p e
  have hYq := fun t => @Lex.read_pos b.data.toList t
  have hXl := Lex.read_len a.data.toList
  have hYl := Lex.read_len b.data.toList
  have hu := undef_no
  obtain ⟨X, hX⟩ : ∃ X, Lex.read a.data.toList = X := ⟨_, rfl⟩
  obtain ⟨Y, hY⟩ : ∃ Y, Lex.read b.data.toList = Y := ⟨_, rfl⟩
  rw [hX] at hA hXe hXl
  rw [hY] at hB hYe hYl hYp hYq
  obtain ⟨x1, x2⟩ := X
  obtain ⟨y1, y2⟩ := Y
  have HS := Lib.hid hsp
  have HA := Lib.hid hA
  have HB := Lib.hid hB
  have HYE := Lib.hid hYe
  have HYP := Lib.hid hYp
  have HYQ := Lib.hid hYq
  clear hsp hA hB hYe hYp hYq
  cases x2 with
  | some pe =>
    obtain ⟨p, k⟩ := pe
    have hk : k ≠ 0 := hXe p k rfl
    have hkb : ((k : Int) != 0) = true := by rw [bne_iff_ne]; omega
    clear hL hla hlb hXe hX hY hk HB HYE HYP HYQ hXl hYl
    go_enter Tryd.func7, Tryd.ntmps7
    go_wp2_with fail
    refine HS.out.mono ?_
    rintro e w1 ⟨rfl, hb1⟩
    have HB1 := Lib.hid hb1
    clear hb1
    go_wp2_with fail
    refine (HA.out _ HB1.out).mono ?_
    rintro e w2 ⟨hb2, rfl⟩
    have HB2 : Hid (Below w.heap.size w w2) := HB1.out.trans (hb2.mono HB1.out.size)
    clear hb2
    go_wp2
    go_ret
    exact ⟨rfl, HB2.out⟩
  | none =>
    clear hXe
    by_cases hbig : 8000000 < a.size
    · have d1 : decide ((8000000 : Int) < a.size) = true := decide_eq_true (by omega)
      have d1' : decide (8000000 < a.size) = true := decide_eq_true hbig
      clear hL hla hlb hX hY HB HYE HYP HYQ hXl hYl
      go_enter Tryd.func7, Tryd.ntmps7
      go_wp2_with fail
      refine HS.out.mono ?_
      rintro e w1 ⟨rfl, hb1⟩
      have HB1 := Lib.hid hb1
      clear hb1
      go_wp2_with fail
      refine (HA.out _ HB1.out).mono ?_
      rintro e w2 ⟨hb2, v, rfl, -⟩
      have HB2 : Hid (Below w.heap.size w w2) := HB1.out.trans (hb2.mono HB1.out.size)
      clear hb2
      go_wp2
      go_ret
      exact ⟨rfl, HB2.out⟩
    have d1 : decide ((8000000 : Int) < a.size) = false := decide_eq_false (by omega)
    have d1' : decide (8000000 < a.size) = false := decide_eq_false hbig
    by_cases hbig2 : 8000000 < b.size
    · have d2 : decide ((8000000 : Int) < b.size) = true := decide_eq_true (by omega)
      have d2' : decide (8000000 < b.size) = true := decide_eq_true hbig2
      clear hL hla hlb hX hY HB HYE HYP HYQ hXl hYl
      go_enter Tryd.func7, Tryd.ntmps7
      go_wp2_with fail
      refine HS.out.mono ?_
      rintro e w1 ⟨rfl, hb1⟩
      have HB1 := Lib.hid hb1
      clear hb1
      go_wp2_with fail
      refine (HA.out _ HB1.out).mono ?_
      rintro e w2 ⟨hb2, v, rfl, -⟩
      have HB2 : Hid (Below w.heap.size w w2) := HB1.out.trans (hb2.mono HB1.out.size)
      clear hb2
      go_wp2
      go_ret
      exact ⟨rfl, HB2.out⟩
    have d2 : decide ((8000000 : Int) < b.size) = false := decide_eq_false (by omega)
    have d2' : decide (8000000 < b.size) = false := decide_eq_false hbig2
    obtain ⟨c, hc⟩ : ∃ c : ByteArray, a ++ ⟨#[10]⟩ ++ b = c := ⟨_, rfl⟩
    have hcd : c.data.toList = a.data.toList ++ 10 :: b.data.toList := by rw [← hc]; simp
    have hcs : c.size ≤ 16000001 := by
      rw [Lib.size_eq, hcd, List.length_append, List.length_cons, ← hla, ← hlb]
      omega
    have hC := fun (W : World) (h : Below w.heap.size w W) => all_any c (by omega) W (hL.below h)
    have hj := Lex.read_join (a := a.data.toList) (b := b.data.toList) (by rw [hX]) (by omega) (by omega)
    rw [hcd, hj, hX, hY, ← hla] at hC
    obtain ⟨D, hD⟩ : ∃ D, a.size + 1 = D := ⟨_, rfl⟩
    rw [hD] at hC
    have hDi : (a.size : Int) + 1 = D := by omega
    have hab : (a.size : Int) ≤ 8000000 := by omega
    have HC := Lib.hid hC
    have HDD := Lib.hid hDi
    have HPB : Hid (∀ p e, y2 = some (p, e) → p ≤ 8000000) := fun p e h => by have := HYP.out p e h; omega
    have HPQ : Hid (∀ t ∈ y1, t.pos ≤ 8000000) := fun t h => by have := HYQ.out t h; omega
    clear HYP HYQ
    clear hL hla hlb hX hY hcd hcs hC hj hD hDi hbig hbig2
    cases y2 with
    | some pe =>
      obtain ⟨p, k⟩ := pe
      have hk : k ≠ 0 := HYE.out p k rfl
      have hkb : ((k : Int) != 0) = true := by rw [bne_iff_ne]; omega
      obtain ⟨q, hq⟩ : ∃ q, p + D = q := ⟨_, rfl⟩
      have HC2 := Lib.hid (show ∀ W : World, Below w.heap.size w W → Calls Tryd.prog 13 #[.string c] W (fun e w' => Below W.heap.size W w' ∧ e = .returned (.tuple #[.slice none 0 0, .int .i64 (q : Int), .int .i64 (k : Int)])) from fun W h => by
        have := HC.out W h
        rw [← hq]
        exact this)
      have hqe : ((q : Int) == (p : Int) + a.size + 1) = true := by rw [beq_iff_eq]; have := HDD.out; omega
      have hkk : ((k : Int) == k) = true := by simp
      have hpb : p ≤ 8000000 := HPB.out p k rfl
      clear hk hq HC HYE hXl hYl HPB
      go_enter Tryd.func7, Tryd.ntmps7
      go_wp2_with fail
      refine HS.out.mono ?_
      rintro e w1 ⟨rfl, hb1⟩
      have HB1 := Lib.hid hb1
      clear hb1
      go_wp2_with fail
      refine (HA.out _ HB1.out).mono ?_
      rintro e w2 ⟨hb2, v, rfl, -⟩
      have HB2 : Hid (Below w.heap.size w w2) := HB1.out.trans (hb2.mono HB1.out.size)
      clear hb2
      go_wp2_with fail
      refine (HB.out _ HB2.out).mono ?_
      rintro e w3 ⟨hb3, rfl⟩
      have HB3 : Hid (Below w.heap.size w w3) := HB2.out.trans (hb3.mono HB2.out.size)
      clear hb3
      go_wp2_with fail
      refine (HC2.out _ HB3.out).mono ?_
      rintro e w4 ⟨hb4, rfl⟩
      have HB4 : Hid (Below w.heap.size w w4) := HB3.out.trans (hb4.mono HB3.out.size)
      clear hb4
      go_wp2
      go_ret
      exact ⟨rfl, HB4.out⟩
    | none =>
      obtain ⟨Z, hZ⟩ : ∃ Z, x1 ++ y1.map (Lex.Tok.shift D) = Z := ⟨_, rfl⟩
      have HC2 := Lib.hid (show ∀ W : World, Below w.heap.size w W → Calls Tryd.prog 13 #[.string c] W (fun e w' => Below W.heap.size W w' ∧ ∃ v, e = .returned (.tuple #[v, .int .i64 0, .int .i64 0]) ∧ OwnToks w' W.heap.size v Z) from fun W h => by
        have := HC.out W h
        rw [← hZ]
        exact this)
      have hXl2 : x1.length ≤ 16777216 := hXl
      have hYl2 : y1.length ≤ 16777216 := hYl
      obtain ⟨xn, hxn⟩ : ∃ n, x1.length = n := ⟨_, rfl⟩
      obtain ⟨yn, hyn⟩ : ∃ n, y1.length = n := ⟨_, rfl⟩
      have hzn : Z.length = xn + yn := by rw [← hZ, List.length_append, List.length_map, hxn, hyn]
      rw [hxn] at hXl2
      rw [hyn] at hYl2
      have HZ := Lib.hid hZ
      have HXN := Lib.hid hxn
      have HYN := Lib.hid hyn
      have HZN := Lib.hid hzn
      have hlen : (((xn + yn : Nat) : Int) != (xn : Int) + yn) = false := by rw [bne_eq_false_iff_eq]; omega
      have hcast : ((xn + yn : Nat) : Int) = (xn : Int) + yn := by omega
      clear hZ hxn hyn hzn HC HYE hXl hYl HPB
      go_enter Tryd.func7, Tryd.ntmps7
      go_wp2_with fail
      refine HS.out.mono ?_
      rintro e w1 ⟨rfl, hb1⟩
      have HB1 := Lib.hid hb1
      clear hb1
      go_wp2_with fail
      refine (HA.out _ HB1.out).mono ?_
      rintro e w2 ⟨hb2, vx, rfl, hox⟩
      obtain ⟨Ax, cx, rfl⟩ := own_form hox
      rw [HXN.out] at hox ⊢
      have HB2 : Hid (Below w.heap.size w w2) := HB1.out.trans (hb2.mono HB1.out.size)
      have HOX := Lib.hid hox
      clear hb2 hox
      go_wp2_with fail
      refine (HB.out _ HB2.out).mono ?_
      rintro e w3 ⟨hb3, vy, rfl, hoy⟩
      obtain ⟨Ay, cy, rfl⟩ := own_form hoy
      rw [HYN.out] at hoy ⊢
      have HB3 : Hid (Below w.heap.size w w3) := HB2.out.trans (hb3.mono HB2.out.size)
      have HOX3 := Lib.hid (HOX.out.below hb3)
      have HOY := Lib.hid hoy
      clear hb3 hoy
      go_wp2_with fail
      refine (HC2.out _ HB3.out).mono ?_
      rintro e w4 ⟨hb4, vz, rfl, hoz⟩
      obtain ⟨Az, cz, rfl⟩ := own_form hoz
      rw [HZN.out] at hoz ⊢
      have HB4 : Hid (Below w.heap.size w w4) := HB3.out.trans (hb4.mono HB3.out.size)
      have HOX4 := Lib.hid (HOX3.out.below hb4)
      have HOY4 := Lib.hid (HOY.out.below hb4)
      have HOZ4 := Lib.hid hoz
      clear hb4 hoz
      go_wp2_with fail
      go_loopg [87] (xn + yn) (fun g x wr => ∃ k : Nat, x = .int .i64 k ∧ k + g = xn + yn ∧ Below w4.heap.size w4 wr)
      case atStart => exact ⟨0, rfl, by omega, Below.refl _ _⟩
      case round =>
        obtain ⟨k, rfl, hk, hbr⟩ := hrel
        have HBR := Lib.hid hbr
        have HKK := Lib.hid hk
        have hkI : (k : Int) ≤ 33554432 := by omega
        have hu := undef_no
        cases gk with
        | zero =>
          obtain rfl : k = xn + yn := by omega
          clear hbr hk
          go_wp2
          go_ret
          exact ⟨rfl, HB4.out.trans (HBR.out.mono HB4.out.size)⟩
        | succ g =>
          have hkz : k < Z.length := by rw [HZN.out]; omega
          have hzk := List.getElem?_eq_getElem hkz
          obtain ⟨tz, htz⟩ : ∃ t, Z[k] = t := ⟨_, rfl⟩
          rw [htz] at hzk
          have HZK := Lib.hid hzk
          obtain ⟨gz, rfl, -, -, z0, z1, z2, z3⟩ := (HOZ4.out.below hbr).at_ hzk
          have hkn : k < xn + yn := by omega
          have hknI : (k : Int) < ((xn + yn : Nat) : Int) := by omega
          have hknI' : (k : Int) < (xn : Int) + yn := by omega
          by_cases hkx : k < xn
          · have hkxI : (k : Int) < xn := by omega
            have u1 : decide (k < xn) = true := decide_eq_true hkx
            have hx1 : x1[k]? = some tz := by
              rw [← HZK.out, ← HZ.out, List.getElem?_append_left (by rw [HXN.out]; exact hkx)]
            obtain ⟨gx, rfl, -, -, p0, p1, p2, p3⟩ := (HOX4.out.below hbr).at_ hx1
            clear hzk htz hbr hk hx1 hkz
            go_wp2_with fail
            go_quiet (fail)
            go_wp2
            go_roundg g
            case measure => omega
            case rel => exact ⟨k + 1, int_eq' (by omega), by have := HKK.out; omega, below_drewN HBR.out _⟩
          · have u1 : decide (k < xn) = false := decide_eq_false hkx
            have hkxI : (xn : Int) ≤ k := by omega
            obtain ⟨j, hj⟩ : ∃ j, k - xn = j := ⟨_, rfl⟩
            have hjI : (k : Int) - xn = j := by omega
            have hjy : j < y1.length := by rw [HYN.out]; omega
            have hyj := List.getElem?_eq_getElem hjy
            obtain ⟨ty, hty⟩ : ∃ t, y1[j] = t := ⟨_, rfl⟩
            rw [hty] at hyj
            have htt : tz = ty.shift D := by
              have h1 : Z[k]? = some (ty.shift D) := by
                rw [← HZ.out, List.getElem?_append_right (by rw [HXN.out]; omega), HXN.out, hj, List.getElem?_map, hyj]
                rfl
              rw [HZK.out] at h1
              exact Option.some.inj h1
            subst htt
            obtain ⟨gy, rfl, -, -, p0, p1, p2, p3⟩ := (HOY4.out.below hbr).at_ hyj
            have hps : ((ty.shift D).pos : Int) = (ty.pos : Int) + (a.size + 1) := by
              show ((ty.pos + D : Nat) : Int) = _
              have := HDD.out
              omega
            have hpp : ty.pos ≤ 8000000 := HPQ.out ty (List.mem_of_getElem? hyj)
            rw [hps] at z3
            have y0 : wr.cell? ⟨gz, k * 4, none⟩ = some (.int .i64 (ty.kind : Int)) := z0
            have y1 : wr.cell? ⟨gz, k * 4 + 1, none⟩ = some (.string ⟨ty.text.toArray⟩) := z1
            have y2 : wr.cell? ⟨gz, k * 4 + 2, none⟩ = some (.int .i64 ty.num) := z2
            have Y0 := Lib.hid y0
            have Y1 := Lib.hid y1
            have Y2 := Lib.hid y2
            have Y3 := Lib.hid z3
            clear hzk htz hbr hk hkz hyj hty hj hps hjy z0 z1 z2 z3 y0 y1 y2
            go_wp2_with fail
            obtain ⟨W5, hW5⟩ : ∃ W5, wr.alloc (.cells #[.int .i64 (ty.kind : Int), .string ⟨ty.text.toArray⟩, .int .i64 ty.num, .int .i64 ((ty.pos : Int) + (a.size + 1))] 30) = W5 := ⟨_, rfl⟩
            rw [hW5]
            obtain ⟨hb5, hk5⟩ := tok_stored hW5
            obtain ⟨b0, b1, b2, b3, f0, f1, f2, f3⟩ := rtok_cells hk5
            have z0 := (hb5.cell (cell_lt' Y0.out)).trans Y0.out
            have z1 := (hb5.cell (cell_lt' Y1.out)).trans Y1.out
            have z2 := (hb5.cell (cell_lt' Y2.out)).trans Y2.out
            have z3 := (hb5.cell (cell_lt' Y3.out)).trans Y3.out
            have HB5 := Lib.hid (HBR.out.trans (hb5.mono HBR.out.size))
            clear hW5 hb5 hk5 Y0 Y1 Y2 Y3 p0 p1 p2 p3
            go_quiet (fail)
            go_wp2
            go_roundg g
            case measure => omega
            case rel => exact ⟨k + 1, int_eq' (by omega), by have := HKK.out; omega, below_drewN HB5.out _⟩
end Go.Proofs.YthnaiiejjdmnaaaDoor
