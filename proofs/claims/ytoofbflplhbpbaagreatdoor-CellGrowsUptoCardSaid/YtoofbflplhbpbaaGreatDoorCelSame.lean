/- Layer 22 (cell): the document's Same and Copy of values. -/
import Derived.Test.YtoofbflplhbpbaaGreatDoorCelVal
import Derived.Test.YtoofbflplhbpbaaGreatDoorStepApp
namespace Go.Proofs.YtoofbflplhbpbaaGreatDoor
open Go.RowKit

theorem Reads.cell {w : World} {B : Nat} {A : Option Addr} {n : Nat} {xs : List Value} (h : Reads w B 1 A n xs) {k : Nat} (hk : k < n) : ∃ b o u, A = some ⟨b, o, none⟩ ∧ b < B ∧ xs[k]? = some u ∧ w.cell? ⟨b, o + k, none⟩ = some u := by
  obtain ⟨b, o, u, h1, h2, h3, h4⟩ := h.at_ hk
  exact ⟨b, o, u, h1, h2, h3, h4⟩

set_option maxHeartbeats 8000000 in
set_option maxRecDepth 100000 in
theorem vSame_any (B : Nat) (u1 u2 : Value) (v : Cel.V) (w : World) (h1 : VIn w B u1 v) (h2 : VIn w B u2 v) (hB : B ≤ w.heap.size) :
    Calls Tryz.prog 82 #[u1, u2] w fun e w' => e = .returned (.bool true) ∧ Below w.heap.size w w' := by
  obtain ⟨A1, c1, A2, c2, rfl, ra1, ra2⟩ := h1.ex
  obtain ⟨A3, c3, A4, c4, rfl, rb1, rb2⟩ := h2.ex
  have hnl := h1.nl
  have hsl := h1.sl
  have hu := undef_no
  clear h1 h2
  obtain ⟨k0, n0, t0, ns, ts⟩ := v
  simp only at ra1 ra2 rb1 rb2 hnl hsl ⊢
  obtain ⟨nn, hnn⟩ : ∃ n, ns.length = n := ⟨_, rfl⟩
  obtain ⟨tn, htn⟩ : ∃ n, ts.length = n := ⟨_, rfl⟩
  obtain ⟨z, hz⟩ : ∃ z : ByteArray, (⟨t0.toArray⟩ : ByteArray) = z := ⟨_, rfl⟩
  rw [hnn] at ra1 rb1 hnl ⊢
  rw [htn] at ra2 rb2 hsl ⊢
  rw [hz]
  obtain ⟨W1, hW1⟩ : ∃ W1, (w.alloc (.cells #[.int .i64 k0, .int .i64 n0, .string z, .slice A1 nn c1, .slice A2 tn c2] 25)).alloc (.cells #[.int .i64 k0, .int .i64 n0, .string z, .slice A3 nn c3, .slice A4 tn c4] 25) = W1 := ⟨_, rfl⟩
  have hb1 : Below w.heap.size w W1 := by rw [← hW1]; exact ((Below.refl _ w).alloc (Nat.le_refl _) _).alloc (by simp) _
  have k1 : Blk W1 w.heap.size 25 #[.int .i64 k0, .int .i64 n0, .string z, .slice A1 nn c1, .slice A2 tn c2] := by rw [← hW1]; exact (Blk.new _ _ _).alloc _
  have k2 : Blk W1 (w.heap.size + 1) 25 #[.int .i64 k0, .int .i64 n0, .string z, .slice A3 nn c3, .slice A4 tn c4] := by rw [← hW1]; have := Blk.new (w.alloc (.cells #[.int .i64 k0, .int .i64 n0, .string z, .slice A1 nn c1, .slice A2 tn c2] 25)) 25 #[.int .i64 k0, .int .i64 n0, .string z, .slice A3 nn c3, .slice A4 tn c4]; simpa using this
  have RA1 := Lib.hid (ra1.below (hb1.mono hB))
  have RA2 := Lib.hid (ra2.below (hb1.mono hB))
  have RB1 := Lib.hid (rb1.below (hb1.mono hB))
  have RB2 := Lib.hid (rb2.below (hb1.mono hB))
  have HB1 := Lib.hid hb1
  have HW1 := Lib.hid hW1
  have a0 := k1.cell 0
  have a1 := k1.cell 1
  have a2 := k1.cell 2
  have a3 := k1.cell 3
  have a4 := k1.cell 4
  have b0 := k2.cell 0
  have b1 := k2.cell 1
  have b2 := k2.cell 2
  have b3 := k2.cell 3
  have b4 := k2.cell 4
  simp at a0 a1 a2 a3 a4 b0 b1 b2 b3 b4
  clear ra1 ra2 rb1 rb2 hnn htn hz k1 k2 hb1 hW1
  go_enter Tryz.func82, Tryz.ntmps82
  go_upto_region 1 with fail
  rw [HW1.out]
  clear HW1
  go_wp2_with fail
  go_loopg [5] nn (fun g x wr => ∃ k m : Nat, x = .int .i64 k ∧ k + g = nn ∧ W1.drewN m = wr)
  case atStart => exact ⟨0, 0, rfl, by omega, rfl⟩
  case round =>
    obtain ⟨k, m, rfl, hk, rfl⟩ := hrel
    have hkI : (k : Int) ≤ 1073741824 := by omega
    have HK := Lib.hid hk
    cases gk with
    | zero =>
      obtain rfl : k = nn := by omega
      clear hk
      go_wp2_with fail
      go_loopg [6] tn (fun g x wr => ∃ j m : Nat, x = .int .i64 j ∧ j + g = tn ∧ W1.drewN m = wr)
      case atStart => exact ⟨0, m, rfl, by omega, rfl⟩
      case round =>
        obtain ⟨j, m, rfl, hj, rfl⟩ := hrel
        have hjI : (j : Int) ≤ 1073741824 := by omega
        have HJ := Lib.hid hj
        cases gk with
        | zero =>
          obtain rfl : j = tn := by omega
          clear hj
          go_wp2
          go_ret
          exact ⟨rfl, below_drewN HB1.out _⟩
        | succ g =>
          have hjn : j < tn := by omega
          have hjI : (j : Int) < tn := by omega
          obtain ⟨p, o, x, rfl, -, hx, hp⟩ := RA2.out.cell hjn
          obtain ⟨p', o', x', rfl, -, hx', hp'⟩ := RB2.out.cell hjn
          rw [hx] at hx'
          obtain rfl : x = x' := Option.some.inj hx'
          rw [List.getElem?_map] at hx
          obtain ⟨y, -, rfl⟩ := Option.map_eq_some_iff.1 hx
          unfold ST at hp hp'
          clear hx hx' hj
          go_wp2_with fail
          go_quiet (fail)
          go_wp2
          go_roundg g
          case measure => omega
          case rel => exact ⟨j + 1, m + nq, int_eq' (by omega), by have := HJ.out; omega, rfl⟩
    | succ g =>
      have hkn : k < nn := by omega
      have hknI : (k : Int) < nn := by omega
      obtain ⟨p, o, x, rfl, -, hx, hp⟩ := RA1.out.cell hkn
      obtain ⟨p', o', x', rfl, -, hx', hp'⟩ := RB1.out.cell hkn
      rw [hx] at hx'
      obtain rfl : x = x' := Option.some.inj hx'
      rw [List.getElem?_map] at hx
      obtain ⟨y, -, rfl⟩ := Option.map_eq_some_iff.1 hx
      unfold I64 at hp hp'
      clear hx hx' hk
      go_wp2_with fail
      go_quiet (fail)
      go_wp2
      go_roundg g
      case measure => omega
      case rel => exact ⟨k + 1, m + nq, int_eq' (by omega), by have := HK.out; omega, rfl⟩

/-- u is the value v, its lists lie each in an array of the call's own -/
structure VOwn (W : World) (B : Nat) (u : Value) (v : Cel.V) : Prop where
  ex : ∃ s t, u = .agg #[.int .i64 v.kind, .int .i64 v.num, .string ⟨v.text.toArray⟩, s, t] ∧ W.ownsRow B 2 1 s v.nums.length (v.nums.map I64) ∧ W.ownsRow B 9 1 t v.texts.length (v.texts.map ST)
/-- what is known of a value that is right -/
structure VOk (v : Cel.V) : Prop where
  kin : Cel.In64 v.kind
  num : Cel.In64 v.num
  nums : ∀ n ∈ v.nums, Cel.In64 n
  tl : v.text.length ≤ 1073741824
  nl : v.nums.length ≤ 1073741824
  sl : v.texts.length ≤ 1073741824
  sz : ∀ t ∈ v.texts, t.length ≤ 1073741824
theorem VIn.ok {W : World} {B : Nat} {u : Value} {v : Cel.V} (h : VIn W B u v) : VOk v := ⟨h.kin, h.num, h.nums, h.tl, h.nl, h.sl, h.sz⟩
theorem VOwn.vin {W : World} {B : Nat} {u : Value} {v : Cel.V} (h : VOwn W B u v) (ok : VOk v) : VIn W W.heap.size u v := by
  obtain ⟨s, t, rfl, h1, h2⟩ := h.ex
  obtain ⟨A1, c1, rfl⟩ := own_form h1
  obtain ⟨A2, c2, rfl⟩ := own_form h2
  exact ⟨⟨A1, c1, A2, c2, rfl, Reads.of_own h1, Reads.of_own h2⟩, ok.kin, ok.num, ok.nums, ok.tl, ok.nl, ok.sl, ok.sz⟩
theorem VOwn.below {W W' : World} {B : Nat} {u : Value} {v : Cel.V} (h : VOwn W B u v) (hb : Below W.heap.size W W') : VOwn W' B u v := by
  obtain ⟨s, t, rfl, h1, h2⟩ := h.ex
  exact ⟨s, t, rfl, own_kept_ty h1 (only_of_below hb none) (fun g c t fz hr => by cases hr), own_kept_ty h2 (only_of_below hb none) (fun g c t fz hr => by cases hr)⟩
theorem info_int64 : (Tryz.prog.info? 2).map (fun i => (i.zero, i.size, i.bytes)) = some (some (.int .i64 0), 1, 8) := by kernel_rfl
theorem info_str : (Tryz.prog.info? 9).map (fun i => (i.zero, i.size, i.bytes)) = some (some (.string ⟨#[]⟩), 1, 16) := by kernel_rfl
end Go.Proofs.YtoofbflplhbpbaaGreatDoor
