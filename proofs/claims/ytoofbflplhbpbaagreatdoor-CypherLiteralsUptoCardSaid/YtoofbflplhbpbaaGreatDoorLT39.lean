/- Contracts and plain laws, part 39. -/
import Derived.Test.YtoofbflplhbpbaaGreatDoorLT38
namespace Go.Proofs.YtoofbflplhbpbaaGreatDoor
open Go.RowKit
def preJ (l : List (List UInt8)) : List UInt8 := if l = [] then [] else 32 :: Cy.join [44, 32] l
theorem join_snoc (sep x : List UInt8) : ∀ l : List (List UInt8), Cy.join sep (l ++ [x]) = if l = [] then x else Cy.join sep l ++ sep ++ x
 | [] => rfl
 | [a] => rfl
 | a :: b :: r => by
  have := join_snoc sep x (b :: r)
  rw [if_neg (by simp)] at this ⊢
  rw [show (a :: b :: r) ++ [x] = a :: b :: (r ++ [x]) from rfl, Cy.join, Cy.join, show b :: (r ++ [x]) = (b :: r) ++ [x] from rfl, this]
  simp
theorem preJ_snoc (l : List (List UInt8)) (x : List UInt8) : preJ (l ++ [x]) = preJ l ++ ((if l = [] then [32] else [44, 32]) ++ x) := by
 unfold preJ
 rw [if_neg (by simp), join_snoc]
 split <;> simp_all
theorem preJ_len {l : List (List UInt8)} (h : ∀ x ∈ l, x.length ≤ 4002) (hl : l.length ≤ 80) : (preJ l).length ≤ 400000 := by
 unfold preJ
 split
 ·simp
 ·have h1 := join_len [44, 32] 4002 l h
  have h2 : l.length * (4002 + 2) ≤ 80 * (4002 + 2) := Nat.mul_le_mul_right _ hl
  simp only [List.length_cons, List.length_nil] at h1 ⊢
  omega
theorem numS_scalar {k n : Int} (h : Cel.numWrong k n = 0) (h1 : 1 ≤ k) (h3 : k ≤ 3) : Cel.numS k n = Cy.scalar k n [] := by
 unfold Cel.numWrong at h
 unfold Cel.numS Cy.scalar
 rcases (show k = 1 ∨ k = 2 ∨ k = 3 by omega) with rfl | rfl | rfl
 ·by_cases h0 : n = 0
  ·subst h0; simp
  ·by_cases h1 : n = 1
   ·subst h1; simp
   ·simp [h0, h1] at h
 ·simp
 ·simp
theorem nums_ok {k : Int} : ∀ {l : List Int}, Cel.numsWrong k l = 0 → ∀ n ∈ l, Cel.numWrong k n = 0
 | [], _, n, hn => by cases hn
 | a :: r, h, n, hn => by
  rw [Cel.numsWrong] at h
  split at h
  ·rename_i hne; exact absurd h hne
  ·rename_i hz
   rcases List.mem_cons.1 hn with rfl | hn
   ·exact Decidable.not_not.1 hz
   ·exact nums_ok h n hn
theorem check_lit {v : Cel.V} (h : Cel.check v = 0) : 1 ≤ v.kind ∧ v.kind ≤ 8 ∧ (v.kind < 4 → Cel.numS v.kind v.num = Cy.scalar v.kind v.num v.text) ∧ v.text.length ≤ 1000 ∧ (∀ t ∈ v.texts, t.length ≤ 1000) ∧ (4 < v.kind → (v.kind = 8 → v.nums = []) ∧ (v.kind ≠ 8 → v.texts = [] ∧ ∀ n ∈ v.nums, Cel.numS (v.kind - 4) n = Cy.scalar (v.kind - 4) n [])) := by
 unfold Cel.check at h
 split at h
 ·cases h
 ·rename_i hk
  split at h
  ·cases h
  ·rename_i hu
   split at h
   ·cases h
   ·split at h
    ·cases h
    ·rename_i ht
     have hk1 : 1 ≤ v.kind := by omega
     have hk8 : v.kind ≤ 8 := by omega
     have hlong : ∀ t ∈ v.texts, t.length ≤ 1000 := fun t htm => by
      have h2 : Cel.longs v.texts = false := by
       cases hl : Cel.longs v.texts with
       | false => rfl
       | true => exact absurd (.inr hl) ht
      unfold Cel.longs at h2
      have := List.any_eq_false.1 h2 t htm
      simpa using this
     refine ⟨hk1, hk8, fun h4 => ?_, by omega, hlong, fun h4 => ⟨fun h8 => ?_, fun h8 => ⟨?_, fun n hn => ?_⟩⟩⟩
     ·rw [if_pos h4] at h
      have hte : v.text = [] := Classical.byContradiction fun hne => hu (.inr (.inl ⟨hne, by omega⟩))
      rw [hte]
      exact numS_scalar h hk1 (by omega)
     ·exact Classical.byContradiction fun hne => hu (.inr (.inr (.inl ⟨hne, .inr h8⟩)))
     ·exact Classical.byContradiction fun hne => hu (.inr (.inr (.inr ⟨hne, h8⟩)))
     ·rw [if_neg (by omega)] at h
      exact numS_scalar (nums_ok h n hn) (by omega) (by omega)
structure RLs (k : Int) (l : List (List UInt8)) (zo zl : ByteArray) (W V : World) : Prop where
 out : zo.data.toList = [91, 58] ++ Cy.word k ++ preJ l
 led : zl.data.toList = if l = [] then [32] else [44, 32]
 bel : Below W.heap.size W V
theorem RLs.next {k : Int} {l : List (List UInt8)} {zo zl zn z1 z2 : ByteArray} {W V V' : World} {x : List UInt8} (h : RLs k l zo zl W V) (hb : Below V.heap.size V V') (hn : zn.data.toList = x) (h1 : zo ++ zl = z1) (h2 : z1 ++ zn = z2) : RLs k (l ++ [x]) z2 ⟨#[44, 32]⟩ W V' := by
 refine ⟨?_, by rw [if_neg (by simp)], h.bel.trans (hb.mono h.bel.size)⟩
 rw [← h2, ← h1, ByteArray.data_append, ByteArray.data_append, Array.toList_append, Array.toList_append, h.out, h.led, hn, preJ_snoc]
 simp
theorem RLs.sizes {k : Int} {l : List (List UInt8)} {zo zl : ByteArray} {W V : World} (h : RLs k l zo zl W V) (hl : ∀ x ∈ l, x.length ≤ 4002) (hn : l.length ≤ 80) : zo.size ≤ 400007 ∧ zl.size ≤ 2 := by
 have h1 := Lib.size_eq zo
 have h2 := Lib.size_eq zl
 have h3 := preJ_len hl hn
 have h4 := word_len k
 constructor
 ·rw [h1, h.out]
  simp only [List.length_append, List.length_cons, List.length_nil]
  omega
 ·rw [h2, h.led]
  split <;> simp
set_option maxHeartbeats 16000000 in
set_option maxRecDepth 100000 in
theorem refLit_any (B : Nat) (u : Value) (v : Cel.V) (w : World) (h : VIn w B u v) (hB : B ≤ w.heap.size) :
  Calls Tryz.prog 18 #[u] w fun e w' => e = .returned (.tuple #[.string ⟨(Cy.litR v).1.toArray⟩, .int .i64 ((Cy.litR v).2 : Nat)]) ∧ Below w.heap.size w w' := by
 have hch := fun (W : World) (hb : Below w.heap.size w W) => vCheck_any B u v W (h.below (hb.mono hB)) (Nat.le_trans hB hb.size)
 have hin := h.nums
 have hi0 := h.num
 have hkn := h.kin
 obtain ⟨A1, c1, A2, c2, rfl, ra1, ra2⟩ := h.ex
 clear h
 obtain ⟨R, hR⟩ : ∃ R, Cy.litR v = R := ⟨_, rfl⟩
 rw [hR]
 unfold Cy.litR at hR
 obtain ⟨cv, hcv⟩ : ∃ c, Cel.check v = c := ⟨_, rfl⟩
 have hcl := fun h : cv = 0 => check_lit (hcv.trans h)
 have hpl := fun h : cv = 0 => parts_len (hcv.trans h) hin
 rw [hcv] at hR hch
 obtain ⟨nn, hnn⟩ : ∃ n, v.nums.length = n := ⟨_, rfl⟩
 obtain ⟨tn, htn⟩ : ∃ n, v.texts.length = n := ⟨_, rfl⟩
 obtain ⟨z, hz⟩ : ∃ z : ByteArray, (⟨v.text.toArray⟩ : ByteArray) = z := ⟨_, rfl⟩
 obtain ⟨k0, hk0⟩ : ∃ k, v.kind = k := ⟨_, rfl⟩
 rw [hnn] at ra1 hch ⊢
 rw [htn] at ra2 hch ⊢
 rw [hz] at hch ⊢
 rw [hk0] at hkn hch ⊢
 obtain ⟨W1, hW1⟩ : ∃ W1, w.alloc (.cells #[.int .i64 k0, .int .i64 v.num, .string z, .slice A1 nn c1, .slice A2 tn c2] 25) = W1 := ⟨_, rfl⟩
 have hb1 : Below w.heap.size w W1 := by rw [← hW1]; exact (Below.refl _ w).alloc (Nat.le_refl _) _
 have k1 : Blk W1 w.heap.size 25 #[.int .i64 k0, .int .i64 v.num, .string z, .slice A1 nn c1, .slice A2 tn c2] := by rw [← hW1]; exact Blk.new _ _ _
 obtain ⟨a0, a1, a2, a3, a4, -⟩ := val_cells k1
 have HV := hq7 (And.intro (And.intro hnn htn) (And.intro (And.intro hz hk0) (And.intro hin hi0)))
 have HRA := hq7 (And.intro ra1 ra2)
 have HCH := hq7 (hch W1 hb1)
 have HK1 := hq7 k1
 have HB1 := hq7 hb1
 have HBB := hq7 hB
 have HR := hq7 hR
 have HCL := hq7 hcl
 have HPL := hq7 hpl
 have HKN := hq7 hkn
 clear hch hin hi0 ra1 ra2 hR hcv hcl hpl hnn htn hz hk0 hb1 k1 hB hkn
 go_enter Tryz.func18, Tryz.ntmps18
 go_wp2_with fail
 refine HCH.out.mono ?_
 rintro e w2 ⟨rfl, b2⟩
 have k2 := HK1.out.below b2 HK1.out.lt
 have b1 := HB1.out.trans (b2.mono HB1.out.size)
 clear a0 a1 a2 a3 a4
 obtain ⟨a0, a1, a2, a3, a4, -⟩ := val_cells k2
 have HK2 := hq7 k2
 have HB2 := hq7 b1
 clear HCH k2 b1 b2
 by_cases hc : cv = 0
 ·subst hc
  have hcl := HCL.out rfl
  rw [HV.out.2.1.2] at hcl
  have hR1 := HR.out
  rw [if_pos rfl] at hR1
  obtain ⟨pv, hpv⟩ : ∃ c, Cy.lit v = c := ⟨_, rfl⟩
  rw [hpv] at hR1
  subst hR1
  have HPV := hq7 hpv
  have HC := hq7 hcl
  have hk1 := hcl.1
  have hk8 := hcl.2.1
  clear hcl hpv HCL
  by_cases h4 : k0 < 4
  ·have hs := HC.out.2.2.1 h4
   have hn := refNumS_any k0 v.num w2 hk1 (by omega) HV.out.2.2.2
   have hpv := HPV.out
   unfold Cy.lit at hpv
   rw [HV.out.2.1.2, if_pos (by omega), ← hs] at hpv
   rw [hpv] at hn
   have HN := hq7 hn
   clear hs hn hpv
   go_wp2_with fail
   refine HN.out.mono ?_
   rintro e w3 ⟨rfl, b3⟩
   have HB3 := hq7 (HB2.out.trans (b3.mono HB2.out.size))
   clear b3
   go_wp2
   go_ret2
   exact ⟨rfl, HB3.out⟩
  ·by_cases h5 : k0 = 4
   ·subst h5
    have hpv := HPV.out
    unfold Cy.lit at hpv
    rw [HV.out.2.1.2, if_pos (by omega)] at hpv
    have hq := refQuote_any z w2 (by rw [← HV.out.2.1.1, size_list]; exact Nat.le_trans HC.out.2.2.2.1 (by decide))
    rw [show z.data.toList = v.text by rw [← HV.out.2.1.1]] at hq
    rw [show Cy.scalar 4 v.num v.text = Lex.quote v.text from rfl] at hpv
    rw [hpv] at hq
    have HQ := hq7 hq
    clear hq hpv
    go_wp2_with fail
    refine HQ.out.mono ?_
    rintro e w3 ⟨rfl, b3⟩
    have HB3 := hq7 (HB2.out.trans (b3.mono HB2.out.size))
    clear b3
    go_wp2
    go_ret2
    exact ⟨rfl, HB3.out⟩
   ·have h5' : 4 < k0 := by omega
    obtain ⟨kk, hkk⟩ : ∃ kk : Nat, k0 = (kk : Int) + 5 := ⟨(k0 - 5).toNat, by omega⟩
    have hk4 : kk < 4 := by omega
    have hkI : (kk : Int) < 4 := by omega
    have r5 : IntKind.i64.wrap (k0 - 5) = (kk : Int) := by rw [IntKind.wrap_i64]; omega
    obtain ⟨k4, hk4e⟩ : ∃ k4, k0 - 4 = k4 := ⟨_, rfl⟩
    have r4 : IntKind.i64.wrap (k0 - 4) = k4 := by rw [IntKind.wrap_i64]; omega
    obtain ⟨wz, hwz⟩ : ∃ z : ByteArray, (⟨(Cy.word k4).toArray⟩ : ByteArray) = z := ⟨_, rfl⟩
    obtain ⟨W3, hW3⟩ : ∃ x, w2.alloc (.cells #[.string ⟨#[98, 111, 111, 108]⟩, .string ⟨#[105, 110, 116]⟩, .string ⟨#[102, 108, 111, 97, 116]⟩, .string ⟨#[116, 101, 120, 116]⟩] 82) = x := ⟨_, rfl⟩
    have hb3 : Below w2.heap.size w2 W3 := hW3 ▸ (Below.refl _ _).alloc (Nat.le_refl _) _
    have hcell : W3.cell? ⟨w2.heap.size, kk, none⟩ = some (.string wz) := by
     rw [← hW3, (Blk.new w2 82 _).cell, ← hwz, ← hk4e]
     rcases (show kk = 0 ∨ kk = 1 ∨ kk = 2 ∨ kk = 3 by omega) with rfl | rfl | rfl | rfl <;> (rw [hkk]; rfl)
    have hk3 := HK2.out.below hb3 HK2.out.lt
    have hb4 := HB2.out.trans (hb3.mono HB2.out.size)
    have t4 : decide (k0 < 4) = false := decide_eq_false (by omega)
    have t5 : (k0 == 4) = false := by simp; omega
    have hwl : (⟨#[91, 58]⟩ ++ wz : ByteArray).size ≤ 7 := by
     have h2 : (⟨(Cy.word k4).toArray⟩ : ByteArray).size = (Cy.word k4).length := size_list _
     have := word_len k4
     rw [ByteArray.size_append, ← hwz, h2]
     show 2 + _ ≤ 7
     omega
    obtain ⟨oz, hoz⟩ : ∃ z, (⟨#[91, 58]⟩ ++ wz : ByteArray) = z := ⟨_, rfl⟩
    have hol : oz.data.toList = [91, 58] ++ Cy.word k4 := by rw [← hoz, ← hwz]; simp
    have hwb : (2 : Nat) + wz.size ≤ 7 := by rw [ByteArray.size_append] at hwl; exact hwl
    obtain ⟨a0, a1, a2, a3, a4, -⟩ := val_cells hk3
    have HX := hq7 (And.intro hkk (And.intro hk4e (And.intro hwz hol)))
    have HK3 := hq7 hk3
    have HB4 := hq7 hb4
    have k4lo : 1 ≤ k4 := by omega
    have k4hi : k4 ≤ 4 := by omega
    clear hkk hk4e hwz hol hk3 hb4 hb3 hk4 h4 h5 h5' hwl
    have HPN := hq7 (show v.nums.length ≤ 80 ∧ ∀ y ∈ v.nums.map (fun n => Cy.scalar k4 n []), y.length ≤ 4002 by
     obtain ⟨q1, q2⟩ := HPL.out (by trivial)
     unfold Cy.parts at q1 q2
     rw [HV.out.2.1.2, HX.out.2.1] at q1 q2
     rw [List.length_append, List.length_map, List.length_map] at q1
     exact ⟨by omega, fun y hy => q2 y (List.mem_append_left _ hy)⟩)
    have hn80 : nn ≤ 80 := by have := HPN.out.1; have := HV.out.1.1; omega
    go_wp2_with fail
    go_loopg [8, 6, 7] nn (fun kx x y l wr => ∃ (i : Nat) (zo zl : ByteArray), x = .int .i64 i ∧ y = .string zo ∧ l = .string zl ∧ i + kx = nn ∧ Hid (RLs k4 ((v.nums.take i).map (fun n => Cy.scalar k4 n [])) zo zl W3 wr))
    case atStart => exact ⟨0, oz, ⟨#[32]⟩, rfl, rfl, rfl, by omega, ⟨by rw [HX.out.2.2.2]; simp [preJ], rfl, Below.refl _ _⟩⟩
    case round =>
     obtain ⟨i, zo, zl, rfl, rfl, rfl, hk, hrl⟩ := hrel
     have hr : RLs _ _ _ _ _ _ := hrl
     obtain ⟨a0, a1, a2, a3, a4, -⟩ := val_cells (HK3.out.below hr.bel HK3.out.lt)
     have HRL := hq7 hr
     clear hrl hr
     cases gk with
     | zero =>
      obtain rfl : i = nn := by omega
      have htk : v.nums.take i = v.nums := List.take_of_length_le (by have := HV.out.1.1; omega)
      have hrl := HRL.out
      rw [htk] at hrl
      have HRL := hq7 hrl
      have HPM := hq7 (show v.nums.length + v.texts.length ≤ 80 ∧ ∀ y ∈ v.nums.map (fun n => Cy.scalar k4 n []) ++ v.texts.map (fun t => Cy.scalar k4 0 t), y.length ≤ 4002 by
       obtain ⟨q1, q2⟩ := HPL.out (by trivial)
       unfold Cy.parts at q1 q2
       rw [HV.out.2.1.2, HX.out.2.1] at q1 q2
       rw [List.length_append, List.length_map, List.length_map] at q1
       exact ⟨q1, q2⟩)
      have ht80 : tn ≤ 80 := by have := HPM.out.1; have := HV.out.1.2; omega
      clear hrl htk hk
      go_wp2_with fail
      go_loopg [9, 6, 7] tn (fun kx x y l wx => ∃ (j : Nat) (zo zl : ByteArray), x = .int .i64 j ∧ y = .string zo ∧ l = .string zl ∧ j + kx = tn ∧ Hid (RLs k4 (v.nums.map (fun n => Cy.scalar k4 n []) ++ (v.texts.take j).map (fun t => Cy.scalar k4 0 t)) zo zl W3 wx))
      case atStart => exact ⟨0, zo, zl, rfl, rfl, rfl, by omega, by rw [List.take_zero, List.map_nil, List.append_nil]; exact HRL.out⟩
      case round =>
       clear HRL
       obtain ⟨j, zo, zl, rfl, rfl, rfl, hk, hrl⟩ := hrel
       have hr : RLs _ _ _ _ _ _ := hrl
       obtain ⟨a0, a1, a2, a3, a4, -⟩ := val_cells (HK3.out.below hr.bel HK3.out.lt)
       have HRL := hq7 hr
       clear hrl hr
       cases gk with
       | zero =>
        obtain rfl : j = tn := by omega
        have htk : v.texts.take j = v.texts := List.take_of_length_le (by have := HV.out.1.2; omega)
        obtain ⟨hs1, -⟩ := HRL.out.sizes (fun y hy => by rw [htk] at hy; exact HPM.out.2 y hy) (by rw [htk, List.length_append, List.length_map, List.length_map]; exact HPM.out.1)
        have ho := HRL.out.out
        rw [htk] at ho
        have hpv := HPV.out
        unfold Cy.lit Cy.parts at hpv
        rw [HV.out.2.1.2, HX.out.2.1, if_neg (by have := HX.out.1; omega)] at hpv
        have hfin : (⟨pv.toArray⟩ : ByteArray) = zo ++ ⟨#[93]⟩ := by
         apply ByteArray.ext
         rw [ByteArray.data_append, ← hpv]
         apply Array.toList_inj.1
         rw [Array.toList_append, ho]
         unfold preJ
         simp
        have hsum : zo.size + 1 ≤ 400008 := by omega
        have hb := HB4.out.trans (HRL.out.bel.mono HB4.out.size)
        have HF := hq7 (And.intro hfin hb)
        clear htk hs1 ho hpv hfin hb
        go_wp2_with fail
        go_ret2
        exact ⟨by rw [HF.out.1]; rfl, HF.out.2⟩
       | succ kq =>
        have hin : j < tn := by omega
        have hinI : (j : Int) < (tn : Int) := by omega
        obtain ⟨b, off, n, rfl, hlt, hn, hcn⟩ := Reads.at_ (HRA.out.2.below ((HB4.out.trans (HRL.out.bel.mono HB4.out.size)).mono HBB.out)) hin
        rw [List.getElem?_map] at hn
        obtain ⟨x, hx, rfl⟩ := Option.map_eq_some_iff.1 hn
        have hm := List.mem_of_getElem? hx
        have hxl := HC.out.2.2.2.2.1 x hm
        have hk44 : k4 = 4 := by
         have h1 := HX.out.1
         have h2 := HX.out.2.1
         by_cases h8 : k0 = 8
         ·omega
         ·rw [((HC.out.2.2.2.2.2 (by omega)).2 h8).1] at hx; cases hx
        obtain ⟨zx, hzx⟩ : ∃ z : ByteArray, (⟨x.toArray⟩ : ByteArray) = z := ⟨_, rfl⟩
        have hN := refQuote_any zx wr (by rw [← hzx, size_list]; omega)
        rw [show zx.data.toList = x by rw [← hzx]] at hN
        have hsc : Lex.quote x = Cy.scalar k4 0 x := by rw [hk44]; rfl
        rw [hsc] at hN
        obtain ⟨zn, hzn⟩ : ∃ z : ByteArray, (⟨(Cy.scalar k4 0 x).toArray⟩ : ByteArray) = z := ⟨_, rfl⟩
        rw [hzn] at hN
        have hznl : zn.data.toList = Cy.scalar k4 0 x := by rw [← hzn]
        have hzs : zn.size ≤ 4002 := by rw [Lib.size_eq, hznl]; exact cyScalar_len ⟨by decide, by decide⟩ hxl
        obtain ⟨hs1, hs2⟩ := HRL.out.sizes (fun y hy => HPM.out.2 y (by
         rcases List.mem_append.1 hy with hy | hy
         ·exact List.mem_append_left _ hy
         ·exact List.mem_append_right _ (List.map_subset _ (List.take_subset j _) hy))) (by rw [List.length_append, List.length_map, List.length_map, List.length_take]; have := HPM.out.1; omega)
        have hsum : zo.size + zl.size ≤ 400009 := by omega
        obtain ⟨z1, hz1⟩ : ∃ z, zo ++ zl = z := ⟨_, rfl⟩
        have hs3 : z1.size + zn.size ≤ 404020 := by rw [← hz1, ByteArray.size_append]; omega
        obtain ⟨z2, hz2⟩ : ∃ z, z1 ++ zn = z := ⟨_, rfl⟩
        have hnx : ∀ w7, Below wr.heap.size wr w7 → RLs k4 (v.nums.map (fun n => Cy.scalar k4 n []) ++ (v.texts.take (j + 1)).map (fun t => Cy.scalar k4 0 t)) z2 ⟨#[44, 32]⟩ W3 w7 := fun w7 b7 => by
         rw [map_take hx, ← List.append_assoc]
         exact HRL.out.next b7 hznl hz1 hz2
        have HNX := hq7 hnx
        have HN := hq7 hN
        have hcn' : wr.cell? ⟨b, off + j, none⟩ = some (.string zx) := by rw [← hzx]; exact hcn
        clear hn hx hm hsc hN hzn hznl hzs hs1 hs2 hnx hlt hcn hzx hxl hk44
        go_wp2_with fail
        refine HN.out.mono ?_
        rintro e w7 ⟨rfl, b7⟩
        have HS7 := hq7 (HNX.out w7 b7)
        clear b7
        go_wp2_with fail
        go_roundg kq
        case measure => omega
        case rel => exact ⟨j + 1, z2, ⟨#[44, 32]⟩, by simp, rfl, rfl, by omega, HS7.out⟩
     | succ kq =>
      have hin : i < nn := by omega
      have hinI : (i : Int) < (nn : Int) := by omega
      obtain ⟨b, off, n, rfl, hlt, hn, hcn⟩ := Reads.at_ (HRA.out.1.below (((HB4.out.trans (HRL.out.bel.mono HB4.out.size)).mono HBB.out).drew)) hin
      rw [List.getElem?_map] at hn
      obtain ⟨x, hx, rfl⟩ := Option.map_eq_some_iff.1 hn
      have hm := List.mem_of_getElem? hx
      have h5 : 4 < k0 := by have := HX.out.1; omega
      have hne8 : k0 ≠ 8 := fun e => by rw [(HC.out.2.2.2.2.2 h5).1 e] at hx; cases hx
      have hsc := ((HC.out.2.2.2.2.2 h5).2 hne8).2 x hm
      rw [HX.out.2.1] at hsc
      have hN := refNumS_any k4 x wr.drew k4lo (by have := HX.out.2.1; omega) (HV.out.2.2.1 x hm)
      rw [hsc] at hN
      obtain ⟨zn, hzn⟩ : ∃ z : ByteArray, (⟨(Cy.scalar k4 x []).toArray⟩ : ByteArray) = z := ⟨_, rfl⟩
      rw [hzn] at hN
      have hznl : zn.data.toList = Cy.scalar k4 x [] := by rw [← hzn]
      have hzs : zn.size ≤ 4002 := by rw [Lib.size_eq, hznl]; exact cyScalar_len (HV.out.2.2.1 x hm) (by simp)
      obtain ⟨hs1, hs2⟩ := HRL.out.sizes (fun y hy => HPN.out.2 y (List.map_subset _ (List.take_subset i _) hy)) (by rw [List.length_map, List.length_take]; have := HPN.out.1; omega)
      have hsum : ¬ 9223372036854775807 < zo.size + zl.size := by omega
      obtain ⟨z1, hz1⟩ : ∃ z, zo ++ zl = z := ⟨_, rfl⟩
      have hs3 : ¬ 9223372036854775807 < z1.size + zn.size := by rw [← hz1, ByteArray.size_append]; omega
      obtain ⟨z2, hz2⟩ : ∃ z, z1 ++ zn = z := ⟨_, rfl⟩
      have hnx : ∀ w7, Below wr.drew.heap.size wr.drew w7 → RLs k4 ((v.nums.take (i + 1)).map (fun n => Cy.scalar k4 n [])) z2 ⟨#[44, 32]⟩ W3 w7 := fun w7 b7 => by
       rw [map_take hx]
       exact HRL.out.next ((Below.refl wr.heap.size wr).drew.trans b7) hznl hz1 hz2
      have HNX := hq7 hnx
      have HN := hq7 hN
      have hcn' : wr.cell? ⟨b, off + i, none⟩ = some (.int .i64 x) := hcn
      clear hn hx hm hsc hN hzn hznl hzs hs1 hs2 hnx hlt hcn hne8 h5
      go_wp2_with fail
      go_region_law (first | (refine step_call 38 rfl (by go_simp) (calls_ex HN.out) ?_; rintro _ w7 ⟨rfl, b7⟩; have HS7 := hq7 (HNX.out w7 b7); clear b7) | fail)
      all_goals
       go_wp2_with fail
       go_roundg kq
       case measure => omega
       case rel => exact ⟨i + 1, z2, ⟨#[44, 32]⟩, by simp, rfl, rfl, by omega, HS7.out⟩
 ·have hR1 := HR.out
  rw [if_neg hc] at hR1
  subst hR1
  have hne : ((cv : Int) != 0) = true := by simp; omega
  go_wp2_with fail
  go_ret2
  exact ⟨rfl, HB2.out⟩
end Go.Proofs.YtoofbflplhbpbaaGreatDoor
namespace Go.Proofs.YtoofbflplhbpbaaGreatDoor
open Go.RowKit
set_option maxHeartbeats 8000000 in
set_option maxRecDepth 100000 in
theorem cypherLiterals_any (u : Value) (v : Cel.V) (w : World) (h : VIn w w.heap.size u v) (hL : Laid w) :
  Calls Tryz.prog 4 #[u] w fun e w' => e = .returned (.bool true) ∧ Below w.heap.size w w' := by
 have hok := h.ok
 have hc := fun (V : World) (hb : Below w.heap.size w V) => vCopy_any w.heap.size u v V (h.below hb) hb.size
 have hr := fun (V : World) (hb : Below w.heap.size w V) => refLit_any w.heap.size u v V (h.below hb) hb.size
 obtain ⟨A1, c1, A2, c2, rfl, -, -⟩ := h.ex
 obtain ⟨z, hz⟩ : ∃ z : ByteArray, (⟨v.text.toArray⟩ : ByteArray) = z := ⟨_, rfl⟩
 obtain ⟨zr, hzr⟩ : ∃ z : ByteArray, (⟨(Cy.litR v).1.toArray⟩ : ByteArray) = z := ⟨_, rfl⟩
 obtain ⟨er, her⟩ : ∃ n, (Cy.litR v).2 = n := ⟨_, rfl⟩
 rw [hzr, her] at hr
 rw [hz] at hc hr ⊢
 obtain ⟨W1, hW1⟩ : ∃ x, w.alloc (.cells #[.int .i64 v.kind, .int .i64 v.num, .string z, .slice A1 v.nums.length c1, .slice A2 v.texts.length c2] 25) = x := ⟨_, rfl⟩
 have hb1 : Below w.heap.size w W1 := hW1 ▸ (Below.refl _ w).alloc (Nat.le_refl _) _
 have hk1 : Blk W1 w.heap.size 25 #[.int .i64 v.kind, .int .i64 v.num, .string z, .slice A1 v.nums.length c1, .slice A2 v.texts.length c2] := hW1 ▸ Blk.new _ _ _
 have HS := hq7 (cySpeaks_any W1 (fun V hV => hL.below (hb1.trans (hV.mono hb1.size))))
 have HC := hq7 hc
 have HR := hq7 hr
 have HB1 := hq7 hb1
 have HK1 := hq7 hk1
 have HOK := hq7 hok
 have HL := hq7 hL
 have HZ := hq7 (And.intro hzr her)
 clear h hok hc hr hz hzr her hb1 hk1 hL
 go_enter Tryz.func4, Tryz.ntmps4
 go_wp2_with fail
 refine HS.out.mono ?_
 rintro e w2 ⟨rfl, b2⟩
 have hk2 := HK1.out.below b2 HK1.out.lt
 obtain ⟨a0, a1, a2, a3, a4, -⟩ := val_cells hk2
 have HB2 := hq7 (HB1.out.trans (b2.mono HB1.out.size))
 have HK2 := hq7 hk2
 have HC2 := hq7 (HC.out w2 HB2.out)
 clear b2 hk2 HS HC hW1
 go_wp2_with fail
 refine HC2.out.mono ?_
 rintro e w3 ⟨u3, rfl, o3, b3⟩
 have HB3 := hq7 (HB2.out.trans (b3.mono HB2.out.size))
 have hl3 := literal_any w3.heap.size u3 v w3 (o3.vin HOK.out) (Nat.le_refl _) (HL.out.below HB3.out)
 rw [HZ.out.1, HZ.out.2] at hl3
 have HL3 := hq7 hl3
 have HK3 := hq7 (HK2.out.below b3 HK2.out.lt)
 clear o3 b3 hl3 HC2
 go_wp2_with fail
 refine HL3.out.mono ?_
 rintro e w4 ⟨rfl, b4⟩
 have HB4 := hq7 (HB3.out.trans (b4.mono HB3.out.size))
 have hk4 := HK3.out.below b4 HK3.out.lt
 obtain ⟨a0, a1, a2, a3, a4, -⟩ := val_cells hk4
 have HR4 := hq7 (HR.out w4 HB4.out)
 clear b4 hk4 HL3 HR
 go_wp2_with fail
 refine HR4.out.mono ?_
 rintro e w5 ⟨rfl, b5⟩
 have HB5 := hq7 (HB4.out.trans (b5.mono HB4.out.size))
 clear b5 HR4
 go_wp2_with fail
 go_ret
 exact ⟨rfl, HB5.out⟩
end Go.Proofs.YtoofbflplhbpbaaGreatDoor
