/- Layer 22 (cell): the program's Parse. -/
import Derived.Test.YtoofbflplhbpbaaGreatDoorCelPList
namespace Go.Proofs.YtoofbflplhbpbaaGreatDoor
open Go.RowKit

set_option maxHeartbeats 1000000 in
/-- a value and a number are told, the value out of its block -/
theorem ret_val2 {fn : Func} {R : Ending → World → Prop} {tmps : Array Value} {W : World} {p q : Tmp} {b : Nat} {v0 v1 v2 v3 v4 n : Value} (hfn : fn.results = #[.cell p 25, .tmp q])
    (ht : tmps.getD p undef = .pointer (some ⟨b, 0, none⟩)) (hq : tmps.getD q undef = n) (hB : Blk W b 25 #[v0, v1, v2, v3, v4]) (hR : R (.returned (.tuple #[.agg #[v0, v1, v2, v3, v4], n])) W) :
    bodyPost Tryz.prog fn R .ret { tmps := tmps, defers := [] } W := by
  have c0 := hB.cell 0
  have c1 := hB.cell 1
  have c2 := hB.cell 2
  have c3 := hB.cell 3
  have c4 := hB.cell 4
  simp at c0 c1 c2 c3 c4
  refine bodyPost_ret (v := .tuple #[.agg #[v0, v1, v2, v3, v4], n]) ?_ rfl hR
  simp at ht hq
  simp [results, hfn, go_sem, ht, hq, c0, c1, c2, c3, c4]

/-- what Parse tells -/
def ParRes (R : Cel.V × Nat) (w : World) (e : Ending) (w' : World) : Prop :=
  ∃ u, e = .returned (.tuple #[u, .int .i64 (R.2 : Nat)]) ∧ VOwn w' w.heap.size u R.1 ∧ Below w.heap.size w w'
theorem mem_numE {k : Int} {m : List Int} : (m.length ≤ (m.flatMap (Cel.numE k)).length) := by
  induction m with
  | nil => simp
  | cons a m ih =>
    have := Cel.numE_len k a
    rw [List.flatMap_cons, List.length_append, List.length_cons]
    omega
theorem mem_textE {m : List (List UInt8)} : m.length ≤ (m.flatMap Cel.textE).length ∧ ∀ t ∈ m, t.length ≤ (m.flatMap Cel.textE).length := by
  induction m with
  | nil => simp
  | cons a m ih =>
    have h1 : ∀ t : List UInt8, t.length ≤ (Cel.escT t).length := by
      intro t
      induction t with
      | nil => simp
      | cons c t ih =>
        unfold Cel.escT
        split
        · simp only [List.length_cons]; omega
        · simp only [List.length_cons]; omega
    have h2 : (Cel.textE a).length = (Cel.escT a).length + 1 := by unfold Cel.textE; simp
    have h3 := h1 a
    rw [List.flatMap_cons, List.length_append, List.length_cons]
    refine ⟨by omega, ?_⟩
    intro t ht
    rcases List.mem_cons.1 ht with rfl | ht
    · omega
    · have := ih.2 t ht; omega
theorem bodyP_ok {k : Int} {r : List UInt8} (h1 : 1 ≤ k) (h8 : k ≤ 8) (hr : r.length ≤ 1073741823) (h0 : (Cel.bodyP k r).2 = 0) : VOk (Cel.bodyP k r).1 := by
  unfold Cel.bodyP at h0 ⊢
  have hk : Cel.In64 k := by unfold Cel.In64; omega
  have hz : Cel.In64 0 := by unfold Cel.In64; omega
  by_cases h4 : 4 < k
  · rw [if_pos h4] at h0 ⊢
    by_cases e8 : k = 8
    · rw [if_pos e8] at h0 ⊢
      simp only at h0
      obtain ⟨m, e1, e2⟩ := Cel.textsP_some (r.length + 1) r [] (Cel.textsP (r.length + 1) r []).1 (by omega) (Prod.ext rfl h0)
      rw [List.nil_append] at e1
      have := mem_textE (m := m)
      rw [← e2] at this
      exact ⟨hk, hz, by simp, by simp, by simp, by simp only; rw [e1]; omega, by simp only; rw [e1]; intro t ht; have := this.2 t ht; omega⟩
    · rw [if_neg e8] at h0 ⊢
      simp only at h0
      obtain ⟨m, e1, e2, e3⟩ := Cel.numsP_some (by omega) (by omega) (r.length + 1) r [] (Cel.numsP (k - 4) (r.length + 1) r []).1 (by omega) (Prod.ext rfl h0)
      rw [List.nil_append] at e1
      have := mem_numE (m := m) (k := k - 4)
      rw [← e2] at this
      exact ⟨hk, hz, by simp only; rw [e1]; exact e3, by simp, by simp only; rw [e1]; omega, by simp, by simp⟩
  · rw [if_neg h4] at h0 ⊢
    by_cases e4 : k = 4
    · rw [if_pos e4]
      exact ⟨by subst e4; exact hk, hz, by simp, by simp only; omega, by simp, by simp, by simp⟩
    · rw [if_neg e4] at h0 ⊢
      simp only at h0
      have := (Cel.numS_numP h1 (by omega) (show Cel.numP k r = ((Cel.numP k r).1, 0) from Prod.ext rfl h0)).2
      exact ⟨hk, this, by simp, by simp, by simp, by simp, by simp⟩
theorem headP_len {s r : List UInt8} {k : Int} (h : Cel.headP s = some (k, r)) : r.length ≤ s.length := by
  obtain ⟨e, -, -⟩ := Cel.headP_some h
  rw [e]
  simp
  omega
/-- the zero value in the result's block -/
theorem vown_zero (W : World) (B : Nat) : VOwn W B (.agg #[.int .i64 0, .int .i64 0, .string ⟨#[]⟩, .slice none 0 0, .slice none 0 0]) Cel.V0 :=
  ⟨_, _, rfl, World.ownsRow_nil _ _ _ _, World.ownsRow_nil _ _ _ _⟩

set_option maxHeartbeats 16000000 in
set_option maxRecDepth 100000 in
theorem celParse_any (s : ByteArray) (w : World) (hs : s.size ≤ 1073741823) (hL : Laid w) :
    Calls Tryz.prog 27 #[.string s] w (ParRes (Cel.parse s.data.toList) w) := by
  obtain ⟨R, hR⟩ : ∃ R, Cel.parse s.data.toList = R := ⟨_, rfl⟩
  rw [hR]
  unfold Cel.parse at hR
  obtain ⟨W1, hW1⟩ : ∃ W1, w.alloc (.cells #[.int .i64 0, .int .i64 0, .string ⟨#[]⟩, .slice none 0 0, .slice none 0 0] 25) = W1 := ⟨_, rfl⟩
  have hb1 : Below w.heap.size w W1 := by rw [← hW1]; exact (Below.refl _ w).alloc (Nat.le_refl _) _
  have hz1 : W1.heap.size = w.heap.size + 1 := by rw [← hW1]; simp
  have k1 : Blk W1 w.heap.size 25 #[.int .i64 0, .int .i64 0, .string ⟨#[]⟩, .slice none 0 0, .slice none 0 0] := by rw [← hW1]; exact Blk.new _ _ _
  have HL := Lib.hid (hL.below hb1)
  have HW1 := Lib.hid hW1
  have HB1 := Lib.hid hb1
  have HK1 := Lib.hid k1
  have hhd := fun (W : World) => head_any s W (by omega)
  clear hW1 hb1 k1 hL
  have hu := undef_no
  have hfail : ∀ (W : World) (x : Array Value) (tmps : Array Value) (er : Nat), R = (Cel.V0, er) → Below w.heap.size w W → Blk W w.heap.size 25 #[.int .i64 0, .int .i64 0, .string ⟨#[]⟩, .slice none 0 0, .slice none 0 0] → tmps.getD 2 undef = .pointer (some ⟨w.heap.size, 0, none⟩) → tmps.getD 3 undef = .int .i64 er →
      bodyPost Tryz.prog Tryz.f27 (ParRes R w) .ret { tmps := tmps, defers := [] } (((((W.setCell ⟨w.heap.size, 0, none⟩ (.int .i64 0)).setCell ⟨w.heap.size, 1, none⟩ (.int .i64 0)).setCell ⟨w.heap.size, 2, none⟩ (.string ⟨#[]⟩)).setCell ⟨w.heap.size, 3, none⟩ (.slice none 0 0)).setCell ⟨w.heap.size, 4, none⟩ (.slice none 0 0)) := by
    intro W x tmps er hr hb hk h2 h3
    refine ret_val2 Tryz.results27 h2 h3 (val_stored hk _ _ _ _ _) ?_
    exact ⟨_, by rw [hr], by rw [hr]; exact vown_zero _ _, hb.grown (val_stored_only W w.heap.size _ _ _ _ _) hb.size (fun j e => by cases e; omega)⟩
  have hok : ∀ (W : World) (tmps : Array Value) (v : Cel.V) (s t : Value), R = (v, 0) → Below w.heap.size w W → Blk W w.heap.size 25 #[.int .i64 0, .int .i64 0, .string ⟨#[]⟩, .slice none 0 0, .slice none 0 0] → VOwn W w.heap.size (.agg #[.int .i64 v.kind, .int .i64 v.num, .string ⟨v.text.toArray⟩, s, t]) v → tmps.getD 2 undef = .pointer (some ⟨w.heap.size, 0, none⟩) → tmps.getD 3 undef = .int .i64 0 →
      bodyPost Tryz.prog Tryz.f27 (ParRes R w) .ret { tmps := tmps, defers := [] } (((((W.setCell ⟨w.heap.size, 0, none⟩ (.int .i64 v.kind)).setCell ⟨w.heap.size, 1, none⟩ (.int .i64 v.num)).setCell ⟨w.heap.size, 2, none⟩ (.string ⟨v.text.toArray⟩)).setCell ⟨w.heap.size, 3, none⟩ s).setCell ⟨w.heap.size, 4, none⟩ t) := by
    intro W tmps v s t hr hb hk hv h2 h3
    obtain ⟨s', t', e, o1, o2⟩ := hv.ex
    have es : s = s' := by injection e with e; simp at e; exact e.1
    have et : t = t' := by injection e with e; simp at e; exact e.2
    subst es et
    have hon := val_stored_only W w.heap.size (.int .i64 v.kind) (.int .i64 v.num) (.string ⟨v.text.toArray⟩) s t
    have nt : ∀ {e : TypeId}, e ≠ 25 → ∀ g c t fz, some w.heap.size = some g → W.heap[g]? = some (.cells c t fz) → t ≠ e := fun he g c t fz e hc => by
      cases e
      unfold Blk at hk
      rw [hk] at hc
      cases hc
      exact Ne.symm he
    refine ret_val2 Tryz.results27 h2 h3 (val_stored hk _ _ _ _ _) ?_
    exact ⟨_, by rw [hr]; rfl, by rw [hr]; exact ⟨_, _, rfl, own_kept_ty o1 hon (nt (by decide)), own_kept_ty o2 hon (nt (by decide))⟩, hb.grown hon hb.size (fun j e => by cases e; omega)⟩
  have HOK := Lib.hid hok
  clear hok
  have HFAIL := Lib.hid hfail
  clear hfail
  cases hh : Cel.headP s.data.toList with
  | none =>
    rw [hh] at hR
    have hr : R = (Cel.V0, 220) := hR.symm
    have hhd2 := hhd
    rw [hh] at hhd2
    simp only [headV] at hhd2
    have HH := Lib.hid hhd2
    have HRR := Lib.hid hr
    obtain ⟨a0, a1, a2, a3, a4, f0, f1, f2, f3, f4⟩ := val_cells HK1.out
    clear hhd hhd2 hr hR hh
    go_enter Tryz.func27, Tryz.ntmps27
    go_upto_region 1 with fail
    rw [HW1.out]
    clear HW1
    go_wp2_with fail
    refine (HH.out _).mono ?_
    rintro e w1 ⟨rfl, rfl⟩
    go_wp2
    exact HFAIL.out _ #[] _ 220 HRR.out HB1.out HK1.out rfl rfl
  | some kr =>
    obtain ⟨k, r⟩ := kr
    obtain ⟨-, k1, k8⟩ := Cel.headP_some hh
    have hrl := headP_len hh
    rw [← Lib.size_eq] at hrl
    rw [hh] at hR hhd
    simp only at hR
    simp only [headV] at hhd
    obtain ⟨z, hz⟩ : ∃ z : ByteArray, (⟨r.toArray⟩ : ByteArray) = z := ⟨_, rfl⟩
    have hzl : z.data.toList = r := by rw [← hz]
    have hzs : z.size = r.length := by rw [← hz]; exact size_list _
    rw [hz] at hhd
    have hbo := bodyP_ok k1 k8 (show r.length ≤ 1073741823 by omega)
    obtain ⟨W2, hW2⟩ : ∃ W2, W1.alloc (.cells #[.int .i64 k, .int .i64 0, .string ⟨#[]⟩, .slice none 0 0, .slice none 0 0] 25) = W2 := ⟨_, rfl⟩
    have hb2 : Below W1.heap.size W1 W2 := by rw [← hW2]; exact (Below.refl _ W1).alloc (Nat.le_refl _) _
    have hz2 : W2.heap.size = W1.heap.size + 1 := by rw [← hW2]; simp
    have c2 : Blk W2 W1.heap.size 25 #[.int .i64 k, .int .i64 0, .string ⟨#[]⟩, .slice none 0 0, .slice none 0 0] := by rw [← hW2]; exact Blk.new _ _ _
    have HP2 : Hid (PlRel W1.heap.size W1 k (.slice none 0 0) (.slice none 0 0) [] [] W2) := ⟨c2, World.ownsRow_nil _ _ _ _, World.ownsRow_nil _ _ _ _, hb2, by omega⟩
    have HB2 := Lib.hid (HB1.out.trans (hb2.mono (by omega)))
    have HK2 := Lib.hid (HK1.out.below hb2 (by omega))
    have HC2 := Lib.hid c2
    have HH := Lib.hid hhd
    have HW2 := Lib.hid hW2
    have HR := Lib.hid hR
    have HBO := Lib.hid hbo
    have HZ := Lib.hid hz
    have HZ12 := Lib.hid (⟨hz1, hz2⟩ : _ ∧ _)
    clear hhd hR hh hz hbo hW2 hb2 c2 hz1 hz2
    go_enter Tryz.func27, Tryz.ntmps27
    go_upto_region 1 with fail
    rw [HW1.out]
    clear HW1
    go_wp2_with fail
    refine (HH.out _).mono ?_
    rintro e w1 ⟨rfl, rfl⟩
    go_upto_region 5 with fail
    rw [HW2.out]
    clear HW2
    by_cases h4 : 4 < k
    · have d4 : decide (4 < k) = true := decide_eq_true h4
      obtain ⟨ns, ts, er, hv, hpl⟩ : ∃ (ns : List Int) (ts : List (List UInt8)) (er : Nat), Cel.bodyP k r = (⟨k, 0, [], ns, ts⟩, er) ∧ Calls Tryz.prog 64 #[.pointer (some ⟨W1.heap.size, 0, none⟩), .string z] W2 (PlRes W1.heap.size W1 k ns ts er) := by
        have hzr : z.size + 1 = r.length + 1 := by omega
        by_cases h8 : k = 8
        · subst h8
          refine ⟨[], _, _, ?_, parseListT_any z W1 W2 (by omega) HP2.out⟩
          unfold Cel.bodyP
          rw [if_pos h4, if_pos rfl, hzl, hzr]
        · refine ⟨_, [], _, ?_, parseListN_any k z W1 W2 (by omega) (by omega) (by omega) HL.out HP2.out⟩
          unfold Cel.bodyP
          rw [if_pos h4, if_neg h8, hzl, hzr]
      have hrr0 := HR.out
      rw [hv] at hrr0
      simp only at hrr0
      have hvk := HBO.out
      rw [hv] at hvk
      simp only at hvk
      have HVK := Lib.hid hvk
      have HRB0 := Lib.hid hrr0
      have HPL := Lib.hid hpl
      have hz1 := HZ12.out.1
      have hz2 := HZ12.out.2
      have hw01 : w.heap.size ≤ W1.heap.size := by omega
      have hw02 : w.heap.size < W1.heap.size := by omega
      have hw03 : w.heap.size ≤ W1.heap.size + 1 := by omega
      clear hrr0 hvk hpl hv h4 HR HBO hz1 hz2
      obtain ⟨b0, b1, b2, b3, b4, g0, g1, g2, g3, g4⟩ := val_cells HC2.out
      go_wp2_with fail
      refine HPL.out.mono ?_
      rintro e w3 ⟨rfl, hb3, hbig3, s, t, hc3, himp⟩
      have HB3 := Lib.hid (HB1.out.trans (hb3.mono hw01))
      have HK3 := Lib.hid (HK1.out.below hb3 hw02)
      have HC3 := Lib.hid hc3
      have HIMP := Lib.hid himp
      clear hb3 hc3 himp b0 b1 b2 b3 b4 g0 g1 g2 g3 g4
      by_cases he : er = 0
      · subst he
        have hpr := HIMP.out rfl
        obtain ⟨As, cs, rfl⟩ := own_form hpr.own
        obtain ⟨At, ct, rfl⟩ := own_form hpr.owt
        have hvo : VOwn w3 w.heap.size (Value.agg #[.int .i64 k, .int .i64 0, .string ⟨#[]⟩, .slice As ns.length cs, .slice At ts.length ct]) ⟨k, 0, [], ns, ts⟩ := ⟨_, _, rfl, own_lower hpr.own hw03, own_lower hpr.owt hw03⟩
        have HVO := Lib.hid hvo
        have HVI := Lib.hid (hvo.vin (HVK.out rfl))
        have hrb := HRB0.out
        rw [if_neg (by simp)] at hrb
        have HRB := Lib.hid hrb
        clear hpr hvo hrb
        have hchk := check_any w3.heap.size (Value.agg #[.int .i64 k, .int .i64 0, .string ⟨#[]⟩, .slice As ns.length cs, .slice At ts.length ct]) ⟨k, 0, [], ns, ts⟩ w3 HVI.out (Nat.le_refl _)
        have hrr := HRB.out
        obtain ⟨cv, hcv⟩ : ∃ c, Cel.check ⟨k, 0, [], ns, ts⟩ = c := ⟨_, rfl⟩
        rw [hcv] at hchk hrr
        have HCK := Lib.hid hchk
        obtain ⟨a0, a1, a2, a3, a4, f0, f1, f2, f3, f4⟩ := val_cells HK3.out
        obtain ⟨b0, b1, b2, b3, b4, g0, g1, g2, g3, g4⟩ := val_cells HC3.out
        clear hchk hcv
        go_wp2_with fail
        refine HCK.out.mono ?_
        rintro e wz ⟨rfl, hbz⟩
        have HBZ := Lib.hid (HB3.out.trans (hbz.mono HB3.out.size))
        have HKZ := Lib.hid (HK3.out.below hbz HK3.out.lt)
        have HCZ := Lib.hid (HC3.out.below hbz HC3.out.lt)
        have HVZ := Lib.hid (HVO.out.below hbz)
        clear hbz a0 a1 a2 a3 a4 f0 f1 f2 f3 f4 b0 b1 b2 b3 b4 g0 g1 g2 g3 g4
        obtain ⟨a0, a1, a2, a3, a4, f0, f1, f2, f3, f4⟩ := val_cells HKZ.out
        by_cases hc0 : cv = 0
        · subst hc0
          rw [if_neg (by simp)] at hrr
          have HRR := Lib.hid hrr.symm
          have j0 := (HCZ.out.cell 0)
          have j1 := (HCZ.out.cell 1)
          have j2 := (HCZ.out.cell 2)
          have j3 := (HCZ.out.cell 3)
          have j4 := (HCZ.out.cell 4)
          simp at j0 j1 j2 j3 j4
          clear hrr
          go_wp2
          exact HOK.out _ _ ⟨k, 0, [], ns, ts⟩ (.slice As ns.length cs) (.slice At ts.length ct) HRR.out HBZ.out HKZ.out HVZ.out rfl rfl
        · rw [if_pos hc0] at hrr
          have HRR := Lib.hid hrr.symm
          have t9 : ((cv : Int) != 0) = true := by rw [bne_iff_ne]; omega
          have t8 : ((cv : Int) == 0) = false := by rw [beq_eq_false_iff_ne]; omega
          clear hrr hc0
          go_wp2
          exact HFAIL.out _ #[] _ cv HRR.out HBZ.out HKZ.out rfl rfl
      · have hrb := HRB0.out
        rw [if_pos he] at hrb
        have HRR := Lib.hid hrb.symm
        have t9 : ((er : Int) != 0) = true := by rw [bne_iff_ne]; omega
        have t8 : ((er : Int) == 0) = false := by rw [beq_eq_false_iff_ne]; omega
        clear hrb he
        obtain ⟨a0, a1, a2, a3, a4, f0, f1, f2, f3, f4⟩ := val_cells HK3.out
        go_wp2
        exact HFAIL.out _ #[] _ er HRR.out HB3.out HK3.out rfl rfl
    · have d4 : decide (4 < k) = false := decide_eq_false h4
      have d4i : k ≤ 4 := by omega
      have hz1 := HZ12.out.1
      have hz2 := HZ12.out.2
      have hw01 : w.heap.size ≤ W1.heap.size := by omega
      have hw02 : w.heap.size < W1.heap.size := by omega
      have hw03 : w.heap.size ≤ W1.heap.size + 1 := by omega
      have hw04 : W1.heap.size < W2.heap.size := by omega
      have hw05 : w.heap.size < W2.heap.size := by omega
      have hne : w.heap.size ≠ (⟨W1.heap.size, 2, none⟩ : Addr).block := by show w.heap.size ≠ W1.heap.size; omega
      have hne1 : w.heap.size ≠ (⟨W1.heap.size, 1, none⟩ : Addr).block := by show w.heap.size ≠ W1.heap.size; omega
      clear hz1 hz2
      have hrr0 := HR.out
      have hvk := HBO.out
      obtain ⟨b0, b1, b2, b3, b4, g0, g1, g2, g3, g4⟩ := val_cells HC2.out
      by_cases h44 : k = 4
      · subst h44
        have hv : Cel.bodyP 4 r = (⟨4, 0, r, [], []⟩, 0) := by unfold Cel.bodyP; rw [if_neg (by omega), if_pos rfl]
        rw [hv] at hrr0 hvk
        simp only at hrr0 hvk
        rw [if_neg (by simp)] at hrr0
        have HRB := Lib.hid hrr0
        obtain rfl := HZ.out
        obtain ⟨w3, hW3⟩ : ∃ W3, W2.setCell ⟨W1.heap.size, 2, none⟩ (.string ⟨r.toArray⟩) = W3 := ⟨_, rfl⟩
        have hc3 : Blk w3 W1.heap.size 25 #[.int .i64 4, .int .i64 0, .string ⟨r.toArray⟩, .slice none 0 0, .slice none 0 0] := by rw [← hW3]; exact Blk.cast (HC2.out.set_ 2 _) (by simp)
        have hb3 : Below w.heap.size w w3 := by rw [← hW3]; exact HB2.out.setCell (p := ⟨W1.heap.size, 2, none⟩) hw01 _
        have hk3 : Blk w3 w.heap.size 25 #[.int .i64 0, .int .i64 0, .string ⟨#[]⟩, .slice none 0 0, .slice none 0 0] := by rw [← hW3]; exact HK2.out.far hne _
        have hvo : VOwn w3 w.heap.size (Value.agg #[.int .i64 4, .int .i64 0, .string ⟨r.toArray⟩, .slice none 0 0, .slice none 0 0]) ⟨4, 0, r, [], []⟩ := ⟨_, _, rfl, World.ownsRow_nil _ _ _ _, World.ownsRow_nil _ _ _ _⟩
        have HVO := Lib.hid hvo
        have HVI := Lib.hid (hvo.vin (hvk trivial))
        have HB3 := Lib.hid hb3
        have HK3 := Lib.hid hk3
        have HC3 := Lib.hid hc3
        have HW3 := Lib.hid hW3
        clear hW3 hc3 hb3 hk3 hvo hrr0 hvk hv h4 HR HBO hne hne1
        go_upto_region 11 with fail
        rw [HW3.out]
        clear HW3 b0 b1 b2 b3 b4 g0 g1 g2 g3 g4
        have hchk := check_any w3.heap.size (Value.agg #[.int .i64 4, .int .i64 0, .string ⟨r.toArray⟩, .slice none 0 0, .slice none 0 0]) ⟨4, 0, r, [], []⟩ w3 HVI.out (Nat.le_refl _)
        have hrr := HRB.out
        obtain ⟨cv, hcv⟩ : ∃ c, Cel.check ⟨4, 0, r, [], []⟩ = c := ⟨_, rfl⟩
        rw [hcv] at hchk hrr
        have HCK := Lib.hid hchk
        obtain ⟨a0, a1, a2, a3, a4, f0, f1, f2, f3, f4⟩ := val_cells HK3.out
        obtain ⟨b0, b1, b2, b3, b4, g0, g1, g2, g3, g4⟩ := val_cells HC3.out
        clear hchk hcv
        go_wp2_with fail
        refine HCK.out.mono ?_
        rintro e wz ⟨rfl, hbz⟩
        have HBZ := Lib.hid (HB3.out.trans (hbz.mono HB3.out.size))
        have HKZ := Lib.hid (HK3.out.below hbz HK3.out.lt)
        have HCZ := Lib.hid (HC3.out.below hbz HC3.out.lt)
        have HVZ := Lib.hid (HVO.out.below hbz)
        clear hbz a0 a1 a2 a3 a4 f0 f1 f2 f3 f4 b0 b1 b2 b3 b4 g0 g1 g2 g3 g4
        obtain ⟨a0, a1, a2, a3, a4, f0, f1, f2, f3, f4⟩ := val_cells HKZ.out
        by_cases hc0 : cv = 0
        · subst hc0
          rw [if_neg (by simp)] at hrr
          have HRR := Lib.hid hrr.symm
          have j0 := (HCZ.out.cell 0)
          have j1 := (HCZ.out.cell 1)
          have j2 := (HCZ.out.cell 2)
          have j3 := (HCZ.out.cell 3)
          have j4 := (HCZ.out.cell 4)
          simp at j0 j1 j2 j3 j4
          clear hrr
          go_wp2
          exact HOK.out _ _ ⟨4, 0, r, [], []⟩ (.slice none 0 0) (.slice none 0 0) HRR.out HBZ.out HKZ.out HVZ.out rfl rfl
        · rw [if_pos hc0] at hrr
          have HRR := Lib.hid hrr.symm
          have t9 : ((cv : Int) != 0) = true := by rw [bne_iff_ne]; omega
          have t8 : ((cv : Int) == 0) = false := by rw [beq_eq_false_iff_ne]; omega
          clear hrr hc0
          go_wp2
          exact HFAIL.out _ #[] _ cv HRR.out HBZ.out HKZ.out rfl rfl
      · have t44 : (k == 4) = false := beq_eq_false_iff_ne.2 h44
        have hpn := parseNum_any k z W2 k1 (by omega) (by omega) (HL.out.below HP2.out.bel)
        rw [hzl] at hpn
        obtain ⟨y, er, hN⟩ : ∃ y er, Cel.numP k r = (y, er) := ⟨_, _, rfl⟩
        have hv : Cel.bodyP k r = (⟨k, y, [], [], []⟩, er) := by unfold Cel.bodyP; rw [if_neg h4, if_neg h44, hN]
        rw [hN] at hpn
        rw [hv] at hrr0 hvk
        simp only at hrr0 hvk
        have HPN := Lib.hid hpn
        have HRB0 := Lib.hid hrr0
        have HVK := Lib.hid hvk
        have HNE := Lib.hid hne1
        clear hpn hN hv hrr0 hvk h4 h44 HR HBO hne hne1
        go_wp2_with fail
        refine HPN.out.mono ?_
        rintro e w9 ⟨rfl, hb9⟩
        have HC9 := Lib.hid (HC2.out.below hb9 hw04)
        have HK9 := Lib.hid (HK2.out.below hb9 hw05)
        have HB9 := Lib.hid (HB2.out.trans (hb9.mono (Nat.le_of_lt hw05)))
        clear hb9 b0 b1 b2 b3 b4 g0 g1 g2 g3 g4
        obtain ⟨b0, b1, b2, b3, b4, g0, g1, g2, g3, g4⟩ := val_cells HC9.out
        obtain ⟨w3, hW3⟩ : ∃ W3, w9.setCell ⟨W1.heap.size, 1, none⟩ (.int .i64 y) = W3 := ⟨_, rfl⟩
        have hc3 : Blk w3 W1.heap.size 25 #[.int .i64 k, .int .i64 y, .string ⟨#[]⟩, .slice none 0 0, .slice none 0 0] := by rw [← hW3]; exact Blk.cast (HC9.out.set_ 1 _) (by simp)
        have hb3 : Below w.heap.size w w3 := by rw [← hW3]; exact HB9.out.setCell (p := ⟨W1.heap.size, 1, none⟩) hw01 _
        have hk3 : Blk w3 w.heap.size 25 #[.int .i64 0, .int .i64 0, .string ⟨#[]⟩, .slice none 0 0, .slice none 0 0] := by rw [← hW3]; exact HK9.out.far HNE.out _
        have HB3 := Lib.hid hb3
        have HK3 := Lib.hid hk3
        have HC3 := Lib.hid hc3
        have HW3 := Lib.hid hW3
        clear hW3 hc3 hb3 hk3
        go_upto_region 11 with fail
        rw [HW3.out]
        clear HW3 b0 b1 b2 b3 b4 g0 g1 g2 g3 g4
        by_cases he : er = 0
        · subst he
          have hvo : VOwn w3 w.heap.size (Value.agg #[.int .i64 k, .int .i64 y, .string ⟨#[]⟩, .slice none 0 0, .slice none 0 0]) ⟨k, y, [], [], []⟩ := ⟨_, _, rfl, World.ownsRow_nil _ _ _ _, World.ownsRow_nil _ _ _ _⟩
          have HVO := Lib.hid hvo
          have HVI := Lib.hid (hvo.vin (HVK.out rfl))
          have hrb := HRB0.out
          rw [if_neg (by simp)] at hrb
          have HRB := Lib.hid hrb
          clear hvo hrb
          have hchk := check_any w3.heap.size (Value.agg #[.int .i64 k, .int .i64 y, .string ⟨#[]⟩, .slice none 0 0, .slice none 0 0]) ⟨k, y, [], [], []⟩ w3 HVI.out (Nat.le_refl _)
          have hrr := HRB.out
          obtain ⟨cv, hcv⟩ : ∃ c, Cel.check ⟨k, y, [], [], []⟩ = c := ⟨_, rfl⟩
          rw [hcv] at hchk hrr
          have HCK := Lib.hid hchk
          obtain ⟨a0, a1, a2, a3, a4, f0, f1, f2, f3, f4⟩ := val_cells HK3.out
          obtain ⟨b0, b1, b2, b3, b4, g0, g1, g2, g3, g4⟩ := val_cells HC3.out
          clear hchk hcv
          go_wp2_with fail
          refine HCK.out.mono ?_
          rintro e wz ⟨rfl, hbz⟩
          have HBZ := Lib.hid (HB3.out.trans (hbz.mono HB3.out.size))
          have HKZ := Lib.hid (HK3.out.below hbz HK3.out.lt)
          have HCZ := Lib.hid (HC3.out.below hbz HC3.out.lt)
          have HVZ := Lib.hid (HVO.out.below hbz)
          clear hbz a0 a1 a2 a3 a4 f0 f1 f2 f3 f4 b0 b1 b2 b3 b4 g0 g1 g2 g3 g4
          obtain ⟨a0, a1, a2, a3, a4, f0, f1, f2, f3, f4⟩ := val_cells HKZ.out
          by_cases hc0 : cv = 0
          · subst hc0
            rw [if_neg (by simp)] at hrr
            have HRR := Lib.hid hrr.symm
            have j0 := (HCZ.out.cell 0)
            have j1 := (HCZ.out.cell 1)
            have j2 := (HCZ.out.cell 2)
            have j3 := (HCZ.out.cell 3)
            have j4 := (HCZ.out.cell 4)
            simp at j0 j1 j2 j3 j4
            clear hrr
            go_wp2
            exact HOK.out _ _ ⟨k, y, [], [], []⟩ (.slice none 0 0) (.slice none 0 0) HRR.out HBZ.out HKZ.out HVZ.out rfl rfl
          · rw [if_pos hc0] at hrr
            have HRR := Lib.hid hrr.symm
            have t9 : ((cv : Int) != 0) = true := by rw [bne_iff_ne]; omega
            have t8 : ((cv : Int) == 0) = false := by rw [beq_eq_false_iff_ne]; omega
            clear hrr hc0
            go_wp2
            exact HFAIL.out _ #[] _ cv HRR.out HBZ.out HKZ.out rfl rfl
        · have hrb := HRB0.out
          rw [if_pos he] at hrb
          have HRR := Lib.hid hrb.symm
          have t9 : ((er : Int) != 0) = true := by rw [bne_iff_ne]; omega
          have t8 : ((er : Int) == 0) = false := by rw [beq_eq_false_iff_ne]; omega
          clear hrb he
          obtain ⟨a0, a1, a2, a3, a4, f0, f1, f2, f3, f4⟩ := val_cells HK3.out
          go_wp2
          exact HFAIL.out _ #[] _ er HRR.out HB3.out HK3.out rfl rfl
end Go.Proofs.YtoofbflplhbpbaaGreatDoor
