/- Layer 22 (cell): the document's Copy. -/
import Derived.Test.YtoofbflplhbpbaaGreatDoorCelSame
namespace Go.Proofs.YtoofbflplhbpbaaGreatDoor
open Go.RowKit

theorem own_grown_ty' {w w' : World} {B e e' n n' sz sz' : Nat} {v x : Value} {xs ys : List Value} (h : w.ownsRow B e sz v n xs) (hg : w.grownBy w' x.ownBlock) (hx : w.ownsRow B e' sz' x n' ys) (hne : e' ≠ e) : w'.ownsRow B e sz v n xs :=
  own_kept_ty h hg (fun g c t fz hr hc => by
    obtain ⟨_, c', hc'⟩ := own_blocks hx g hr
    rw [hc'] at hc
    cases hc
    exact hne)
theorem own_lower {w : World} {B B' e sz n : Nat} {v : Value} {xs : List Value} (h : w.ownsRow B e sz v n xs) (hB : B' ≤ B) : w.ownsRow B' e sz v n xs := by
  refine ⟨h.1, ?_⟩
  rcases h.2 with hn | ⟨g, cap, cur, rfl, hb, rest⟩
  · exact .inl hn
  · exact .inr ⟨g, cap, cur, rfl, Nat.le_trans hB hb, rest⟩
set_option maxHeartbeats 1000000 in
/-- a value is told out of its block -/
theorem ret_val {fn : Func} {R : Ending → World → Prop} {tmps : Array Value} {W : World} {p : Tmp} {b : Nat} {v0 v1 v2 v3 v4 : Value} (hfn : fn.results = #[.cell p 25])
    (ht : tmps.getD p undef = .pointer (some ⟨b, 0, none⟩)) (hB : Blk W b 25 #[v0, v1, v2, v3, v4]) (hR : R (.returned (.agg #[v0, v1, v2, v3, v4])) W) :
    bodyPost Tryz.prog fn R .ret { tmps := tmps, defers := [] } W := by
  have c0 := hB.cell 0
  have c1 := hB.cell 1
  have c2 := hB.cell 2
  have c3 := hB.cell 3
  have c4 := hB.cell 4
  simp at c0 c1 c2 c3 c4
  refine bodyPost_ret (v := .agg #[v0, v1, v2, v3, v4]) ?_ rfl hR
  simp at ht
  simp [results, hfn, go_sem, ht, c0, c1, c2, c3, c4]
theorem val_cells {W : World} {b : Nat} {v0 v1 v2 v3 v4 : Value} (h : Blk W b 25 #[v0, v1, v2, v3, v4]) :
    W.cell? ⟨b, 0, none⟩ = some v0 ∧ W.cell? ⟨b, 1, none⟩ = some v1 ∧ W.cell? ⟨b, 2, none⟩ = some v2 ∧ W.cell? ⟨b, 3, none⟩ = some v3 ∧ W.cell? ⟨b, 4, none⟩ = some v4 ∧
    W.frozen? ⟨b, 0, none⟩ = false ∧ W.frozen? ⟨b, 1, none⟩ = false ∧ W.frozen? ⟨b, 2, none⟩ = false ∧ W.frozen? ⟨b, 3, none⟩ = false ∧ W.frozen? ⟨b, 4, none⟩ = false :=
  ⟨h.cell 0, h.cell 1, h.cell 2, h.cell 3, h.cell 4, h.frozen 0, h.frozen 1, h.frozen 2, h.frozen 3, h.frozen 4⟩
/-- the block behind a store of a whole value -/
theorem val_stored {W : World} {b : Nat} {u0 u1 u2 u3 u4 : Value} (h : Blk W b 25 #[u0, u1, u2, u3, u4]) (v0 v1 v2 v3 v4 : Value) :
    Blk (((((W.setCell ⟨b, 0, none⟩ v0).setCell ⟨b, 1, none⟩ v1).setCell ⟨b, 2, none⟩ v2).setCell ⟨b, 3, none⟩ v3).setCell ⟨b, 4, none⟩ v4) b 25 #[v0, v1, v2, v3, v4] :=
  Blk.cast (((((h.set_ 0 v0).set_ 1 v1).set_ 2 v2).set_ 3 v3).set_ 4 v4) (by simp)
theorem val_stored_only (W : World) (b : Nat) (v0 v1 v2 v3 v4 : Value) : W.grownBy (((((W.setCell ⟨b, 0, none⟩ v0).setCell ⟨b, 1, none⟩ v1).setCell ⟨b, 2, none⟩ v2).setCell ⟨b, 3, none⟩ v3).setCell ⟨b, 4, none⟩ v4) (some b) :=
  only_trans (only_trans (only_trans (only_trans (grownBy_set W ⟨b, 0, none⟩ v0) (grownBy_set _ ⟨b, 1, none⟩ v1)) (grownBy_set _ ⟨b, 2, none⟩ v2)) (grownBy_set _ ⟨b, 3, none⟩ v3)) (grownBy_set _ ⟨b, 4, none⟩ v4)
/-- what the loops of Copy keep: the argument's block, the result's, the copy's; the lists so far -/
structure CpRel (w : World) (a r : Array Value) (c0 c1 c2 s t : Value) (k j : Nat) (xs ys : List Value) (W : World) : Prop where
  arg : Blk W w.heap.size 25 a
  res : Blk W (w.heap.size + 1) 25 r
  cpy : Blk W (w.heap.size + 2) 25 #[c0, c1, c2, s, t]
  own : W.ownsRow (w.heap.size + 3) 2 1 s k xs
  owt : W.ownsRow (w.heap.size + 3) 9 1 t j ys
  bel : Below w.heap.size w W
  big : w.heap.size + 3 ≤ W.heap.size
theorem CpRel.drew {w : World} {a r : Array Value} {c0 c1 c2 s t : Value} {k j : Nat} {xs ys : List Value} {W : World} (h : CpRel w a r c0 c1 c2 s t k j xs ys W) : CpRel w a r c0 c1 c2 s t k j xs ys W.drew :=
  ⟨h.arg, h.res, h.cpy, own_kept_ty h.own (only_drew (only_refl _ none)) (fun g c t fz e => by cases e), own_kept_ty h.owt (only_drew (only_refl _ none)) (fun g c t fz e => by cases e), h.bel.drew, h.big⟩
/-- an element is appended to the numbers, and the copy's cell turned -/
theorem CpRel.num {w : World} {a r : Array Value} {c0 c1 c2 s t : Value} {k j : Nat} {xs ys : List Value} {W W1 : World} {s' u : Value} (h : CpRel w a r c0 c1 c2 s t k j xs ys W)
    (ho : W1.ownsRow (w.heap.size + 3) 2 1 s' (k + 1) (xs ++ [u])) (hg : W.grownBy W1 s.ownBlock) (hb : Below (w.heap.size + 3) W W1) :
    W1.cell? ⟨w.heap.size + 2, 3, none⟩ = some s ∧ W1.frozen? ⟨w.heap.size + 2, 3, none⟩ = false ∧ CpRel w a r c0 c1 c2 s' t (k + 1) j (xs ++ [u]) ys (W1.setCell ⟨w.heap.size + 2, 3, none⟩ s') := by
  have k0 := h.arg.below hb (by omega)
  have k1 := h.res.below hb (by omega)
  have k2 := h.cpy.below hb (by omega)
  have o2 := own_grown_ty' h.owt hg h.own (by decide)
  have hs := grownBy_set W1 ⟨w.heap.size + 2, 3, none⟩ s'
  have nt : ∀ {e : TypeId}, e ≠ 25 → ∀ g c t fz, some (⟨w.heap.size + 2, 3, none⟩ : Addr).block = some g → W1.heap[g]? = some (.cells c t fz) → t ≠ e := fun he g c t fz e hc => by
    cases e
    unfold Blk at k2
    rw [k2] at hc
    cases hc
    exact Ne.symm he
  refine ⟨k2.cell 3, k2.frozen 3, k0.far (by simp) _, k1.far (by simp) _, Blk.cast (k2.set_ 3 s') (by simp), own_kept_ty ho hs (nt (by decide)), own_kept_ty o2 hs (nt (by decide)), ?_, ?_⟩
  · exact (h.bel.trans (hb.mono (by omega))).setCell (p := ⟨w.heap.size + 2, 3, none⟩) (by simp) _
  · have := h.big; have := hb.size; simp; omega
theorem CpRel.txt {w : World} {a r : Array Value} {c0 c1 c2 s t : Value} {k j : Nat} {xs ys : List Value} {W W1 : World} {t' u : Value} (h : CpRel w a r c0 c1 c2 s t k j xs ys W)
    (ho : W1.ownsRow (w.heap.size + 3) 9 1 t' (j + 1) (ys ++ [u])) (hg : W.grownBy W1 t.ownBlock) (hb : Below (w.heap.size + 3) W W1) :
    W1.cell? ⟨w.heap.size + 2, 4, none⟩ = some t ∧ W1.frozen? ⟨w.heap.size + 2, 4, none⟩ = false ∧ CpRel w a r c0 c1 c2 s t' k (j + 1) xs (ys ++ [u]) (W1.setCell ⟨w.heap.size + 2, 4, none⟩ t') := by
  have k0 := h.arg.below hb (by omega)
  have k1 := h.res.below hb (by omega)
  have k2 := h.cpy.below hb (by omega)
  have o2 := own_grown_ty' h.own hg h.owt (by decide)
  have hs := grownBy_set W1 ⟨w.heap.size + 2, 4, none⟩ t'
  have nt : ∀ {e : TypeId}, e ≠ 25 → ∀ g c t fz, some (⟨w.heap.size + 2, 4, none⟩ : Addr).block = some g → W1.heap[g]? = some (.cells c t fz) → t ≠ e := fun he g c t fz e hc => by
    cases e
    unfold Blk at k2
    rw [k2] at hc
    cases hc
    exact Ne.symm he
  refine ⟨k2.cell 4, k2.frozen 4, k0.far (by simp) _, k1.far (by simp) _, Blk.cast (k2.set_ 4 t') (by simp), own_kept_ty o2 hs (nt (by decide)), own_kept_ty ho hs (nt (by decide)), ?_, ?_⟩
  · exact (h.bel.trans (hb.mono (by omega))).setCell (p := ⟨w.heap.size + 2, 4, none⟩) (by simp) _
  · have := h.big; have := hb.size; simp; omega

set_option maxHeartbeats 8000000 in
set_option maxRecDepth 100000 in
theorem vCopy_any (B : Nat) (u : Value) (v : Cel.V) (w : World) (h : VIn w B u v) (hB : B ≤ w.heap.size) :
    Calls Tryz.prog 14 #[u] w fun e w' => ∃ u', e = .returned u' ∧ VOwn w' w.heap.size u' v ∧ Below w.heap.size w w' := by
  obtain ⟨A1, c1, A2, c2, rfl, ra1, ra2⟩ := h.ex
  have hnl := h.nl
  have hsl := h.sl
  clear h
  obtain ⟨k0, n0, t0, ns, ts⟩ := v
  simp only at ra1 ra2 hnl hsl ⊢
  obtain ⟨nn, hnn⟩ : ∃ n, ns.length = n := ⟨_, rfl⟩
  obtain ⟨tn, htn⟩ : ∃ n, ts.length = n := ⟨_, rfl⟩
  obtain ⟨z, hz⟩ : ∃ z : ByteArray, (⟨t0.toArray⟩ : ByteArray) = z := ⟨_, rfl⟩
  rw [hnn] at ra1 hnl ⊢
  rw [htn] at ra2 hsl ⊢
  rw [hz]
  have hres : ∀ w' s t, Below w.heap.size w w' → w'.ownsRow (w.heap.size + 3) 2 1 s nn (ns.map I64) → w'.ownsRow (w.heap.size + 3) 9 1 t tn (ts.map ST) → VOwn w' w.heap.size (.agg #[.int .i64 k0, .int .i64 n0, .string z, s, t]) ⟨k0, n0, t0, ns, ts⟩ := fun w' s t _ h1 h2 => by
    refine ⟨s, t, by rw [← hz], ?_, ?_⟩
    · rw [hnn]; exact own_lower h1 (by omega)
    · rw [htn]; exact own_lower h2 (by omega)
  obtain ⟨W1, hW1⟩ : ∃ W1, ((w.alloc (.cells #[.int .i64 k0, .int .i64 n0, .string z, .slice A1 nn c1, .slice A2 tn c2] 25)).alloc (.cells #[.int .i64 0, .int .i64 0, .string ⟨#[]⟩, .slice none 0 0, .slice none 0 0] 25)).alloc (.cells #[.int .i64 k0, .int .i64 n0, .string z, .slice none 0 0, .slice none 0 0] 25) = W1 := ⟨_, rfl⟩
  have hcp : CpRel w #[.int .i64 k0, .int .i64 n0, .string z, .slice A1 nn c1, .slice A2 tn c2] #[.int .i64 0, .int .i64 0, .string ⟨#[]⟩, .slice none 0 0, .slice none 0 0] (.int .i64 k0) (.int .i64 n0) (.string z) (.slice none 0 0) (.slice none 0 0) 0 0 [] [] W1 := by
    rw [← hW1]
    refine ⟨((Blk.new _ _ _).alloc _).alloc _, ?_, ?_, World.ownsRow_nil _ _ _ _, World.ownsRow_nil _ _ _ _, (((Below.refl _ w).alloc (Nat.le_refl _) _).alloc (by simp) _).alloc (by simp; omega) _, by simp⟩
    · have := (Blk.new (w.alloc (.cells #[.int .i64 k0, .int .i64 n0, .string z, .slice A1 nn c1, .slice A2 tn c2] 25)) 25 #[.int .i64 0, .int .i64 0, .string ⟨#[]⟩, .slice none 0 0, .slice none 0 0]).alloc (.cells #[.int .i64 k0, .int .i64 n0, .string z, .slice none 0 0, .slice none 0 0] 25)
      simpa using this
    · have := Blk.new ((w.alloc (.cells #[.int .i64 k0, .int .i64 n0, .string z, .slice A1 nn c1, .slice A2 tn c2] 25)).alloc (.cells #[.int .i64 0, .int .i64 0, .string ⟨#[]⟩, .slice none 0 0, .slice none 0 0] 25)) 25 #[.int .i64 k0, .int .i64 n0, .string z, .slice none 0 0, .slice none 0 0]
      simpa using this
  have RA1 := Lib.hid ra1
  have RA2 := Lib.hid ra2
  have HCP := Lib.hid hcp
  have HW1 := Lib.hid hW1
  have HRES := Lib.hid hres
  have HNN := Lib.hid hnn
  have HTN := Lib.hid htn
  clear ra1 ra2 hnn htn hz hcp hW1 hres
  go_enter Tryz.func14, Tryz.ntmps14
  go_wp2_with fail
  rw [HW1.out]
  clear HW1
  go_loopg [4] nn (fun g x wr => ∃ (k : Nat) (s : Value), x = .int .i64 k ∧ k + g = nn ∧ CpRel w #[.int .i64 k0, .int .i64 n0, .string z, .slice A1 nn c1, .slice A2 tn c2] #[.int .i64 0, .int .i64 0, .string ⟨#[]⟩, .slice none 0 0, .slice none 0 0] (.int .i64 k0) (.int .i64 n0) (.string z) s (.slice none 0 0) k 0 ((ns.take k).map I64) [] wr)
  case atStart => exact ⟨0, _, rfl, by omega, HCP.out⟩
  case round =>
    obtain ⟨k, s, rfl, hk, hrel⟩ := hrel
    have hkI : (k : Int) ≤ 1073741824 := by omega
    have HK := Lib.hid hk
    have HR := Lib.hid hrel
    have hbig := hrel.big
    obtain ⟨As, cs, rfl⟩ := own_form hrel.own
    obtain ⟨a0, a1, a2, a3, a4, -⟩ := val_cells hrel.arg
    obtain ⟨b0, b1, b2, b3, b4, -, -, -, f3, f4⟩ := val_cells hrel.cpy
    cases gk with
    | zero =>
      obtain rfl : k = nn := by omega
      have hfull : (ns.take k).map I64 = ns.map I64 := by rw [List.take_of_length_le (by have := HNN.out; omega)]
      rw [hfull] at hrel
      have HR2 := Lib.hid hrel
      clear hk hrel hfull HR b0 b1 b2 b3 b4 f3 f4
      go_wp2_with fail
      clear a0 a1 a2 a3 a4
      go_loopg [5] tn (fun g x wr => ∃ (j : Nat) (t : Value), x = .int .i64 j ∧ j + g = tn ∧ CpRel w #[.int .i64 k0, .int .i64 n0, .string z, .slice A1 k c1, .slice A2 tn c2] #[.int .i64 0, .int .i64 0, .string ⟨#[]⟩, .slice none 0 0, .slice none 0 0] (.int .i64 k0) (.int .i64 n0) (.string z) (.slice As k cs) t k j (ns.map I64) ((ts.take j).map ST) wr)
      case atStart => exact ⟨0, _, rfl, by omega, HR2.out⟩
      case round =>
        obtain ⟨j, t, rfl, hj, hrel⟩ := hrel
        have hjI : (j : Int) ≤ 1073741824 := by omega
        have HJ := Lib.hid hj
        have HR := Lib.hid hrel
        have hbig := hrel.big
        obtain ⟨At, ct, rfl⟩ := own_form hrel.owt
        obtain ⟨a0, a1, a2, a3, a4, -⟩ := val_cells hrel.arg
        obtain ⟨b0, b1, b2, b3, b4, -, -, -, f3, f4⟩ := val_cells hrel.cpy
        obtain ⟨e0, e1, e2, e3, e4, g0, g1, g2, g3, g4⟩ := val_cells hrel.res
        cases gk with
        | zero =>
          obtain rfl : j = tn := by omega
          have hfull : (ts.take j).map ST = ts.map ST := by rw [List.take_of_length_le (by have := HTN.out; omega)]
          rw [hfull] at hrel
          have HR3 := Lib.hid hrel
          clear hj hrel hfull HR
          go_wp2
          have hb := (val_stored HR3.out.res (.int .i64 k0) (.int .i64 n0) (.string z) (.slice As k cs) (.slice At j ct))
          have hon := val_stored_only wr (w.heap.size + 1) (.int .i64 k0) (.int .i64 n0) (.string z) (.slice As k cs) (.slice At j ct)
          have hB3 := HR3.out.res
          have nt : ∀ {e : TypeId}, e ≠ 25 → ∀ g c t fz, some (w.heap.size + 1) = some g → wr.heap[g]? = some (.cells c t fz) → t ≠ e := fun he g c t fz e hc => by
            cases e
            unfold Blk at hB3
            rw [hB3] at hc
            cases hc
            exact Ne.symm he
          refine ret_val Tryz.results14 rfl hb ⟨_, rfl, HRES.out _ _ _ ?_ (own_kept_ty HR3.out.own hon (nt (by decide))) (own_kept_ty HR3.out.owt hon (nt (by decide))), ?_⟩
          · exact HR3.out.bel.grown hon HR3.out.bel.size (fun j e => by cases e; omega)
          · exact HR3.out.bel.grown hon HR3.out.bel.size (fun j e => by cases e; omega)
        | succ g =>
          have hjn : j < tn := by omega
          have hjnI : (j : Int) < tn := by omega
          have hjl : j < ts.length := by rw [HTN.out]; exact hjn
          obtain ⟨p, o, x, rfl, hpB, hx, hp⟩ := RA2.out.cell hjn
          rw [List.getElem?_map, List.getElem?_eq_getElem hjl] at hx
          obtain rfl := (Option.some.inj hx).symm
          obtain ⟨y, hy⟩ : ∃ y, ts[j] = y := ⟨_, rfl⟩
          rw [hy] at hp
          have htk : (ts.take (j + 1)).map ST = (ts.take j).map ST ++ [ST y] := by rw [List.take_succ_eq_append_getElem hjl, List.map_append, hy]; rfl
          have HTK := Lib.hid htk
          have hp' := (hrel.bel.cell (p := ⟨p, o + j, none⟩) (Nat.lt_of_lt_of_le hpB hB)).trans hp
          unfold ST at hp'
          have HD := Lib.hid hrel.drew
          obtain ⟨zy, hzy⟩ : ∃ z : ByteArray, (⟨y.toArray⟩ : ByteArray) = z := ⟨_, rfl⟩
          rw [hzy] at hp'
          have la4 := (hrel.arg.alloc (.cells #[.string zy] 9)).cell 4
          have lb4 := (hrel.cpy.alloc (.cells #[.string zy] 9)).cell 4
          have lp := (((Below.refl wr.heap.size wr).alloc (Nat.le_refl _) (.cells #[.string zy] 9)).cell (cell_lt' hp')).trans hp'
          simp at la4 lb4
          have HZY := Lib.hid hzy
          clear hx hj hjl hy htk hrel hp e0 e1 e2 e3 e4 g0 g1 g2 g3 g4 hzy
          go_wp2_with fail
          go_region_law (refine step_append_one rfl (.tmp 38) (.tmp 44) 23 9 (.string ⟨#[]⟩) 16 Tryz.underlying23 info_str rfl (by decide) rfl (w.heap.size + 3) (.slice At j ct) j _ wr.drew rfl HD.out.owt (.string zy) rfl rfl (by omega) hbig ?_; intro v1 w1 hown1 hgr1 _ hbel1; obtain ⟨A9, c9, rfl⟩ := own_form hown1; obtain ⟨d3, df3, hnx⟩ := HD.out.txt hown1 hgr1 hbel1)
          all_goals
            have HNX := Lib.hid hnx
            clear hown1 hgr1 hbel1 d3 df3 hnx
            go_wp2
            go_roundg g
            case measure => omega
            case rel => exact ⟨j + 1, _, int_eq' (by omega), by have := HJ.out; omega, by rw [HTK.out]; unfold ST; rw [HZY.out]; exact HNX.out⟩
    | succ g =>
      have hkn : k < nn := by omega
      have hknI : (k : Int) < nn := by omega
      have hkl : k < ns.length := by rw [HNN.out]; exact hkn
      obtain ⟨p, o, x, rfl, hpB, hx, hp⟩ := RA1.out.cell hkn
      rw [List.getElem?_map, List.getElem?_eq_getElem hkl] at hx
      obtain rfl := (Option.some.inj hx).symm
      obtain ⟨y, hy⟩ : ∃ y, ns[k] = y := ⟨_, rfl⟩
      rw [hy] at hp
      have htk : (ns.take (k + 1)).map I64 = (ns.take k).map I64 ++ [I64 y] := by rw [List.take_succ_eq_append_getElem hkl, List.map_append, hy]; rfl
      have HTK := Lib.hid htk
      have hp' := (hrel.bel.cell (p := ⟨p, o + k, none⟩) (Nat.lt_of_lt_of_le hpB hB)).trans hp
      unfold I64 at hp'
      have HD := Lib.hid hrel.drew
      have la3 := (hrel.arg.alloc (.cells #[.int .i64 y] 2)).cell 3
      have lb3 := (hrel.cpy.alloc (.cells #[.int .i64 y] 2)).cell 3
      have lp := (((Below.refl wr.heap.size wr).alloc (Nat.le_refl _) (.cells #[.int .i64 y] 2)).cell (cell_lt' hp')).trans hp'
      simp at la3 lb3
      clear hx hk hkl hy htk hrel hp
      go_wp2_with fail
      go_region_law (refine step_append_one rfl (.tmp 21) (.tmp 27) 22 2 (.int .i64 0) 8 Tryz.underlying22 info_int64 rfl (by decide) rfl (w.heap.size + 3) (.slice As k cs) k _ wr.drew rfl HD.out.own (.int .i64 y) rfl rfl (by omega) hbig ?_; intro v1 w1 hown1 hgr1 _ hbel1; obtain ⟨A9, c9, rfl⟩ := own_form hown1; obtain ⟨d3, df3, hnx⟩ := HD.out.num hown1 hgr1 hbel1)
      all_goals
        have HNX := Lib.hid hnx
        clear hown1 hgr1 hbel1 d3 df3 hnx
        go_wp2
        go_roundg g
        case measure => omega
        case rel => exact ⟨k + 1, _, int_eq' (by omega), by have := HK.out; omega, by rw [HTK.out]; exact HNX.out⟩
end Go.Proofs.YtoofbflplhbpbaaGreatDoor
