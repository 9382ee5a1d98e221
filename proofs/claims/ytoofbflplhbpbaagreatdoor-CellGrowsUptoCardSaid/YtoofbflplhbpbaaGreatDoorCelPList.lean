/- Layer 22 (cell): the program's parseList. -/
import Derived.Test.YtoofbflplhbpbaaGreatDoorCelPrint
import Derived.Test.YtoofbflplhbpbaaGreatDoorCelCopy
namespace Go.Proofs.YtoofbflplhbpbaaGreatDoor
open Go.RowKit

theorem cut59_cut : ∀ (l b : List UInt8), (Lib.cut l [59]).2.2 = (Cel.cut59 l b).isSome ∧ ∀ x r, Cel.cut59 l b = some (x, r) → x = b ++ (Lib.cut l [59]).1 ∧ r = (Lib.cut l [59]).2.1 := by
  intro l b
  unfold Lib.cut
  rw [Lib.index_one]
  induction l generalizing b with
  | nil =>
    refine ⟨rfl, ?_⟩
    intro x r h
    cases h
  | cons c l ih =>
    have hge := Lib.indexByte_ge l 59
    by_cases hc : c = 59
    · subst hc
      have e : Lib.indexByte (59 :: l) 59 = 0 := by simp [Lib.indexByte]
      have e2 : Cel.cut59 (59 :: l) b = some (b, l) := by simp [Cel.cut59]
      rw [e, e2]
      refine ⟨rfl, ?_⟩
      intro x r h
      cases h
      simp
    · have e2 : Cel.cut59 (c :: l) b = Cel.cut59 l (b ++ [c]) := by rw [Cel.cut59, if_neg hc]
      rw [e2]
      obtain ⟨i1, i2⟩ := ih (b ++ [c])
      by_cases hi : Lib.indexByte l 59 < 0
      · have e : Lib.indexByte (c :: l) 59 = -1 := by simp [Lib.indexByte, hc]; omega
        rw [if_neg (by omega)] at i1 i2
        rw [e, if_neg (by omega)]
        refine ⟨i1, ?_⟩
        intro x r h
        rw [h] at i1
        cases i1
      · obtain ⟨n, hn⟩ : ∃ n : Nat, Lib.indexByte l 59 = n := ⟨(Lib.indexByte l 59).toNat, by omega⟩
        have e : Lib.indexByte (c :: l) 59 = ((n + 1 : Nat) : Int) := by simp [Lib.indexByte, hc, hn]
        rw [hn, if_pos (by omega)] at i1 i2
        rw [e, if_pos (by omega)]
        refine ⟨i1, ?_⟩
        intro x r h
        obtain ⟨j1, j2⟩ := i2 x r h
        refine ⟨?_, ?_⟩
        · rw [j1]; simp
        · rw [j2]; simp
theorem cut59_none {l : List UInt8} (h : Cel.cut59 l [] = none) : (Lib.cut l [59]).2.2 = false := by
  have := (cut59_cut l []).1
  rw [h] at this
  exact this
theorem cut59_yes {l x r : List UInt8} (h : Cel.cut59 l [] = some (x, r)) : Lib.cut l [59] = (x, r, true) := by
  obtain ⟨h1, h2⟩ := cut59_cut l []
  obtain ⟨h3, h4⟩ := h2 x r h
  rw [h] at h1
  rw [h3, h4, List.nil_append]
  exact Prod.ext rfl (Prod.ext rfl h1)
theorem cut59_shorter {l x r : List UInt8} (h : Cel.cut59 l [] = some (x, r)) : x.length + r.length + 1 = l.length := by
  obtain ⟨a, e1, e2⟩ := Cel.cut59_some l [] x r h
  rw [List.nil_append] at e1
  rw [e2, e1]
  simp
  omega
theorem elem_shorter {l x r : List UInt8} (h : Cel.elem l [] = some (x, r)) : x.length + r.length + 1 ≤ l.length := by
  obtain ⟨t, e1, e2⟩ := Cel.elem_some _ l [] x r (Nat.le_refl _) h
  rw [List.nil_append] at e1
  have : ∀ t : List UInt8, t.length ≤ (Cel.escT t).length := by
    intro t
    induction t with
    | nil => simp
    | cons c t ih =>
      unfold Cel.escT
      split
      · simp only [List.length_cons]; omega
      · simp only [List.length_cons]; omega
  have h2 := this t
  rw [e2, e1]
  simp
  omega

structure PlRel (b : Nat) (w : World) (c0 : Int) (s t : Value) (ns : List Int) (ts : List (List UInt8)) (W : World) : Prop where
  cpy : Blk W b 25 #[.int .i64 c0, .int .i64 0, .string ⟨#[]⟩, s, t]
  own : W.ownsRow (b + 1) 2 1 s ns.length (ns.map I64)
  owt : W.ownsRow (b + 1) 9 1 t ts.length (ts.map ST)
  bel : Below b w W
  big : b + 1 ≤ W.heap.size
theorem PlRel.below {b : Nat} {w : World} {c0 : Int} {s t : Value} {ns : List Int} {ts : List (List UInt8)} {W W' : World} (h : PlRel b w c0 s t ns ts W) (hb : Below W.heap.size W W') : PlRel b w c0 s t ns ts W' := by
  have hB := h.big
  exact ⟨h.cpy.below hb h.cpy.lt, own_kept_ty h.own (only_of_below hb none) (fun g c t fz hr => by cases hr), own_kept_ty h.owt (only_of_below hb none) (fun g c t fz hr => by cases hr), h.bel.trans (hb.mono (by omega)), Nat.le_trans hB hb.size⟩
theorem PlRel.num {b : Nat} {w : World} {c0 : Int} {s t s' : Value} {ns : List Int} {y : Int} {ts : List (List UInt8)} {W W1 : World} (h : PlRel b w c0 s t ns ts W)
    (ho : W1.ownsRow (b + 1) 2 1 s' (ns.length + 1) (ns.map I64 ++ [I64 y])) (hg : W.grownBy W1 s.ownBlock) (hb : Below (b + 1) W W1) :
    W1.cell? ⟨b, 3, none⟩ = some s ∧ W1.frozen? ⟨b, 3, none⟩ = false ∧ PlRel b w c0 s' t (ns ++ [y]) ts (W1.setCell ⟨b, 3, none⟩ s') := by
  have k2 := h.cpy.below hb (by omega)
  have o2 := own_grown_ty' h.owt hg h.own (by decide)
  have hs := grownBy_set W1 ⟨b, 3, none⟩ s'
  have nt : ∀ {e : TypeId}, e ≠ 25 → ∀ g c t fz, some (⟨b, 3, none⟩ : Addr).block = some g → W1.heap[g]? = some (.cells c t fz) → t ≠ e := fun he g c t fz e hc => by
    cases e
    unfold Blk at k2
    rw [k2] at hc
    cases hc
    exact Ne.symm he
  refine ⟨k2.cell 3, k2.frozen 3, Blk.cast (k2.set_ 3 s') (by simp), ?_, own_kept_ty o2 hs (nt (by decide)), ?_, ?_⟩
  · rw [List.length_append, List.map_append]
    exact own_kept_ty ho hs (nt (by decide))
  · exact (h.bel.trans (hb.mono (by omega))).setCell (p := ⟨b, 3, none⟩) (by simp) _
  · have := h.big; have := hb.size; simp; omega
theorem PlRel.txt {b : Nat} {w : World} {c0 : Int} {s t t' : Value} {ns : List Int} {y : List UInt8} {ts : List (List UInt8)} {W W1 : World} (h : PlRel b w c0 s t ns ts W)
    (ho : W1.ownsRow (b + 1) 9 1 t' (ts.length + 1) (ts.map ST ++ [ST y])) (hg : W.grownBy W1 t.ownBlock) (hb : Below (b + 1) W W1) :
    W1.cell? ⟨b, 4, none⟩ = some t ∧ W1.frozen? ⟨b, 4, none⟩ = false ∧ PlRel b w c0 s t' ns (ts ++ [y]) (W1.setCell ⟨b, 4, none⟩ t') := by
  have k2 := h.cpy.below hb (by omega)
  have o2 := own_grown_ty' h.own hg h.owt (by decide)
  have hs := grownBy_set W1 ⟨b, 4, none⟩ t'
  have nt : ∀ {e : TypeId}, e ≠ 25 → ∀ g c t fz, some (⟨b, 4, none⟩ : Addr).block = some g → W1.heap[g]? = some (.cells c t fz) → t ≠ e := fun he g c t fz e hc => by
    cases e
    unfold Blk at k2
    rw [k2] at hc
    cases hc
    exact Ne.symm he
  refine ⟨k2.cell 4, k2.frozen 4, Blk.cast (k2.set_ 4 t') (by simp), own_kept_ty o2 hs (nt (by decide)), ?_, ?_, ?_⟩
  · rw [List.length_append, List.map_append]
    exact own_kept_ty ho hs (nt (by decide))
  · exact (h.bel.trans (hb.mono (by omega))).setCell (p := ⟨b, 4, none⟩) (by simp) _
  · have := h.big; have := hb.size; simp; omega

/-- how parseList ends: the error, and the lists where there is none -/
def PlRes (b : Nat) (w : World) (c0 : Int) (ns : List Int) (ts : List (List UInt8)) (er : Nat) (e : Ending) (w' : World) : Prop :=
  e = .returned (.int .i64 er) ∧ Below b w w' ∧ b + 1 ≤ w'.heap.size ∧ ∃ s t, Blk w' b 25 #[.int .i64 c0, .int .i64 0, .string ⟨#[]⟩, s, t] ∧ (er = 0 → PlRel b w c0 s t ns ts w')

set_option maxHeartbeats 8000000 in
set_option maxRecDepth 100000 in
theorem parseListN_any (k : Int) (rest : ByteArray) (w0 w : World) (hk5 : 5 ≤ k) (hk7 : k ≤ 7) (hs : rest.size ≤ 1073741823) (hL : Laid w0)
    (hb : PlRel w0.heap.size w0 k (.slice none 0 0) (.slice none 0 0) [] [] w) :
    Calls Tryz.prog 64 #[.pointer (some ⟨w0.heap.size, 0, none⟩), .string rest] w (PlRes w0.heap.size w0 k (Cel.numsP (k - 4) (rest.size + 1) rest.data.toList []).1 [] (Cel.numsP (k - 4) (rest.size + 1) rest.data.toList []).2) := by
  obtain ⟨R, hR⟩ : ∃ R, Cel.numsP (k - 4) (rest.size + 1) rest.data.toList [] = R := ⟨_, rfl⟩
  rw [hR]
  have HR := Lib.hid hR
  have HB := Lib.hid hb
  have HL := Lib.hid hL
  have hsi : (rest.size : Int) ≤ 1073741823 := by omega
  clear hR hb hL
  go_enter Tryz.func64, Tryz.ntmps64
  go_wp2_with fail
  go_loopg [1] rest.size (fun g x wr => ∃ (z : ByteArray) (f : Nat) (ns : List Int) (s : Value), x = .string z ∧ z.size = g ∧ z.size < f ∧ Cel.numsP (k - 4) f z.data.toList ns = R ∧ ns.length + z.size ≤ rest.size ∧ PlRel w0.heap.size w0 k s (.slice none 0 0) ns [] wr)
  case atStart => exact ⟨rest, rest.size + 1, [], .slice none 0 0, rfl, rfl, by omega, HR.out, by simp, HB.out⟩
  case round =>
    obtain ⟨z, f, ns, s, rfl, hz, hf, hres, hnl, hrel⟩ := hrel
    have HQ := Lib.hid hrel
    obtain ⟨As, cs, rfl⟩ := own_form hrel.own
    have hbig := hrel.big
    obtain ⟨a0, a1, a2, a3, a4, -⟩ := val_cells hrel.cpy
    clear hrel
    cases f with
    | zero => omega
    | succ f =>
    unfold Cel.numsP at hres
    cases gk with
    | zero =>
      have hzl : z.data.toList = [] := List.eq_nil_of_length_eq_zero (by rw [← Lib.size_eq]; exact hz)
      have t0 : (z.toList == []) = true := by rw [Lib.toList_data, hzl]; rfl
      have t1 : (z.toList != []) = false := by rw [Lib.toList_data, hzl]; rfl
      rw [if_pos hzl] at hres
      subst hres
      clear hzl hz hf
      go_wp2
      go_ret
      exact ⟨rfl, HQ.out.bel, HQ.out.big, _, _, HQ.out.cpy, fun _ => HQ.out⟩
    | succ g =>
      have hzl : z.data.toList ≠ [] := fun e => by have := Lib.size_eq z; rw [e, List.length_nil] at this; omega
      have t0 : (z.toList == []) = false := by rw [Lib.toList_data]; exact list_beq hzl
      have t1 : (z.toList != []) = true := by rw [bne, t0]; rfl
      have t8 : (k == 8) = false := beq_eq_false_iff_ne.2 (by omega)
      rw [if_neg hzl] at hres
      obtain ⟨mm, hmm⟩ := (HL.out.below HQ.out.bel).max
      have hcut := Tryz.strings_Cut z ⟨#[59]⟩ mm wr (by omega) hmm
      have e59 : (⟨#[59]⟩ : ByteArray).data.toList = [59] := rfl
      rw [e59] at hcut
      cases hc : Cel.cut59 z.data.toList [] with
      | none =>
        rw [hc] at hres
        simp only at hres
        have hcn := cut59_none hc
        rw [hcn] at hcut
        subst hres
        have HC := Lib.hid hcut
        clear hcut hcn hc hzl hz hf hmm e59
        go_wp2_with fail
        refine HC.out.mono ?_
        rintro e w1 ⟨rfl, n, rfl⟩
        have HQ1 := Lib.hid (HQ.out.below (below_drewN (Below.refl _ _) n))
        go_wp2
        go_ret
        exact ⟨rfl, HQ1.out.bel, HQ1.out.big, _, _, HQ1.out.cpy, fun h => by cases h⟩
      | some xr =>
        obtain ⟨x, r⟩ := xr
        rw [hc] at hres
        simp only at hres
        have hcy := cut59_yes hc
        have hcs := cut59_shorter hc
        rw [← Lib.size_eq] at hcs
        rw [hcy] at hcut
        simp only at hcut
        obtain ⟨zx, hzx⟩ : ∃ zx : ByteArray, (⟨x.toArray⟩ : ByteArray) = zx := ⟨_, rfl⟩
        obtain ⟨zr, hzr⟩ : ∃ zr : ByteArray, (⟨r.toArray⟩ : ByteArray) = zr := ⟨_, rfl⟩
        have hzxl : zx.data.toList = x := by rw [← hzx]
        have hzrl : zr.data.toList = r := by rw [← hzr]
        have hzxs : zx.size = x.length := by rw [← hzx]; exact size_list _
        have hzrs : zr.size = r.length := by rw [← hzr]; exact size_list _
        rw [hzx, hzr] at hcut
        have hpn := fun (W : World) (hb : Below w0.heap.size w0 W) => parseNum_any (k - 4) zx W (by omega) (by omega) (by omega) (HL.out.below hb)
        rw [hzxl] at hpn
        obtain ⟨N, hN⟩ : ∃ N, Cel.numP (k - 4) x = N := ⟨_, rfl⟩
        rw [hN] at hpn hres
        have HC := Lib.hid hcut
        have HPN := Lib.hid hpn
        have HZRL := Lib.hid hzrl
        have HZRS := Lib.hid (show zr.size < z.size ∧ zr.size < f by omega)
        have HRES := Lib.hid hres
        have HNL := Lib.hid (show ns.length + 1 + zr.size ≤ rest.size by omega)
        have hnl2 : ns.length < 1073741824 := by omega
        have HZ := Lib.hid hz
        clear hcut hcy hcs hc hzx hzr hzxl hzrl hzxs hzrs hpn hN hzl hz hf hmm e59 hres hnl
        go_wp2_with fail
        refine HC.out.mono ?_
        rintro e w1 ⟨rfl, n, rfl⟩
        have HQ1 := Lib.hid (HQ.out.below (below_drewN (Below.refl _ _) n))
        clear a0 a1 a2 a3 a4
        obtain ⟨a0, a1, a2, a3, a4, -⟩ := val_cells HQ1.out.cpy
        go_wp2_with fail
        refine (HPN.out _ HQ1.out.bel).mono ?_
        rintro e w2 ⟨rfl, hb2⟩
        have HQ2 := Lib.hid (HQ1.out.below hb2)
        clear a0 a1 a2 a3 a4 hb2
        obtain ⟨a0, a1, a2, a3, a4, -⟩ := val_cells HQ2.out.cpy
        obtain ⟨y, er⟩ := N
        by_cases he : er = 0
        · subst he
          have hres := HRES.out
          rw [if_neg (by simp)] at hres
          have HRS := Lib.hid hres
          have hbg := HQ2.out.big
          have la3 := (HQ2.out.cpy.alloc (.cells #[.int .i64 y] 2)).cell 3
          simp at la3
          clear hres
          go_wp2_with (at_builtin; refine wpList_append_one rfl (.tmp 62) (.tmp 64) 22 2 (.int .i64 0) 8 Tryz.underlying22 info_int64 rfl (by decide) rfl (w0.heap.size + 1) (.slice As ns.length cs) ns.length _ w2 rfl HQ2.out.own (.int .i64 y) rfl rfl hnl2 hbg ?_)
          intro v9 w9 hown9 hgr9 hwh9 hb9
          obtain ⟨A9, c9, rfl⟩ := own_form hown9
          obtain ⟨d3, df3, hnx⟩ := HQ2.out.num hown9 hgr9 hb9
          have HNX := Lib.hid hnx
          clear hown9 hgr9 hwh9 hb9 hnx la3 a0 a1 a2 a3 a4
          go_wp2
          go_roundg zr.size
          case measure => have := HZRS.out; have := HZ.out; omega
          case rel => exact ⟨zr, f, ns ++ [y], _, rfl, rfl, HZRS.out.2, by rw [HZRL.out]; exact HRS.out, by rw [List.length_append, List.length_singleton]; exact HNL.out, HNX.out⟩
        · have hres := HRES.out
          rw [if_pos he] at hres
          subst hres
          have t9 : ((er : Int) != 0) = true := by rw [bne_iff_ne]; omega
          have HE := Lib.hid he
          clear he
          go_wp2
          go_ret
          exact ⟨rfl, HQ2.out.bel, HQ2.out.big, _, _, HQ2.out.cpy, fun h => absurd h HE.out⟩

set_option maxHeartbeats 8000000 in
set_option maxRecDepth 100000 in
theorem parseListT_any (rest : ByteArray) (w0 w : World) (hs : rest.size ≤ 1073741823)
    (hb : PlRel w0.heap.size w0 8 (.slice none 0 0) (.slice none 0 0) [] [] w) :
    Calls Tryz.prog 64 #[.pointer (some ⟨w0.heap.size, 0, none⟩), .string rest] w (PlRes w0.heap.size w0 8 [] (Cel.textsP (rest.size + 1) rest.data.toList []).1 (Cel.textsP (rest.size + 1) rest.data.toList []).2) := by
  obtain ⟨R, hR⟩ : ∃ R, Cel.textsP (rest.size + 1) rest.data.toList [] = R := ⟨_, rfl⟩
  rw [hR]
  have HR := Lib.hid hR
  have HB := Lib.hid hb
  have hsi : (rest.size : Int) ≤ 1073741823 := by omega
  clear hR hb
  go_enter Tryz.func64, Tryz.ntmps64
  go_wp2_with fail
  go_loopg [1] rest.size (fun g x wr => ∃ (z : ByteArray) (f : Nat) (ts : List (List UInt8)) (t : Value), x = .string z ∧ z.size = g ∧ z.size < f ∧ Cel.textsP f z.data.toList ts = R ∧ ts.length + z.size ≤ rest.size ∧ PlRel w0.heap.size w0 8 (.slice none 0 0) t [] ts wr)
  case atStart => exact ⟨rest, rest.size + 1, [], .slice none 0 0, rfl, rfl, by omega, HR.out, by simp, HB.out⟩
  case round =>
    obtain ⟨z, f, ts, t, rfl, hz, hf, hres, hnl, hrel⟩ := hrel
    have HQ := Lib.hid hrel
    obtain ⟨As, cs, rfl⟩ := own_form hrel.owt
    have hbig := hrel.big
    obtain ⟨a0, a1, a2, a3, a4, -⟩ := val_cells hrel.cpy
    clear hrel
    cases f with
    | zero => omega
    | succ f =>
    unfold Cel.textsP at hres
    cases gk with
    | zero =>
      have hzl : z.data.toList = [] := List.eq_nil_of_length_eq_zero (by rw [← Lib.size_eq]; exact hz)
      have t0 : (z.toList == []) = true := by rw [Lib.toList_data, hzl]; rfl
      have t1 : (z.toList != []) = false := by rw [Lib.toList_data, hzl]; rfl
      rw [if_pos hzl] at hres
      subst hres
      clear hzl hz hf
      go_wp2
      go_ret
      exact ⟨rfl, HQ.out.bel, HQ.out.big, _, _, HQ.out.cpy, fun _ => HQ.out⟩
    | succ g =>
      have hzl : z.data.toList ≠ [] := fun e => by have := Lib.size_eq z; rw [e, List.length_nil] at this; omega
      have t0 : (z.toList == []) = false := by rw [Lib.toList_data]; exact list_beq hzl
      have t1 : (z.toList != []) = true := by rw [bne, t0]; rfl
      rw [if_neg hzl] at hres
      have hel := element_any z wr (by omega)
      cases hc : Cel.elem z.data.toList [] with
      | none =>
        rw [hc] at hres hel
        simp only at hres
        simp only [elemV] at hel
        subst hres
        have HC := Lib.hid hel
        clear hel hc hzl hz hf
        go_wp2_with fail
        refine HC.out.mono ?_
        rintro e w1 ⟨rfl, hb1⟩
        have HQ1 := Lib.hid (HQ.out.below hb1)
        clear hb1
        go_wp2
        go_ret
        exact ⟨rfl, HQ1.out.bel, HQ1.out.big, _, _, HQ1.out.cpy, fun h => by cases h⟩
      | some xr =>
        obtain ⟨x, r⟩ := xr
        rw [hc] at hres hel
        simp only at hres
        have hcs := elem_shorter hc
        rw [← Lib.size_eq] at hcs
        simp only [elemV] at hel
        obtain ⟨zx, hzx⟩ : ∃ zx : ByteArray, (⟨x.toArray⟩ : ByteArray) = zx := ⟨_, rfl⟩
        obtain ⟨zr, hzr⟩ : ∃ zr : ByteArray, (⟨r.toArray⟩ : ByteArray) = zr := ⟨_, rfl⟩
        have hzrl : zr.data.toList = r := by rw [← hzr]
        have hzrs : zr.size = r.length := by rw [← hzr]; exact size_list _
        rw [hzx, hzr] at hel
        have HC := Lib.hid hel
        have HZX := Lib.hid hzx
        have HZRL := Lib.hid hzrl
        have HZRS := Lib.hid (show zr.size < z.size ∧ zr.size < f by omega)
        have HRES := Lib.hid hres
        have HNL := Lib.hid (show ts.length + 1 + zr.size ≤ rest.size by omega)
        have hnl2 : ts.length < 1073741824 := by omega
        have HZ := Lib.hid hz
        clear hel hcs hc hzx hzr hzrl hzrs hzl hz hf hres hnl
        go_wp2_with fail
        refine HC.out.mono ?_
        rintro e w2 ⟨rfl, hb1⟩
        have HQ2 := Lib.hid (HQ.out.below hb1)
        clear a0 a1 a2 a3 a4 hb1
        obtain ⟨a0, a1, a2, a3, a4, -⟩ := val_cells HQ2.out.cpy
        have hbg := HQ2.out.big
        have la3 := (HQ2.out.cpy.alloc (.cells #[.string zx] 9)).cell 4
        simp at la3
        go_wp2_with (at_builtin; refine wpList_append_one rfl (.tmp 31) (.tmp 33) 23 9 (.string ⟨#[]⟩) 16 Tryz.underlying23 info_str rfl (by decide) rfl (w0.heap.size + 1) (.slice As ts.length cs) ts.length _ w2 rfl HQ2.out.owt (.string zx) rfl rfl hnl2 hbg ?_)
        intro v9 w9 hown9 hgr9 hwh9 hb9
        obtain ⟨A9, c9, rfl⟩ := own_form hown9
        obtain ⟨d3, df3, hnx⟩ := HQ2.out.txt (y := x) (by unfold ST; rw [HZX.out]; exact hown9) hgr9 hb9
        have HNX := Lib.hid hnx
        clear hown9 hgr9 hwh9 hb9 hnx la3 a0 a1 a2 a3 a4
        go_wp2
        go_roundg zr.size
        case measure => have := HZRS.out; have := HZ.out; omega
        case rel => exact ⟨zr, f, ts ++ [x], _, rfl, rfl, HZRS.out.2, by rw [HZRL.out]; exact HRES.out, by rw [List.length_append, List.length_singleton]; exact HNL.out, HNX.out⟩
end Go.Proofs.YtoofbflplhbpbaaGreatDoor
