/- Layer 22 (cell): the document's Parse. -/
import Derived.Test.YthnaiiejjdmnaaaGreatDoorCelRPrint
import Derived.Test.YthnaiiejjdmnaaaGreatDoorCelParse
namespace Go.Proofs.YthnaiiejjdmnaaaGreatDoor
open Go.RowKit

/-! the plain law: an element behind another -/
def elemK (k : Int) (l b : Cel.L) : Option (Cel.L × Cel.L) := if k = 8 then Cel.elem l b else Cel.cut59 l b
def goP (k : Int) (f : Nat) (l : Cel.L) (ns : List Int) (ts : List Cel.L) : Cel.V × Nat :=
  if k = 8 then (⟨k, 0, [], ns, (Cel.textsP f l ts).1⟩, (Cel.textsP f l ts).2) else (⟨k, 0, [], (Cel.numsP (k - 4) f l ns).1, ts⟩, (Cel.numsP (k - 4) f l ns).2)
theorem goP_body {k : Int} {r : Cel.L} (h : 4 < k) : Cel.bodyP k r = goP k (r.length + 1) r [] [] := by
  unfold Cel.bodyP goP
  rw [if_pos h]
theorem goP_nil (k : Int) (f : Nat) (ns : List Int) (ts : List Cel.L) : goP k (f + 1) [] ns ts = (⟨k, 0, [], ns, ts⟩, 0) := by
  unfold goP
  simp [Cel.textsP, Cel.numsP]
theorem goP_none {k : Int} {f : Nat} {l : Cel.L} {ns : List Int} {ts : List Cel.L} (hl : l ≠ []) (h : elemK k l [] = none) : (goP k (f + 1) l ns ts).2 = 220 := by
  unfold elemK at h
  unfold goP
  split at h
  · rename_i h8
    rw [if_pos h8]
    simp [Cel.textsP, hl, h]
  · rename_i h8
    rw [if_neg h8]
    simp [Cel.numsP, hl, h]
theorem goP_text {f : Nat} {l x r : Cel.L} {ns : List Int} {ts : List Cel.L} (hl : l ≠ []) (h : elemK 8 l [] = some (x, r)) : goP 8 (f + 1) l ns ts = goP 8 f r ns (ts ++ [x]) := by
  unfold elemK at h
  rw [if_pos rfl] at h
  unfold goP
  rw [if_pos rfl, if_pos rfl]
  simp [Cel.textsP, hl, h]
theorem goP_bad {k : Int} {f : Nat} {l x r : Cel.L} {ns : List Int} {ts : List Cel.L} (hk : k ≠ 8) (hl : l ≠ []) (h : elemK k l [] = some (x, r)) (hn : (Cel.numP (k - 4) x).2 ≠ 0) : (goP k (f + 1) l ns ts).2 = (Cel.numP (k - 4) x).2 := by
  unfold elemK at h
  rw [if_neg hk] at h
  unfold goP
  rw [if_neg hk]
  simp [Cel.numsP, hl, h, hn]
theorem goP_num {k : Int} {f : Nat} {l x r : Cel.L} {ns : List Int} {ts : List Cel.L} (hk : k ≠ 8) (hl : l ≠ []) (h : elemK k l [] = some (x, r)) (hn : (Cel.numP (k - 4) x).2 = 0) : goP k (f + 1) l ns ts = goP k f r (ns ++ [(Cel.numP (k - 4) x).1]) ts := by
  unfold elemK at h
  rw [if_neg hk] at h
  unfold goP
  rw [if_neg hk, if_neg hk]
  simp [Cel.numsP, hl, h, hn]
theorem elemK_nil (k : Int) (b : Cel.L) : elemK k [] b = none := by
  unfold elemK
  split <;> rfl
theorem elemK_end (k : Int) (l b : Cel.L) : elemK k (59 :: l) b = some (b, l) := by
  unfold elemK
  split
  · exact Cel.elem_end l b
  · simp [Cel.cut59]
theorem elemK_cons {k : Int} {c : UInt8} {l b : Cel.L} (h1 : c ≠ 59) (h2 : k = 8 → c ≠ 92) : elemK k (c :: l) b = elemK k l (b ++ [c]) := by
  unfold elemK
  split
  · rename_i h8
    exact Cel.elem_cons h1 (h2 h8)
  · rw [Cel.cut59, if_neg h1]
theorem elemK_esc {d : UInt8} {l b : Cel.L} (h : d = 92 ∨ d = 59) : elemK 8 (92 :: d :: l) b = elemK 8 l (b ++ [d]) := Cel.elem_esc h
theorem elemK_stop {d : UInt8} {l b : Cel.L} (h1 : d ≠ 92) (h2 : d ≠ 59) : elemK 8 (92 :: d :: l) b = none := elem_stop h1 h2
theorem elemK_len {k : Int} {l x r : Cel.L} (h : elemK k l [] = some (x, r)) : x.length + r.length < l.length := by
  unfold elemK at h
  split at h
  · obtain ⟨t, e1, e2⟩ := Cel.elem_some _ l [] x r (Nat.le_refl _) h
    rw [e1, e2]
    have : t.length ≤ (Cel.escT t).length := by
      clear e1 e2 h
      induction t with
      | nil => simp
      | cons c t ih =>
        unfold Cel.escT
        split
        · simp only [List.length_cons]; omega
        · simp only [List.length_cons]; omega
    simp only [List.nil_append, List.length_append, List.length_cons]
    omega
  · obtain ⟨t, e1, e2⟩ := Cel.cut59_some l [] x r h
    rw [e1, e2]
    simp only [List.nil_append, List.length_append, List.length_cons]
    omega
/-- a kind's head is ahead of the text, or not -/
theorem head_test {s : Cel.L} {k : Int} (h1 : 1 ≤ k) (h8 : k ≤ 8) : Lib.hasPrefix s (Cel.letter k ++ [58]) = true ↔ ∃ r, Cel.headP s = some (k, r) := by
  rw [Cel.hasPrefix_iff]
  constructor
  · rintro ⟨r, rfl⟩
    exact ⟨r, Cel.headP_of h1 h8 r⟩
  · rintro ⟨r, h⟩
    exact ⟨r, (Cel.headP_some h).1⟩
theorem prefix_beq {s H : ByteArray} (hl : H.size ≤ s.size) : ((s.extract 0 H.size).toList == H.toList) = Lib.hasPrefix s.data.toList H.data.toList := by
  rw [Bool.eq_iff_iff, Cel.hasPrefix_iff, Lib.toList_data, Lib.toList_data, Lib.extract_data, beq_iff_eq, List.drop_zero, Lib.size_eq H]
  constructor
  · intro h
    have h' : s.data.toList.take H.data.toList.length = H.data.toList := by simpa using h
    exact ⟨s.data.toList.drop H.data.toList.length, (List.take_append_drop H.data.toList.length s.data.toList).symm.trans (by rw [h'])⟩
  · rintro ⟨r, h⟩
    rw [h]
    simp
theorem prefix_short {s H : ByteArray} (hl : s.size < H.size) : Lib.hasPrefix s.data.toList H.data.toList = false := by
  rw [Bool.eq_false_iff]
  intro h
  obtain ⟨r, hr⟩ := (Cel.hasPrefix_iff _ _).1 h
  have := congrArg List.length hr
  rw [List.length_append, ← Lib.size_eq, ← Lib.size_eq] at this
  omega
theorem letter_len (k : Int) : (Cel.letter k).length ≤ 3 := by unfold Cel.letter; split <;> simp
/-- what the head loop has found ahead of kind k -/
def HeadAt (hd : Option (Int × Cel.L)) (n : Nat) (k : Int) (x y : Value) : Prop :=
  match hd with
  | none => x = .int .i64 0 ∧ y = .int .i64 0
  | some (kd, _) => x = .int .i64 (if kd < k then kd else 0) ∧ y = .int .i64 (if kd < k then ((n : Nat) : Int) else 0)

set_option maxHeartbeats 16000000 in
set_option maxRecDepth 100000 in
theorem refParse_any (s : ByteArray) (w : World) (hs : s.size ≤ 1073741823) :
    Calls Tryz.prog 20 #[.string s] w (ParRes (Cel.parse s.data.toList) w) := by
  obtain ⟨R, hR⟩ : ∃ R, Cel.parse s.data.toList = R := ⟨_, rfl⟩
  rw [hR]
  unfold Cel.parse at hR
  obtain ⟨W1, hW1⟩ : ∃ W1, w.alloc (.cells #[.int .i64 0, .int .i64 0, .string ⟨#[]⟩, .slice none 0 0, .slice none 0 0] 36) = W1 := ⟨_, rfl⟩
  have hb1 : Below w.heap.size w W1 := by rw [← hW1]; exact (Below.refl _ w).alloc (Nat.le_refl _) _
  have hz1 : W1.heap.size = w.heap.size + 1 := by rw [← hW1]; simp
  have k1 : Blk W1 w.heap.size 36 #[.int .i64 0, .int .i64 0, .string ⟨#[]⟩, .slice none 0 0, .slice none 0 0] := by rw [← hW1]; exact Blk.new _ _ _
  obtain ⟨W2, hW2⟩ : ∃ W2, W1.alloc (.cells #[.int .i64 0, .int .i64 0, .string ⟨#[]⟩, .slice none 0 0, .slice none 0 0] 36) = W2 := ⟨_, rfl⟩
  have hb2 : Below W1.heap.size W1 W2 := by rw [← hW2]; exact (Below.refl _ W1).alloc (Nat.le_refl _) _
  have hz2 : W2.heap.size = W1.heap.size + 1 := by rw [← hW2]; simp
  have k2 : Blk W2 W1.heap.size 36 #[.int .i64 0, .int .i64 0, .string ⟨#[]⟩, .slice none 0 0, .slice none 0 0] := by rw [← hW2]; exact Blk.new _ _ _
  have HW1 := Lib.hid hW1
  have HW2 := Lib.hid hW2
  have HB2 := Lib.hid (hb1.trans (hb2.mono (by omega)))
  have HK2 := Lib.hid (k1.below hb2 (by omega))
  have HN2 := Lib.hid k2
  have hw2 : w.heap.size + 2 = W2.heap.size := by omega
  have hw1 : w.heap.size + 1 = W1.heap.size := by omega
  have HWS := Lib.hid (⟨hw1, hw2⟩ : _ ∧ _)
  clear hW1 hW2 hb1 hb2 hz1 hz2 k1 k2 hw1 hw2
  have hu := undef_no
  have hfail : ∀ (W : World) (x : Array Value) (tmps : Array Value) (er : Nat), R = (Cel.V0, er) → Below w.heap.size w W → Blk W w.heap.size 36 #[.int .i64 0, .int .i64 0, .string ⟨#[]⟩, .slice none 0 0, .slice none 0 0] → tmps.getD 2 undef = .pointer (some ⟨w.heap.size, 0, none⟩) → tmps.getD 3 undef = .int .i64 er →
      bodyPost Tryz.prog Tryz.f20 (ParRes R w) .ret { tmps := tmps, defers := [] } (((((W.setCell ⟨w.heap.size, 0, none⟩ (.int .i64 0)).setCell ⟨w.heap.size, 1, none⟩ (.int .i64 0)).setCell ⟨w.heap.size, 2, none⟩ (.string ⟨#[]⟩)).setCell ⟨w.heap.size, 3, none⟩ (.slice none 0 0)).setCell ⟨w.heap.size, 4, none⟩ (.slice none 0 0)) := by
    intro W x tmps er hr hb hk h2 h3
    refine ret_val2 Tryz.results20 h2 h3 (val_stored hk _ _ _ _ _) ?_
    exact ⟨_, by rw [hr], by rw [hr]; exact vown_zero _ _, hb.grown (val_stored_only W w.heap.size _ _ _ _ _) hb.size (fun j e => by cases e; omega)⟩
  have hok : ∀ (W : World) (tmps : Array Value) (v : Cel.V) (s t : Value), R = (v, 0) → Below w.heap.size w W → Blk W w.heap.size 36 #[.int .i64 0, .int .i64 0, .string ⟨#[]⟩, .slice none 0 0, .slice none 0 0] → VOwn W w.heap.size (.agg #[.int .i64 v.kind, .int .i64 v.num, .string ⟨v.text.toArray⟩, s, t]) v → tmps.getD 2 undef = .pointer (some ⟨w.heap.size, 0, none⟩) → tmps.getD 3 undef = .int .i64 0 →
      bodyPost Tryz.prog Tryz.f20 (ParRes R w) .ret { tmps := tmps, defers := [] } (((((W.setCell ⟨w.heap.size, 0, none⟩ (.int .i64 v.kind)).setCell ⟨w.heap.size, 1, none⟩ (.int .i64 v.num)).setCell ⟨w.heap.size, 2, none⟩ (.string ⟨v.text.toArray⟩)).setCell ⟨w.heap.size, 3, none⟩ s).setCell ⟨w.heap.size, 4, none⟩ t) := by
    intro W tmps v s t hr hb hk hv h2 h3
    obtain ⟨s', t', e, o1, o2⟩ := hv.ex
    have es : s = s' := by injection e with e; simp at e; exact e.1
    have et : t = t' := by injection e with e; simp at e; exact e.2
    subst es et
    have hon := val_stored_only W w.heap.size (.int .i64 v.kind) (.int .i64 v.num) (.string ⟨v.text.toArray⟩) s t
    have nt : ∀ {e : TypeId}, e ≠ 36 → ∀ g c t fz, some w.heap.size = some g → W.heap[g]? = some (.cells c t fz) → t ≠ e := fun he g c t fz e hc => by
      cases e
      unfold Blk at hk
      rw [hk] at hc
      cases hc
      exact Ne.symm he
    refine ret_val2 Tryz.results20 h2 h3 (val_stored hk _ _ _ _ _) ?_
    exact ⟨_, by rw [hr]; rfl, by rw [hr]; exact ⟨_, _, rfl, own_kept_ty o1 hon (nt (by decide)), own_kept_ty o2 hon (nt (by decide))⟩, hb.grown hon hb.size (fun j e => by cases e; omega)⟩
  have HOK := Lib.hid hok
  clear hok
  have HFAIL := Lib.hid hfail
  clear hfail
  obtain ⟨hd, hhd⟩ : ∃ h, Cel.headP s.data.toList = h := ⟨_, rfl⟩
  rw [hhd] at hR
  have htest := fun (k : Int) (h1 : 1 ≤ k) (h8 : k ≤ 8) => head_test (s := s.data.toList) h1 h8
  rw [hhd] at htest
  have hsome := fun (k : Int) (r : Cel.L) (h : hd = some (k, r)) => Cel.headP_some (hhd.trans h)
  obtain ⟨n, hn⟩ : ∃ n : Nat, ∀ k r, hd = some (k, r) → n = (Cel.letter k ++ [58]).length := by
    cases hd with
    | none => exact ⟨0, fun k r h => by cases h⟩
    | some kr => exact ⟨(Cel.letter kr.1 ++ [58]).length, fun k r h => by cases h; rfl⟩
  have HTEST := Lib.hid htest
  have HSOME := Lib.hid hsome
  have HN := Lib.hid hn
  have HR := Lib.hid hR
  clear htest hsome hn hR hhd
  have hsi : (s.size : Int) ≤ 1073741823 := by omega
  go_enter Tryz.func20, Tryz.ntmps20
  go_upto_region 1 with fail
  rw [HW1.out]
  clear HW1
  go_upto_region 2 with fail
  rw [HW2.out]
  clear HW2
  go_wp2_with fail
  go_loopg [5, 6, 7] 8 (fun g x y z wx => ∃ k : Nat, 1 ≤ k ∧ k + g = 9 ∧ z = .int .i64 k ∧ HeadAt hd n k x y ∧ W2 = wx)
  case atStart =>
    refine ⟨1, by omega, by omega, rfl, ?_, rfl⟩
    unfold HeadAt
    cases hd with
    | none => exact ⟨rfl, rfl⟩
    | some kr =>
      obtain ⟨kd, r⟩ := kr
      have := (HSOME.out kd r rfl).2.1
      have hn : ¬ kd < ((1 : Nat) : Int) := by omega
      show (Value.int .i64 0 = .int .i64 (if kd < ((1 : Nat) : Int) then kd else 0)) ∧ (Value.int .i64 0 = .int .i64 (if kd < ((1 : Nat) : Int) then ((n : Nat) : Int) else 0))
      rw [if_neg hn, if_neg hn]
      exact ⟨rfl, rfl⟩
  case round =>
    obtain ⟨k, hk1, hk, rfl, hat, rfl⟩ := hrel
    cases gk with
    | succ g =>
      have hlt : k < 9 := by omega
      have hlti : (k : Int) < 9 := by omega
      have hlo : (1 : Int) ≤ k := by omega
      have hhi : (k : Int) ≤ 8 := by omega
      have HL := Lib.hid (refLetter_any k W2 hlo hhi)
      have htk := HTEST.out k hlo hhi
      obtain ⟨L, hL⟩ : ∃ L : ByteArray, (⟨(Cel.letter k).toArray⟩ : ByteArray) = L := ⟨_, rfl⟩
      have hLd : L.data.toList = Cel.letter k := by rw [← hL]
      have hLs : L.size ≤ 3 := by rw [Lib.size_eq, hLd]; exact letter_len _
      obtain ⟨H, hH⟩ : ∃ H : ByteArray, L ++ ⟨#[58]⟩ = H := ⟨_, rfl⟩
      have hHd : H.data.toList = Cel.letter k ++ [58] := by rw [← hH, ByteArray.data_append, Array.toList_append, hLd]
      have hHs : H.size ≤ 4 := by rw [← hH, ByteArray.size_append]; show L.size + 1 ≤ 4; omega
      have hnk : ∀ r, hd = some ((k : Int), r) → n = H.size := fun r h => by rw [HN.out k r h, Lib.size_eq, hHd]
      rw [hL] at HL
      rw [← hHd] at htk
      have hshort := fun h => prefix_short (s := s) (H := H) h
      have hbeq := fun h => prefix_beq (s := s) (H := H) h
      have HAT := Lib.hid hat
      have HKG := Lib.hid hk
      have hif : ∀ (kd : Int) (a : Int), kd ≠ k → (if kd < ((k + 1 : Nat) : Int) then a else 0) = if kd < (k : Int) then a else 0 := fun kd a h => by
        by_cases h2 : kd < (k : Int)
        · rw [if_pos h2, if_pos (by omega)]
        · rw [if_neg h2, if_neg (by omega)]
      have hno : (¬ ∃ r, hd = some ((k : Int), r)) → ∀ x y, HeadAt hd n k x y → HeadAt hd n (k + 1 : Nat) x y := fun h x y ha => by
        unfold HeadAt at ha ⊢
        cases hd with
        | none => exact ha
        | some kr =>
          obtain ⟨kd, r⟩ := kr
          have hne : kd ≠ k := fun e => h ⟨r, by rw [e]⟩
          simp only at ha ⊢
          rw [hif kd _ hne, hif kd _ hne]
          exact ha
      by_cases hsz : H.size ≤ s.size
      · have t1 : decide (H.size ≤ s.size) = true := decide_eq_true hsz
        have hb := hbeq hsz
        obtain ⟨z, hz⟩ : ∃ z, s.extract 0 H.size = z := ⟨_, rfl⟩
        rw [hz] at hb
        by_cases hp : ∃ r, hd = some ((k : Int), r)
        · rw [htk.2 hp] at hb
          have hat2 : HeadAt hd n (k + 1 : Nat) (.int .i64 (k : Int)) (.int .i64 (H.size : Int)) := by
            obtain ⟨r, e⟩ := hp
            unfold HeadAt
            rw [e]
            simp only
            rw [if_pos (by omega), if_pos (by omega), hnk r e]
            exact ⟨rfl, rfl⟩
          have HA2 := Lib.hid hat2
          have hszi : (H.size : Int) ≤ s.size := by omega
          clear hat2 hat hk htk hnk hshort hbeq hif hno hp hHd hL hLd
          go_wp2_with fail
          refine HL.out.mono ?_
          rintro e w' ⟨rfl, rfl⟩
          go_wp2
          go_roundg g
          case measure => omega
          case rel => exact ⟨k + 1, by omega, by have := HKG.out; omega, int_eq' (by omega), HA2.out, rfl⟩
        · have hpf : Lib.hasPrefix s.data.toList H.data.toList = false := by
            rw [Bool.eq_false_iff]
            intro h
            exact hp (htk.1 h)
          rw [hpf] at hb
          have HA2 := Lib.hid (hno hp _ _ hat)
          have hszi : (H.size : Int) ≤ s.size := by omega
          clear hat hk htk hnk hshort hbeq hif hno hp hHd hpf hL hLd
          go_wp2_with fail
          refine HL.out.mono ?_
          rintro e w' ⟨rfl, rfl⟩
          go_wp2
          go_roundg g
          case measure => omega
          case rel => exact ⟨k + 1, by omega, by have := HKG.out; omega, int_eq' (by omega), HA2.out, rfl⟩
      · have t1 : decide (H.size ≤ s.size) = false := decide_eq_false hsz
        have hp : ¬ ∃ r, hd = some ((k : Int), r) := fun h => by
          have := htk.2 h
          rw [hshort (by omega)] at this
          cases this
        have HA2 := Lib.hid (hno hp _ _ hat)
        have hszi : (s.size : Int) < H.size := by omega
        clear hat hk htk hnk hshort hbeq hif hno hp hHd hsz hL hLd
        go_wp2_with fail
        refine HL.out.mono ?_
        rintro e w' ⟨rfl, rfl⟩
        go_wp2
        go_roundg g
        case measure => omega
        case rel => exact ⟨k + 1, by omega, by have := HKG.out; omega, int_eq' (by omega), HA2.out, rfl⟩
    | zero =>
      obtain rfl : k = 9 := by omega
      clear hk hk1
      cases hd with
      | none =>
        obtain ⟨rfl, rfl⟩ := hat
        have hr : R = (Cel.V0, 220) := HR.out.symm
        have HRR := Lib.hid hr
        obtain ⟨a0, a1, a2, a3, a4, f0, f1, f2, f3, f4⟩ := val_cells HK2.out
        obtain ⟨b0, b1, b2, b3, b4, -⟩ := val_cells HN2.out
        clear hr
        go_wp2
        exact HFAIL.out _ #[] _ 220 HRR.out HB2.out HK2.out rfl rfl
      | some kr =>
        obtain ⟨kd, r⟩ := kr
        obtain ⟨hse, h1, h8⟩ := HSOME.out kd r rfl
        have hnn := HN.out kd r rfl
        have hat2 : u5 = .int .i64 kd ∧ u6 = .int .i64 (n : Int) := by
          have e9 : kd < ((9 : Nat) : Int) := by omega
          obtain ⟨e1, e2⟩ := hat
          rw [if_pos e9] at e1 e2
          exact ⟨e1, e2⟩
        obtain ⟨rfl, rfl⟩ := hat2
        have hns : n + r.length = s.size := by rw [hnn, Lib.size_eq, hse, ← List.length_append]
        have hrest : (s.extract n s.size).data.toList = r := by rw [extract_drop, hse, hnn, List.drop_left]
        obtain ⟨z, hz⟩ : ∃ z, s.extract n s.size = z := ⟨_, rfl⟩
        rw [hz] at hrest
        have hzs : z.size ≤ 1073741823 := by rw [Lib.size_eq, hrest]; omega
        have hrr0 := HR.out
        simp only at hrr0
        have hbo := bodyP_ok h1 h8 (show r.length ≤ 1073741823 by omega)
        obtain ⟨W3, hW3⟩ : ∃ W, W2.alloc (.cells #[.int .i64 kd, .int .i64 0, .string ⟨#[]⟩, .slice none 0 0, .slice none 0 0] 36) = W := ⟨_, rfl⟩
        have hb3 : Below W2.heap.size W2 W3 := by rw [← hW3]; exact (Below.refl _ W2).alloc (Nat.le_refl _) _
        have hz3 : W3.heap.size = W2.heap.size + 1 := by rw [← hW3]; simp
        have c3 : Blk W3 W2.heap.size 36 #[.int .i64 kd, .int .i64 0, .string ⟨#[]⟩, .slice none 0 0, .slice none 0 0] := by rw [← hW3]; exact Blk.new _ _ _
        have HP3 : Hid (PlRel W2.heap.size W2 kd (.slice none 0 0) (.slice none 0 0) [] [] W3) := ⟨c3, World.ownsRow_nil _ _ _ _, World.ownsRow_nil _ _ _ _, hb3, by omega⟩
        have HR0 := Lib.hid hrr0
        have HBO := Lib.hid hbo
        have HRE := Lib.hid hrest
        have HNS := Lib.hid hns
        have HW3 := Lib.hid hW3
        have HSE := Lib.hid (⟨hse, hnn⟩ : _ ∧ _)
        have hw2 : w.heap.size ≤ W2.heap.size := HB2.out.size
        have hk2 : w.heap.size < W2.heap.size := HK2.out.lt
        have hn2 : W1.heap.size < W2.heap.size := HN2.out.lt
        have hni : n ≤ s.size := by omega
        clear hat hse hnn hns hrest hrr0 hbo hW3 hb3 c3 hz3 HR HTEST HSOME HN HWS
        have t0 : (kd == 0) = false := beq_eq_false_iff_ne.2 (by omega)
        go_upto_region 12 with fail
        rw [HW3.out]
        clear HW3 t0
        have hnI : (n : Int) ≤ s.size := by omega
        by_cases h4 : kd < 4
        · have d3 : decide (kd < 4) = true := decide_eq_true h4
          have d44 : (kd == 4) = false := beq_eq_false_iff_ne.2 (by omega)
          have d4 : decide (4 < kd) = false := decide_eq_false (by omega)
          have hbody : Cel.bodyP kd r = (⟨kd, (Cel.numP kd r).1, [], [], []⟩, (Cel.numP kd r).2) := by
            unfold Cel.bodyP
            rw [if_neg (by omega), if_neg (by omega)]
          have hnum := refNum_any kd z W3 h1 (by omega) (by omega)
          rw [HRE.out] at hnum
          have hrr0 := HR0.out
          have hvk := HBO.out
          rw [hbody] at hrr0 hvk
          obtain ⟨P, hP⟩ : ∃ P, Cel.numP kd r = P := ⟨_, rfl⟩
          rw [hP] at hnum hrr0 hvk
          obtain ⟨m, er⟩ := P
          have HNUM := Lib.hid (show Calls Tryz.prog 37 #[.int .i64 kd, .string z] W3 fun e w' => e = .returned (.tuple #[.int .i64 m, .int .i64 er]) ∧ Below W3.heap.size W3 w' from hnum)
          have HR1 := Lib.hid hrr0
          have HV1 := Lib.hid hvk
          have d4i : kd ≤ 4 := by omega
          clear hbody hnum hrr0 hvk hP h4 HR0 HBO
          go_wp2_with fail
          refine HNUM.out.mono ?_
          rintro e w4 ⟨rfl, hb4⟩
          have hp4 := HP3.out.below hb4
          have HB4 := Lib.hid (HB2.out.trans (hp4.bel.mono hw2))
          have HK4 := Lib.hid (HK2.out.below hp4.bel hk2)
          have HN4 := Lib.hid (HN2.out.below hp4.bel hn2)
          have HC4 := Lib.hid hp4.cpy
          have hbig := hp4.big
          clear hb4 hp4
          by_cases he : er = 0
          · subst he
            have hrr := HR1.out
            rw [if_neg (by simp)] at hrr
            obtain ⟨W5, hW5⟩ : ∃ W, w4.setCell ⟨W2.heap.size, 1, none⟩ (.int .i64 m) = W := ⟨_, rfl⟩
            have hb5 : Below W2.heap.size w4 W5 := by rw [← hW5]; exact (Below.refl _ w4).setCell (p := ⟨W2.heap.size, 1, none⟩) (Nat.le_refl _) _
            have c5 : Blk W5 W2.heap.size 36 #[.int .i64 kd, .int .i64 m, .string ⟨#[]⟩, .slice none 0 0, .slice none 0 0] := by rw [← hW5]; exact Blk.cast (HC4.out.set_ 1 _) (by simp)
            have HBX := Lib.hid (HB4.out.trans (hb5.mono hw2))
            have HKX := Lib.hid (HK4.out.below hb5 hk2)
            have HNX := Lib.hid (HN4.out.below hb5 hn2)
            have HCX := Lib.hid c5
            have HVO : Hid (VOwn W5 w.heap.size (.agg #[.int .i64 kd, .int .i64 m, .string ⟨#[]⟩, .slice none 0 0, .slice none 0 0]) ⟨kd, m, [], [], []⟩) := ⟨_, _, rfl, World.ownsRow_nil _ _ _ _, World.ownsRow_nil _ _ _ _⟩
            have HVK := Lib.hid (HV1.out rfl)
            have HRB := Lib.hid hrr
            have HW5 := Lib.hid hW5
            obtain ⟨b0, b1, b2, b3, b4, g0, g1, g2, g3, g4⟩ := val_cells HC4.out
            clear hrr hW5 hb5 c5
            go_upto_region 17 with fail
            rw [HW5.out]
            clear HW5 b0 b1 b2 b3 b4 g0 g1 g2 g3 g4
            go_wp2_with fail
            go_loopg [6] 0 (fun g x wr => x = .int .i64 (n : Int) ∧ W5 = wr ∧ g = 0)
            case atStart => exact ⟨rfl, rfl, rfl⟩
            case round =>
              obtain ⟨rfl, rfl, hg0⟩ := hrel
              cases gk with
              | succ g => omega
              | zero =>
                have hchk := vCheck_any W5.heap.size _ ⟨kd, m, [], [], []⟩ W5 (HVO.out.vin HVK.out) (Nat.le_refl _)
                have hrr := HRB.out
                obtain ⟨cv, hcv⟩ : ∃ c, Cel.check ⟨kd, m, [], [], []⟩ = c := ⟨_, rfl⟩
                rw [hcv] at hchk hrr
                have HCK := Lib.hid hchk
                obtain ⟨b0, b1, b2, b3, b4, -⟩ := val_cells HCX.out
                clear hchk hcv
                go_wp2_with fail
                refine HCK.out.mono ?_
                rintro e wz ⟨rfl, hbz⟩
                have HBZ := Lib.hid (HBX.out.trans (hbz.mono HBX.out.size))
                have HKZ := Lib.hid (HKX.out.below hbz HKX.out.lt)
                have HNZ := Lib.hid (HNX.out.below hbz HNX.out.lt)
                have HCZ := Lib.hid (HCX.out.below hbz HCX.out.lt)
                have HVZ := Lib.hid (HVO.out.below hbz)
                clear hbz b0 b1 b2 b3 b4
                obtain ⟨a0, a1, a2, a3, a4, f0, f1, f2, f3, f4⟩ := val_cells HKZ.out
                by_cases hc0 : cv = 0
                · subst hc0
                  rw [if_neg (by simp)] at hrr
                  have HRR := Lib.hid hrr.symm
                  obtain ⟨b0, b1, b2, b3, b4, -⟩ := val_cells HCZ.out
                  clear hrr
                  go_wp2
                  exact HOK.out _ _ ⟨kd, m, [], [], []⟩ _ _ HRR.out HBZ.out HKZ.out HVZ.out rfl rfl
                · rw [if_pos hc0] at hrr
                  have HRR := Lib.hid hrr.symm
                  have t9 : ((cv : Int) != 0) = true := by rw [bne_iff_ne]; omega
                  obtain ⟨b0, b1, b2, b3, b4, -⟩ := val_cells HNZ.out
                  clear hrr hc0
                  go_wp2
                  exact HFAIL.out _ #[] _ cv HRR.out HBZ.out HKZ.out rfl rfl
          · have hrr := HR1.out
            rw [if_pos he] at hrr
            have HRR := Lib.hid hrr.symm
            have t9 : ((er : Int) != 0) = true := by rw [bne_iff_ne]; omega
            obtain ⟨a0, a1, a2, a3, a4, f0, f1, f2, f3, f4⟩ := val_cells HK4.out
            obtain ⟨b0, b1, b2, b3, b4, -⟩ := val_cells HN4.out
            clear hrr he
            go_wp2
            exact HFAIL.out _ #[] _ er HRR.out HB4.out HK4.out rfl rfl
        have d3 : decide (kd < 4) = false := decide_eq_false h4
        have h4i : 4 ≤ kd := by omega
        by_cases h44 : kd = 4
        · subst h44
          have hbody : Cel.bodyP 4 r = (⟨4, 0, r, [], []⟩, 0) := by
            unfold Cel.bodyP
            rw [if_neg (by omega), if_pos rfl]
          have hrr := HR0.out
          have hvk := HBO.out
          rw [hbody] at hrr hvk
          simp only at hrr
          rw [if_neg (by simp)] at hrr
          have d4 : decide ((4 : Int) < 4) = false := rfl
          obtain rfl : z = ⟨r.toArray⟩ := by rw [← HRE.out]
          obtain ⟨W5, hW5⟩ : ∃ W, W3.setCell ⟨W2.heap.size, 2, none⟩ (.string ⟨r.toArray⟩) = W := ⟨_, rfl⟩
          have hb5 : Below W2.heap.size W3 W5 := by rw [← hW5]; exact (Below.refl _ W3).setCell (p := ⟨W2.heap.size, 2, none⟩) (Nat.le_refl _) _
          have c5 : Blk W5 W2.heap.size 36 #[.int .i64 4, .int .i64 0, .string ⟨r.toArray⟩, .slice none 0 0, .slice none 0 0] := by rw [← hW5]; exact Blk.cast (HP3.out.cpy.set_ 2 _) (by simp)
          have hb25 := HP3.out.bel.trans hb5
          have HBX := Lib.hid (HB2.out.trans (hb25.mono hw2))
          have HKX := Lib.hid (HK2.out.below hb25 hk2)
          have HNX := Lib.hid (HN2.out.below hb25 hn2)
          have HCX := Lib.hid c5
          have HVO : Hid (VOwn W5 w.heap.size (.agg #[.int .i64 4, .int .i64 0, .string ⟨r.toArray⟩, .slice none 0 0, .slice none 0 0]) ⟨4, 0, r, [], []⟩) := ⟨_, _, rfl, World.ownsRow_nil _ _ _ _, World.ownsRow_nil _ _ _ _⟩
          have HVK := Lib.hid (hvk rfl)
          have HRB := Lib.hid hrr
          have HW5 := Lib.hid hW5
          obtain ⟨b0, b1, b2, b3, b4, g0, g1, g2, g3, g4⟩ := val_cells HP3.out.cpy
          clear hbody hrr hvk hW5 hb5 c5 hb25 HR0 HBO h4
          go_upto_region 19 with fail
          rw [HW5.out]
          clear HW5 b0 b1 b2 b3 b4 g0 g1 g2 g3 g4
          go_wp2_with fail
          go_loopg [6] 0 (fun g x wr => x = .int .i64 (n : Int) ∧ W5 = wr ∧ g = 0)
          case atStart => exact ⟨rfl, rfl, rfl⟩
          case round =>
            obtain ⟨rfl, rfl, hg0⟩ := hrel
            cases gk with
            | succ g => omega
            | zero =>
              have hchk := vCheck_any W5.heap.size _ ⟨4, 0, r, [], []⟩ W5 (HVO.out.vin HVK.out) (Nat.le_refl _)
              have hrr := HRB.out
              obtain ⟨cv, hcv⟩ : ∃ c, Cel.check ⟨4, 0, r, [], []⟩ = c := ⟨_, rfl⟩
              rw [hcv] at hchk hrr
              have HCK := Lib.hid hchk
              obtain ⟨b0, b1, b2, b3, b4, -⟩ := val_cells HCX.out
              clear hchk hcv
              go_wp2_with fail
              refine HCK.out.mono ?_
              rintro e wz ⟨rfl, hbz⟩
              have HBZ := Lib.hid (HBX.out.trans (hbz.mono HBX.out.size))
              have HKZ := Lib.hid (HKX.out.below hbz HKX.out.lt)
              have HNZ := Lib.hid (HNX.out.below hbz HNX.out.lt)
              have HCZ := Lib.hid (HCX.out.below hbz HCX.out.lt)
              have HVZ := Lib.hid (HVO.out.below hbz)
              clear hbz b0 b1 b2 b3 b4
              obtain ⟨a0, a1, a2, a3, a4, f0, f1, f2, f3, f4⟩ := val_cells HKZ.out
              by_cases hc0 : cv = 0
              · subst hc0
                rw [if_neg (by simp)] at hrr
                have HRR := Lib.hid hrr.symm
                obtain ⟨b0, b1, b2, b3, b4, -⟩ := val_cells HCZ.out
                clear hrr
                go_wp2
                exact HOK.out _ _ ⟨4, 0, r, [], []⟩ _ _ HRR.out HBZ.out HKZ.out HVZ.out rfl rfl
              · rw [if_pos hc0] at hrr
                have HRR := Lib.hid hrr.symm
                have t9 : ((cv : Int) != 0) = true := by rw [bne_iff_ne]; omega
                obtain ⟨b0, b1, b2, b3, b4, -⟩ := val_cells HNZ.out
                clear hrr hc0
                go_wp2
                exact HFAIL.out _ #[] _ cv HRR.out HBZ.out HKZ.out rfl rfl
        have d44 : (kd == 4) = false := beq_eq_false_iff_ne.2 h44
        have d4 : decide (4 < kd) = true := decide_eq_true (by omega)
        have h5i : 4 < kd := by omega
        have hrr0 := HR0.out
        have hvk := HBO.out
        have hgo := goP_body (r := r) h5i
        obtain ⟨BP, hBP⟩ : ∃ b, Cel.bodyP kd r = b := ⟨_, rfl⟩
        rw [hBP] at hrr0 hvk hgo
        have hdn : s.data.toList.drop n = r := by rw [HSE.out.1, HSE.out.2, List.drop_left]
        have HGO : Hid (goP kd (r.length + 1) (s.data.toList.drop n) [] [] = BP) := by rw [hdn]; exact hgo.symm
        have HR1 := Lib.hid hrr0
        have HV1 := Lib.hid hvk
        have hsr : s.size - n ≤ r.length := by have := HNS.out; omega
        have HBAD : Hid (∀ e, e ≠ 0 → BP.2 = e → R = (Cel.V0, e)) := fun e he hb => by
          have h := HR1.out
          rw [if_pos (by rw [hb]; exact he), hb] at h
          exact h.symm
        clear hrr0 hvk hgo hBP hdn HR0 HBO h4 h44 HSE HNS HRE hzs
        go_wp2_with fail
        go_loopg [6] r.length (fun g x wr => ∃ (a : Nat) (ns : List Int) (ts : List (List UInt8)) (s' t' : Value), x = .int .i64 (a : Int) ∧ a ≤ s.size ∧ s.size - a ≤ g ∧ goP kd (g + 1) (s.data.toList.drop a) ns ts = BP ∧ ns.length + ts.length ≤ a ∧ PlRel W2.heap.size W2 kd s' t' ns ts wr)
        case atStart => exact ⟨n, [], [], _, _, rfl, hni, hsr, HGO.out, by simp, HP3.out⟩
        case round =>
          clear HGO HP3 hni hnI hsr
          obtain ⟨a, ns, ts, s', t', rfl, hal, hag, hgo, hnt, hpl⟩ := hrel
          obtain ⟨As, cs, rfl⟩ := own_form hpl.own
          obtain ⟨At, ct, rfl⟩ := own_form hpl.owt
          have HQ := Lib.hid hpl
          have hbig := hpl.big
          have hali : (a : Int) ≤ s.size := by omega
          clear hpl
          by_cases hend : a = s.size
          · subst hend
            rw [List.drop_of_length_le (by rw [← Lib.size_eq]; exact Nat.le_refl _), goP_nil] at hgo
            subst hgo
            have hrr := HR1.out
            have hvk := HV1.out rfl
            simp only at hrr hvk
            rw [if_neg (by simp)] at hrr
            have HBX := Lib.hid (HB2.out.trans (HQ.out.bel.mono hw2))
            have HKX := Lib.hid (HK2.out.below HQ.out.bel hk2)
            have HNX := Lib.hid (HN2.out.below HQ.out.bel hn2)
            have HCX := Lib.hid HQ.out.cpy
            have HVO : Hid (VOwn wr w.heap.size (.agg #[.int .i64 kd, .int .i64 0, .string ⟨#[]⟩, .slice As ns.length cs, .slice At ts.length ct]) ⟨kd, 0, [], ns, ts⟩) := ⟨_, _, rfl, own_lower HQ.out.own (by omega), own_lower HQ.out.owt (by omega)⟩
            have HVK := Lib.hid hvk
            have HRB := Lib.hid hrr
            clear hrr hvk hag hnt
            have hchk := vCheck_any wr.heap.size _ ⟨kd, 0, [], ns, ts⟩ wr (HVO.out.vin HVK.out) (Nat.le_refl _)
            have hrr := HRB.out
            obtain ⟨cv, hcv⟩ : ∃ c, Cel.check ⟨kd, 0, [], ns, ts⟩ = c := ⟨_, rfl⟩
            rw [hcv] at hchk hrr
            have HCK := Lib.hid hchk
            obtain ⟨b0, b1, b2, b3, b4, -⟩ := val_cells HCX.out
            clear hchk hcv
            go_wp2_with fail
            refine HCK.out.mono ?_
            rintro e wz ⟨rfl, hbz⟩
            have HBZ := Lib.hid (HBX.out.trans (hbz.mono HBX.out.size))
            have HKZ := Lib.hid (HKX.out.below hbz HKX.out.lt)
            have HNZ := Lib.hid (HNX.out.below hbz HNX.out.lt)
            have HCZ := Lib.hid (HCX.out.below hbz HCX.out.lt)
            have HVZ := Lib.hid (HVO.out.below hbz)
            clear hbz b0 b1 b2 b3 b4
            obtain ⟨a0, a1, a2, a3, a4, f0, f1, f2, f3, f4⟩ := val_cells HKZ.out
            by_cases hc0 : cv = 0
            · subst hc0
              rw [if_neg (by simp)] at hrr
              have HRR := Lib.hid hrr.symm
              obtain ⟨b0, b1, b2, b3, b4, -⟩ := val_cells HCZ.out
              clear hrr
              go_wp2
              exact HOK.out _ _ ⟨kd, 0, [], ns, ts⟩ _ _ HRR.out HBZ.out HKZ.out HVZ.out rfl rfl
            · rw [if_pos hc0] at hrr
              have HRR := Lib.hid hrr.symm
              have t9 : ((cv : Int) != 0) = true := by rw [bne_iff_ne]; omega
              obtain ⟨b0, b1, b2, b3, b4, -⟩ := val_cells HNZ.out
              clear hrr hc0
              go_wp2
              exact HFAIL.out _ #[] _ cv HRR.out HBZ.out HKZ.out rfl rfl
          have hlt : a < s.size := by omega
          have hlti : (a : Int) < s.size := by omega
          cases gk with
          | zero => omega
          | succ g =>
            have hl : s.data.toList.drop a ≠ [] := fun e => by
              have := congrArg List.length e
              rw [List.length_drop, ← Lib.size_eq, List.length_nil] at this
              omega
            obtain ⟨ER, hER⟩ : ∃ e, elemK kd (s.data.toList.drop a) [] = e := ⟨_, rfl⟩
            have hnone : ER = none → BP.2 = 220 := fun e => by rw [← hgo]; exact goP_none hl (hER.trans e)
            have HNONE := Lib.hid hnone
            have HGO := Lib.hid hgo
            have HER := Lib.hid hER
            have HL0 := Lib.hid hl
            have hb1 : Below wr.heap.size wr (wr.alloc (.cells #[] 5)) := (Below.refl _ wr).alloc (Nat.le_refl _) _
            have hown0 : OwnB wr.heap.size (.slice (some ⟨wr.heap.size, 0, none⟩) 0 0) [] (wr.alloc (.cells #[] 5)) := by unfold OwnB; exact own_empty wr wr.heap.size _ 0 #[] (Nat.le_refl _) rfl
            have HO0 := Lib.hid hown0
            have HB0 := Lib.hid hb1
            have HAGO := Lib.hid hag
            have HNT := Lib.hid hnt
            obtain ⟨wo, hwo⟩ : ∃ x, wr = x := ⟨_, rfl⟩
            rw [hwo] at HO0 HB0 HQ hbig ⊢
            clear hnone hgo hER hl hb1 hown0 hag hnt hwo hend
            go_wp2_with fail
            go_loopg [6, 12] (s.size - a) (fun g x y wx => ∃ (a' : Nat) (acc : List UInt8), x = .int .i64 (a' : Int) ∧ a ≤ a' ∧ a' ≤ s.size ∧ a' + g = s.size ∧ acc.length ≤ a' ∧ elemK kd (s.data.toList.drop a') acc = ER ∧ OwnB wo.heap.size y acc wx ∧ Below wo.heap.size wo wx)
            case atStart => exact ⟨a, [], rfl, Nat.le_refl _, by omega, by omega, by simp, HER.out, HO0.out, HB0.out⟩
            case round =>
              obtain ⟨a', acc, rfl, haa, hal', hag, hacc, her, hown, hbel⟩ := hrel
              have hpl := HQ.out.below hbel
              have HBX := Lib.hid (HB2.out.trans (hpl.bel.mono hw2))
              have HKX := Lib.hid (HK2.out.below hpl.bel hk2)
              have HNX := Lib.hid (HN2.out.below hpl.bel hn2)
              have HPL := Lib.hid hpl
              have HOW := Lib.hid hown
              have HBE := Lib.hid hbel
              have HAG := Lib.hid hag
              have hwz := hbel.size
              obtain ⟨Ab, cb, rfl⟩ := own_form hown
              have hali' : (a' : Int) ≤ s.size := by omega
              have haccI : acc.length < 1073741824 := by omega
              clear hpl hown hbel
              by_cases hend : a' = s.size
              · subst hend
                rw [List.drop_of_length_le (by rw [← Lib.size_eq]; exact Nat.le_refl _), elemK_nil] at her
                have HRR := Lib.hid (HBAD.out 220 (by decide) (HNONE.out her.symm))
                obtain ⟨a0, a1, a2, a3, a4, f0, f1, f2, f3, f4⟩ := val_cells HKX.out
                obtain ⟨b0, b1, b2, b3, b4, -⟩ := val_cells HNX.out
                clear her hag
                go_wp2
                exact HFAIL.out _ #[] _ 220 HRR.out HBX.out HKX.out rfl rfl
              have hlt' : a' < s.size := by omega
              have hlti' : (a' : Int) < s.size := by omega
              obtain ⟨c, hc⟩ : ∃ c, s[a']'hlt' = c := ⟨_, rfl⟩
              have hdr := drop_at' hlt'
              rw [hc] at hdr
              rw [hdr] at her
              have hcb := byte_le c
              by_cases h59 : c = 59
              · subst h59
                rw [elemK_end] at her
                have hx := HER.out.trans her.symm
                have hlen := elemK_len hx
                rw [List.length_drop, List.length_drop, ← Lib.size_eq] at hlen
                by_cases h8k : kd = 8
                · subst h8k
                  have hgo := HGO.out
                  rw [goP_text HL0.out hx] at hgo
                  have HGN := Lib.hid hgo
                  have hcv := HOW.out.conv
                  obtain ⟨zx, hzx⟩ : ∃ zx : ByteArray, (⟨acc.toArray⟩ : ByteArray) = zx := ⟨_, rfl⟩
                  rw [hzx] at hcv
                  have HZX := Lib.hid hzx
                  have hbg := HPL.out.big
                  have la4 := (HPL.out.cpy.alloc (.cells #[.string zx] 9)).cell 4
                  simp at la4
                  have hnl2 : ts.length < 1073741824 := by have := HNT.out; omega
                  obtain ⟨b0, b1, b2, b3, b4, -⟩ := val_cells HPL.out.cpy
                  have HST := Lib.hid (show s.size - (a' + 1) ≤ g by have := HAGO.out; omega)
                  clear her hag hx hlen hgo hzx hdr hend
                  go_wp2_with (at_builtin; refine wpList_append_one rfl (.tmp 130) (.tmp 133) 34 9 (.string ⟨#[]⟩) 16 Tryz.underlying34 info_str rfl (by decide) rfl (W2.heap.size + 1) (.slice At ts.length ct) ts.length _ wr rfl HPL.out.owt (.string zx) rfl rfl hnl2 hbg ?_)
                  intro v9 w9 hown9 hgr9 hwh9 hb9
                  obtain ⟨A9, c9, rfl⟩ := own_form hown9
                  obtain ⟨d3, df3, hnx⟩ := HPL.out.txt (y := acc) (by unfold ST; rw [HZX.out]; exact hown9) hgr9 hb9
                  have HNX2 := Lib.hid hnx
                  clear hown9 hgr9 hwh9 hb9 hnx la4 b0 b1 b2 b3 b4 hcv
                  go_wp2
                  go_roundg g
                  case measure => omega
                  case rel => exact ⟨a' + 1, ns, ts ++ [acc], _, _, int_eq' (by omega), by omega, HST.out, HGN.out, by rw [List.length_append, List.length_singleton]; have := HNT.out; omega, HNX2.out⟩
                · have t8 : (kd == 8) = false := beq_eq_false_iff_ne.2 h8k
                  have hcv := HOW.out.conv
                  obtain ⟨zx, hzx⟩ : ∃ zx : ByteArray, (⟨acc.toArray⟩ : ByteArray) = zx := ⟨_, rfl⟩
                  have hzxd : zx.data.toList = acc := by rw [← hzx]
                  have hzxs : zx.size ≤ 1073741823 := by rw [Lib.size_eq, hzxd]; omega
                  rw [hzx] at hcv
                  have hnum := refNum_any (kd - 4) zx wr (by omega) (by omega) (by omega)
                  rw [hzxd] at hnum
                  have hgood := fun h => goP_num (f := g + 1) (ns := ns) (ts := ts) h8k HL0.out hx h
                  have hbad := fun h => goP_bad (f := g + 1) (ns := ns) (ts := ts) h8k HL0.out hx h
                  obtain ⟨P, hP⟩ : ∃ P, Cel.numP (kd - 4) acc = P := ⟨_, rfl⟩
                  rw [hP] at hnum hgood hbad
                  obtain ⟨m, er⟩ := P
                  have HNUM := Lib.hid (show Calls Tryz.prog 37 #[.int .i64 (kd - 4), .string zx] wr fun e w' => e = .returned (.tuple #[.int .i64 m, .int .i64 er]) ∧ Below wr.heap.size wr w' from hnum)
                  have HGOOD := Lib.hid hgood
                  have HBADN := Lib.hid hbad
                  have hnl2 : ns.length < 1073741824 := by have := HNT.out; omega
                  have HST := Lib.hid (show s.size - (a' + 1) ≤ g by have := HAGO.out; omega)
                  have h7i : kd ≤ 7 := by omega
                  clear her hag hx hlen hzx hzxd hnum hgood hbad hP hdr hend
                  go_wp2_with fail
                  refine HNUM.out.mono ?_
                  rintro e w8 ⟨rfl, hb8⟩
                  have HP8 := Lib.hid (HPL.out.below hb8)
                  clear hb8 hcv
                  by_cases he : er = 0
                  · subst he
                    have hgo := HGO.out
                    rw [HGOOD.out rfl] at hgo
                    have HGN := Lib.hid hgo
                    have hbg := HP8.out.big
                    have la3 := (HP8.out.cpy.alloc (.cells #[.int .i64 m] 2)).cell 3
                    simp at la3
                    obtain ⟨b0, b1, b2, b3, b4, -⟩ := val_cells HP8.out.cpy
                    clear hgo
                    go_wp2_with (at_builtin; refine wpList_append_one rfl (.tmp 149) (.tmp 151) 33 2 (.int .i64 0) 8 Tryz.underlying33 info_int64 rfl (by decide) rfl (W2.heap.size + 1) (.slice As ns.length cs) ns.length _ w8 rfl HP8.out.own (.int .i64 m) rfl rfl hnl2 hbg ?_)
                    intro v9 w9 hown9 hgr9 hwh9 hb9
                    obtain ⟨A9, c9, rfl⟩ := own_form hown9
                    obtain ⟨d3, df3, hnx⟩ := HP8.out.num hown9 hgr9 hb9
                    have HNX2 := Lib.hid hnx
                    clear hown9 hgr9 hwh9 hb9 hnx la3 b0 b1 b2 b3 b4
                    go_wp2
                    go_roundg g
                    case measure => omega
                    case rel => exact ⟨a' + 1, ns ++ [m], ts, _, _, int_eq' (by omega), by omega, HST.out, HGN.out, by rw [List.length_append, List.length_singleton]; have := HNT.out; omega, HNX2.out⟩
                  · have HRR := Lib.hid (HBAD.out er he (by rw [← HGO.out]; exact HBADN.out he))
                    have t9 : ((er : Int) != 0) = true := by rw [bne_iff_ne]; omega
                    have HB8 := Lib.hid (HB2.out.trans (HP8.out.bel.mono hw2))
                    have HK8 := Lib.hid (HK2.out.below HP8.out.bel hk2)
                    obtain ⟨a0, a1, a2, a3, a4, f0, f1, f2, f3, f4⟩ := val_cells HK8.out
                    obtain ⟨b0, b1, b2, b3, b4, -⟩ := val_cells (HN2.out.below HP8.out.bel hn2)
                    clear he
                    go_wp2
                    exact HFAIL.out _ #[] _ er HRR.out HB8.out HK8.out rfl rfl
              have t59 : (((c.toNat : Nat) : Int) == 59) = false := bq (k := 59) rfl (beq_eq_false_iff_ne.2 h59)
              have t59n : (((c.toNat : Nat) : Int) != 59) = true := by rw [bne, t59]; rfl
              cases gk with
              | zero => omega
              | succ g2 =>
              by_cases hq : kd = 8 ∧ c = 92
              · obtain ⟨rfl, rfl⟩ := hq
                by_cases hend1 : a' + 1 = s.size
                · rw [List.drop_of_length_le (by rw [← Lib.size_eq]; omega)] at her
                  have he2 : elemK 8 [92] acc = none := by unfold elemK; rw [if_pos rfl]; rfl
                  rw [he2] at her
                  have HRR := Lib.hid (HBAD.out 220 (by decide) (HNONE.out her.symm))
                  have t1 : ((a' : Int) + 1 == s.size) = true := by rw [beq_iff_eq]; omega
                  obtain ⟨a0, a1, a2, a3, a4, f0, f1, f2, f3, f4⟩ := val_cells HKX.out
                  obtain ⟨b0, b1, b2, b3, b4, -⟩ := val_cells HNX.out
                  clear her hag he2 hdr hend
                  go_wp2
                  exact HFAIL.out _ #[] _ 220 HRR.out HBX.out HKX.out rfl rfl
                · have hlt1 : a' + 1 < s.size := by omega
                  have hlti1 : (a' : Int) + 1 < s.size := by omega
                  have t1 : ((a' : Int) + 1 == s.size) = false := by rw [beq_eq_false_iff_ne]; omega
                  obtain ⟨d, hd⟩ : ∃ d, s[a' + 1]'hlt1 = d := ⟨_, rfl⟩
                  have hdr2 := drop_at' hlt1
                  rw [hd] at hdr2
                  rw [hdr2] at her
                  have hdb := byte_le d
                  by_cases he : d = 92 ∨ d = 59
                  · rw [elemK_esc he] at her
                    have HN2x := Lib.hid her
                    have hsz := HBE.out.size
                    clear her hdr hdr2 hag hend hend1
                    rcases he with rfl | rfl
                    · go_wp2_with (at_builtin; refine wpList_append_bytes rfl (.tmp 112) (.tmp 116) rfl wo.heap.size (.slice Ab acc.length cb) acc wr rfl HOW.out [92] [.int .u8 92] rfl 1 rfl rfl haccI (by decide) hwz ?_)
                      intro v9 w9 ho9 hg9 hb9
                      have HO9 := Lib.hid ho9
                      have HB9 := Lib.hid (HBE.out.trans hb9)
                      clear ho9 hg9 hb9
                      go_wp2
                      go_roundg (g2 - 1)
                      case measure => omega
                      case rel => exact ⟨a' + 2, _, int_eq' (by omega), by omega, by omega, by have := HAG.out; omega, by rw [List.length_append, List.length_singleton]; omega, HN2x.out, HO9.out, HB9.out⟩
                    · go_wp2_with (at_builtin; refine wpList_append_bytes rfl (.tmp 112) (.tmp 116) rfl wo.heap.size (.slice Ab acc.length cb) acc wr rfl HOW.out [59] [.int .u8 59] rfl 1 rfl rfl haccI (by decide) hwz ?_)
                      intro v9 w9 ho9 hg9 hb9
                      have HO9 := Lib.hid ho9
                      have HB9 := Lib.hid (HBE.out.trans hb9)
                      clear ho9 hg9 hb9
                      go_wp2
                      go_roundg (g2 - 1)
                      case measure => omega
                      case rel => exact ⟨a' + 2, _, int_eq' (by omega), by omega, by omega, by have := HAG.out; omega, by rw [List.length_append, List.length_singleton]; omega, HN2x.out, HO9.out, HB9.out⟩
                  · simp only [not_or] at he
                    rw [elemK_stop he.1 he.2] at her
                    have HRR := Lib.hid (HBAD.out 220 (by decide) (HNONE.out her.symm))
                    have t3 : (((d.toNat : Nat) : Int) != 92) = true := by rw [bne, bq (k := 92) (n := 92) rfl (beq_eq_false_iff_ne.2 he.1)]; rfl
                    have t4 : (((d.toNat : Nat) : Int) != 59) = true := by rw [bne, bq (k := 59) (n := 59) rfl (beq_eq_false_iff_ne.2 he.2)]; rfl
                    obtain ⟨a0, a1, a2, a3, a4, f0, f1, f2, f3, f4⟩ := val_cells HKX.out
                    obtain ⟨b0, b1, b2, b3, b4, -⟩ := val_cells HNX.out
                    clear her hag hdr hdr2 hend hend1 he
                    go_wp2
                    exact HFAIL.out _ #[] _ 220 HRR.out HBX.out HKX.out rfl rfl
              · rw [elemK_cons h59 (fun h8k h92 => hq ⟨h8k, h92⟩)] at her
                have HN2x := Lib.hid her
                have hsz := HBE.out.size
                by_cases h8k : kd = 8
                · subst h8k
                  have h92 : c ≠ 92 := fun h => hq ⟨rfl, h⟩
                  have t92 : (((c.toNat : Nat) : Int) == 92) = false := bq (k := 92) rfl (beq_eq_false_iff_ne.2 h92)
                  clear her hdr hag hend hq h92
                  go_wp2_with (at_builtin; refine wpList_append_bytes rfl (.tmp 112) (.tmp 116) rfl wo.heap.size (.slice Ab acc.length cb) acc wr rfl HOW.out [c] [.int .u8 (c.toNat : Int)] (byteCells_one _).symm 1 rfl rfl haccI (by decide) hwz ?_)
                  intro v9 w9 ho9 hg9 hb9
                  have HO9 := Lib.hid ho9
                  have HB9 := Lib.hid (HBE.out.trans hb9)
                  clear ho9 hg9 hb9
                  go_wp2
                  go_roundg (g2)
                  case measure => omega
                  case rel => exact ⟨a' + 1, _, int_eq' (by omega), by omega, by omega, by have := HAG.out; omega, by rw [List.length_append, List.length_singleton]; omega, HN2x.out, HO9.out, HB9.out⟩
                · have t8 : (kd == 8) = false := beq_eq_false_iff_ne.2 h8k
                  clear her hdr hag hend hq
                  go_wp2_with (at_builtin; refine wpList_append_bytes rfl (.tmp 112) (.tmp 116) rfl wo.heap.size (.slice Ab acc.length cb) acc wr rfl HOW.out [c] [.int .u8 (c.toNat : Int)] (byteCells_one _).symm 1 rfl rfl haccI (by decide) hwz ?_)
                  intro v9 w9 ho9 hg9 hb9
                  have HO9 := Lib.hid ho9
                  have HB9 := Lib.hid (HBE.out.trans hb9)
                  clear ho9 hg9 hb9
                  go_wp2
                  go_roundg (g2)
                  case measure => omega
                  case rel => exact ⟨a' + 1, _, int_eq' (by omega), by omega, by omega, by have := HAG.out; omega, by rw [List.length_append, List.length_singleton]; omega, HN2x.out, HO9.out, HB9.out⟩
end Go.Proofs.YthnaiiejjdmnaaaGreatDoor
