/- Layer 21 (csv): the program's reading of a text, function by function. -/
import Derived.Test.YtjkbaihcdjbjiaaDoorAny
import Derived.Test.YtjkbaihcdjbjiaaDoorBuilder
import Derived.Test.YtjkbaihcdjbjiaaDoorCsvPlain
namespace Go.Proofs.YtjkbaihcdjbjiaaDoor
open Go.RowKit

set_option maxHeartbeats 4000000 in
theorem peek_yes (b : Nat) (s : ByteArray) (a : Int) (at_ : Nat) (w : World) (hb : Blk w b 57 #[.string s, .int .i64 a]) (ha : a = at_) (h : at_ < s.size) (hs : s.size ≤ 1073741824) :
    Calls Tryd.prog 30 #[.pointer (some ⟨b, 0, none⟩)] w fun e w' => e = .returned (.tuple #[.int .u8 (s[at_]'h).toNat, .bool true]) ∧ ∃ n, w.drewN n = w' := by
  subst ha
  have h0 := hb.cell 0
  have h1 := hb.cell 1
  simp at h0 h1
  have HB := Lib.hid hb
  clear hb
  have hd : decide ((s.size : Int) ≤ at_) = false := by simp; omega
  have hi : ((at_ : Int)) < s.size := by omega
  go_enter Tryd.func30, Tryd.ntmps30
  go_wp2
  go_quiet (fail)
  go_wp2
  go_quiet (fail)
  go_wp2
  go_ret2
  exact ⟨rfl, _, (World.drewN_drewN _ _ _).symm⟩

set_option maxHeartbeats 4000000 in
theorem peek_no (b : Nat) (s : ByteArray) (a : Int) (at_ : Nat) (w : World) (hb : Blk w b 57 #[.string s, .int .i64 a]) (ha : a = at_) (h : s.size ≤ at_) :
    Calls Tryd.prog 30 #[.pointer (some ⟨b, 0, none⟩)] w fun e w' => e = .returned (.tuple #[.int .u8 0, .bool false]) ∧ ∃ n, w.drewN n = w' := by
  subst ha
  have h0 := hb.cell 0
  have h1 := hb.cell 1
  simp at h0 h1
  have HB := Lib.hid hb
  clear hb
  have hd : decide ((s.size : Int) ≤ at_) = true := by simp; omega
  go_enter Tryd.func30, Tryd.ntmps30
  go_wp2
  go_quiet (fail)
  go_wp2
  go_ret2
  exact ⟨rfl, _, rfl⟩

/-- how a field's reading ends: the text's rest behind the place that the scan holds -/
def FieldRes (s : ByteArray) (b : Nat) (w : World) (res : Option (Csv.F × Csv.F)) (e : Ending) (w' : World) : Prop :=
  w.grownBy w' (some b) ∧
  match res with
  | none => e = .returned (.tuple #[.string ⟨#[]⟩, .int .i64 210])
  | some (f, r) => e = .returned (.tuple #[.string ⟨f.toArray⟩, .int .i64 0]) ∧ ∃ at' : Nat, at' ≤ s.size ∧ s.data.toList.drop at' = r ∧ Blk w' b 57 #[.string s, .int .i64 at']

theorem fieldRes_some {s : ByteArray} {b : Nat} {w w' : World} {f r : List UInt8} {v x : Value} (at' : Nat) (hg : w.grownBy w' (some b)) (hv : v = .string ⟨f.toArray⟩) (hat : at' ≤ s.size) (hd : s.data.toList.drop at' = r)
    (hx : x = .int .i64 at') (hb : Blk w' b 57 #[.string s, x]) : FieldRes s b w (some (f, r)) (.returned (.tuple #[v, .int .i64 0])) w' := by
  subst hv hx
  exact ⟨hg, rfl, at', hat, hd, hb⟩

theorem special_set (c : UInt8) : [34, 44, 13, 10].contains c = Csv.special c := by
  simp only [List.contains_cons, List.contains_nil, Bool.or_false, Csv.special, Bool.or_assoc]
theorem indexAny_take (l : List UInt8) : (Lib.indexAny l [34, 44, 13, 10] = -1 ∧ l.dropWhile (!Csv.special ·) = [] ∧ l.takeWhile (!Csv.special ·) = l) ∨
    (Lib.indexAny l [34, 44, 13, 10] = ((l.takeWhile (!Csv.special ·)).length : Int) ∧ ∃ c r, l.dropWhile (!Csv.special ·) = c :: r) := by
  induction l with
  | nil => exact .inl ⟨rfl, rfl, rfl⟩
  | cons c l ih =>
    rw [Lib.indexAny, special_set, List.takeWhile_cons, List.dropWhile_cons]
    cases hc : Csv.special c with
    | true => exact .inr ⟨by simp, c, l, by simp⟩
    | false =>
      rcases ih with ⟨h1, h2, h3⟩ | ⟨h1, h2⟩
      · exact .inl ⟨by simp [h1], by simp [h2], by simp [h3]⟩
      · refine .inr ⟨?_, by simpa using h2⟩
        have hne : (Lib.indexAny l [34, 44, 13, 10] == -1) = false := by rw [h1]; exact beq_eq_false_iff_ne.2 (by omega)
        rw [hne, h1]
        simp

theorem extract_drop (s : ByteArray) (a : Nat) : (s.extract a s.size).data.toList = s.data.toList.drop a := by
  rw [Lib.extract_data, List.take_of_length_le]
  rw [Lib.size_eq]
  simp
theorem extract_take (s : ByteArray) (a n : Nat) (h : a + n ≤ s.size) : (s.extract a (a + n)).data.toList = (s.data.toList.drop a).take n := by
  rw [Lib.extract_data]
  congr 1
  omega
theorem str_of_list (s : ByteArray) (l : List UInt8) (h : s.data.toList = l) : Value.string s = Value.string ⟨l.toArray⟩ := by subst h; rfl

theorem scan_put {w : World} {b T : Nat} {x y : Value} (h : Blk w b T #[x, y]) (v : Value) : Blk (w.setCell ⟨b, 1, none⟩ v) b T #[x, v] := h.set_ 1 v

theorem set_ascii : ∀ (j : Nat) b, (⟨#[34, 44, 13, 10]⟩ : ByteArray).data.toList[j]? = some b → b.toNat < 128 := by
  intro j b h
  have : b ∈ [34, 44, 13, 10] := List.mem_of_getElem? h
  simp at this
  rcases this with rfl | rfl | rfl | rfl <;> decide

set_option maxHeartbeats 4000000 in
theorem plain_any (b : Nat) (s : ByteArray) (at_ : Nat) (w : World) (hb : Blk w b 57 #[.string s, .int .i64 at_]) (hat : at_ ≤ s.size) (hs : s.size ≤ 1073741824) :
    Calls Tryd.prog 32 #[.pointer (some ⟨b, 0, none⟩)] w (FieldRes s b w (Csv.plainP (s.data.toList.drop at_))) := by
  have h0 := hb.cell 0
  have h1 := hb.cell 1
  simp at h0 h1
  have hi : ((at_ : Int)) ≤ s.size := by omega
  obtain ⟨R, hR⟩ : ∃ R, Lib.indexAny (s.data.toList.drop at_) [34, 44, 13, 10] = R := ⟨_, rfl⟩
  have hia : ∀ wx : World, Calls Tryd.prog 28 #[.string (s.extract at_ s.size), .string ⟨#[34, 44, 13, 10]⟩] wx fun e w' => e = .returned (.int .i64 R) ∧ Below wx.heap.size wx w' := fun wx =>
    (indexAny_any _ _ wx (by simp; omega) (by decide) (by decide) set_ascii).mono fun e w' ⟨he, hw⟩ => ⟨by rw [he, extract_drop]; exact ret_eq (int_eq hR), hw⟩
  have HB := Lib.hid hb
  clear hb
  have hl : (s.data.toList.drop at_).length = s.size - at_ := by rw [List.length_drop, ← Lib.size_eq]
  rcases indexAny_take (s.data.toList.drop at_) with ⟨k1, k2, k3⟩ | ⟨k1, c, r, k2⟩
  · rw [hR] at k1
    subst k1
    have hpl : Csv.plainP (s.data.toList.drop at_) = some (s.data.toList.drop at_, []) := by
      unfold Csv.plainP
      rw [k2, k3]
    rw [hpl]
    have HK := Lib.hid hR
    clear hR k2 k3 hpl hl
    go_enter Tryd.func32, Tryd.ntmps32
    go_wp2
    go_still_tail 9, (by kernel_rfl)
    change wpList _ _ _ _ _ w.drew
    go_wp2_with (go_at_call 28; refine (hia _).mono ?_; rintro e w1 ⟨rfl, hb1⟩)
    have hB1 : Blk w1 b 57 #[.string s, .int .i64 at_] := Blk.below (w := w.drew) HB.out hb1 (Blk.lt HB.out)
    have g0 := hB1.cell 0
    have g1 := hB1.cell 1
    have f1 := hB1.frozen 1
    simp at g0 g1
    have HB1 := Lib.hid hB1
    clear hB1
    go_quiet (fail)
    go_wp2
    go_quiet (fail)
    go_wp2_with fail
    refine (peek_no b s _ s.size _ (scan_put (w := w1.drewN _) HB1.out _) (by omega) (Nat.le_refl _)).mono ?_
    rintro e w2 ⟨rfl, n2, rfl⟩
    go_wp2
    go_ret2
    exact fieldRes_some s.size (only_drewN (only_setCell (only_drewN (only_below (only_drew (only_refl w _)) hb1) _) (.inl rfl) _) n2) (str_of_list _ _ (extract_drop s at_)) (Nat.le_refl _) (List.drop_of_length_le (by rw [Lib.size_eq]; exact Nat.le_refl _))
      (int_eq (by omega)) (scan_put (w := w1.drewN _) HB1.out _)
  · obtain ⟨n, hn⟩ : ∃ n, ((s.data.toList.drop at_).takeWhile (!Csv.special ·)).length = n := ⟨_, rfl⟩
    have hll := List.takeWhile_append_dropWhile (p := (!Csv.special ·)) (l := s.data.toList.drop at_)
    rw [k2] at hll
    have hlt : at_ + n < s.size := by
      have := congrArg List.length hll
      rw [List.length_append, hn, hl] at this
      simp at this
      omega
    have htake : (s.data.toList.drop at_).takeWhile (!Csv.special ·) = (s.data.toList.drop at_).take n := by
      have := List.take_left' (l₂ := c :: r) hn
      rw [hll] at this
      exact this.symm
    have hdrop : s.data.toList.drop (at_ + n) = c :: r := by
      rw [← List.drop_drop, ← hll, List.drop_left' hn]
    have hc : s[at_ + n]'hlt = c := by
      have h5 := get_list s (at_ + n) hlt
      have h6 : (s.data.toList.drop (at_ + n))[0]? = some c := by rw [hdrop]; rfl
      rw [List.getElem?_drop, Nat.add_zero, h5] at h6
      exact Option.some.inj h6
    rw [hR, hn] at k1
    subst k1
    have hin : ((at_ : Int) + n) < s.size := by omega
    have hn0 : decide ((n : Int) < 0) = false := decide_eq_false (by omega)
    have HP : Hid (Csv.plainP (s.data.toList.drop at_) = if c = 34 then none else some ((s.data.toList.drop at_).take n, c :: r)) := by
      show _ = _
      unfold Csv.plainP
      rw [k2, htake]
      by_cases h34 : c = 34
      · subst h34; rfl
      · rw [if_neg h34]
        split
        · rename_i heq
          cases heq
          exact absurd rfl h34
        · rfl
    have HC := Lib.hid hc
    have HD := Lib.hid hdrop
    clear hR k2 hn hll hl htake hdrop hc
    go_enter Tryd.func32, Tryd.ntmps32
    go_wp2
    go_still_tail 9, (by kernel_rfl)
    change wpList _ _ _ _ _ w.drew
    go_wp2_with (go_at_call 28; refine (hia _).mono ?_; rintro e w1 ⟨rfl, hb1⟩)
    have hB1 : Blk w1 b 57 #[.string s, .int .i64 at_] := Blk.below (w := w.drew) HB.out hb1 (Blk.lt HB.out)
    have g0 := hB1.cell 0
    have g1 := hB1.cell 1
    have f1 := hB1.frozen 1
    simp at g0 g1
    have HB1 := Lib.hid hB1
    clear hB1
    go_quiet (fail)
    go_wp2_with fail
    refine (peek_yes b s _ (at_ + n) _ (scan_put (w := w1.drewN _) HB1.out _) (by omega) (by omega) hs).mono ?_
    rintro e w2 ⟨rfl, n2, rfl⟩
    rw [HC.out]
    have hg := only_drewN (only_setCell (only_drewN (only_below (only_drew (only_refl w (some b))) hb1) nq) (p := ⟨b, 1, none⟩) (.inl rfl) (.int .i64 ((at_ : Int) + n))) n2
    have HG := Lib.hid hg
    clear hg
    by_cases h34 : c = 34
    · subst h34
      go_wp2
      go_ret2
      rw [HP.out]
      first | rw [if_pos rfl] | rw [if_pos trivial]
      exact ⟨HG.out, rfl⟩
    · have hcb : ((c.toNat : Int) == 34) = false := by
        refine beq_eq_false_iff_ne.2 fun e => h34 (UInt8.toNat_inj.1 ?_)
        simp; omega
      go_wp2
      go_ret2
      rw [HP.out, if_neg h34]
      exact fieldRes_some (at_ + n) HG.out (str_of_list _ _ (extract_take s at_ n (by omega))) (by omega) HD.out (int_eq (by omega)) (scan_put (w := w1.drewN _) HB1.out _)
end Go.Proofs.YtjkbaihcdjbjiaaDoor
