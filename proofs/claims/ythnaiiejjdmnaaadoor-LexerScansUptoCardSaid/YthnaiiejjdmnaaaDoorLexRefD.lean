/- Layer 24 (lexer): the document's Read. -/
import Derived.Test.YthnaiiejjdmnaaaDoorLexRefC
import Derived.Test.YthnaiiejjdmnaaaDoorLexAll
import Derived.Test.YthnaiiejjdmnaaaDoorAppS
namespace Go.Proofs.YthnaiiejjdmnaaaDoor
open Go.RowKit

/-- where an error stands, and its number; none: 0, 0 -/
def errP (x : Option (Nat × Nat)) : Nat × Nat := x.getD (0, 0)
/-- how the document's Read ends -/
def RefReadRes (x : List Lex.Tok × Option (Nat × Nat)) (w : World) (e : Ending) (w' : World) : Prop :=
  Below w.heap.size w w' ∧ ∃ v, e = .returned (.tuple #[v, .int .i64 ((errP x.2).1 : Int), .int .i64 ((errP x.2).2 : Int)]) ∧ OwnToks w' w.heap.size v x.1

theorem OwnToks.below {w w' : World} {B : Nat} {v : Value} {l : List Lex.Tok} (h : OwnToks w B v l) (hb : Below w.heap.size w w') : OwnToks w' B v l := by
  unfold OwnToks at h ⊢
  exact own_kept_ty h (only_of_below hb none) (fun g c t fz hr => by cases hr)

/-- behind a token's block that is made and filled -/
theorem tok_stored {W W2 : World} {v0 v1 v2 v3 : Value} (h : W.alloc (.cells #[v0, v1, v2, v3] 30) = W2) :
    Below W.heap.size W W2 ∧ Blk W2 W.heap.size 30 #[v0, v1, v2, v3] := by
  subst h
  exact ⟨(Below.refl _ W).alloc (Nat.le_refl _) _, Blk.new _ _ _⟩

set_option maxHeartbeats 8000000 in
set_option maxRecDepth 100000 in
theorem refRead_any (s : ByteArray) (hs : s.size ≤ 1073741823) (w : World) :
    Calls Tryd.prog 10 #[.string s] w (RefReadRes (Lex.read s.data.toList) w) := by
  obtain ⟨X, hX⟩ : ∃ X, Lex.read s.data.toList = X := ⟨_, rfl⟩
  rw [hX]
  by_cases hbig : 16777216 < s.size
  · have hd : decide (16777216 < s.size) = true := decide_eq_true hbig
    have hd' : decide ((16777216 : Int) < s.size) = true := decide_eq_true (by omega)
    have hx : X = ([], some (0, 1)) := by
      rw [← hX]
      unfold Lex.read
      rw [if_pos (by rw [← Lib.size_eq]; exact hbig)]
    subst hx
    clear hX hbig
    go_enter Tryd.func10, Tryd.ntmps10
    go_wp2
    refine ret3 rfl ?_
    exact ⟨(Below.refl _ _).alloc (Nat.le_refl _) _, _, rfl, own_empty_sz w _ _ 4 (Nat.le_refl _)⟩
  · have hd : decide (16777216 < s.size) = false := decide_eq_false hbig
    have hd' : decide ((16777216 : Int) < s.size) = false := decide_eq_false (by omega)
    have hsm : s.size ≤ 16777216 := by omega
    have hrd : X = Lex.scan (s.size + 1) (s.data.toList.drop (Lex.gap false s.data.toList)) (Lex.gap false s.data.toList) := by
      rw [← hX]
      unfold Lex.read
      rw [if_neg (by rw [← Lib.size_eq]; exact hbig)]
      unfold Lex.body
      rw [← Lib.size_eq, Nat.zero_add]
    have hgp := fun (i : Nat) (hi : i ≤ s.size) (W : World) => refGap_any s i W (by omega) hi
    have hgl := Lex.gap_le false s.data.toList
    rw [← Lib.size_eq] at hgl
    have hs0 := hgp 0 (by omega)
    rw [List.drop_zero, Nat.zero_add] at hs0
    obtain ⟨a0, ha0⟩ : ∃ a, Lex.gap false s.data.toList = a := ⟨_, rfl⟩
    rw [ha0] at hs0 hgl hrd
    have HS0 := Lib.hid (show ∀ W : World, Calls Tryd.prog 17 #[.string s, .int .i64 0] W fun e w' => e = .returned (.int .i64 (a0 : Int)) ∧ W = w' from hs0)
    have HGP := Lib.hid hgp
    have HRD0 := Lib.hid hrd
    clear hgp hs0 hrd ha0 hbig hX
    go_enter Tryd.func10, Tryd.ntmps10
    go_wp2_with fail
    refine (HS0.out _).mono ?_
    rintro e w' ⟨rfl, rfl⟩
    clear HS0
    go_wp2_with fail
    go_loopg [5, 6] s.size (fun g v x wr => ∃ (k : Nat) (pre : List Lex.Tok), x = .int .i64 k ∧ k ≤ s.size ∧ s.size - k ≤ g ∧ pre.length ≤ k ∧ OwnToks wr w.heap.size v pre ∧ Below w.heap.size w wr ∧ X = (pre ++ (Lex.scan (g + 1) (s.data.toList.drop k) k).1, (Lex.scan (g + 1) (s.data.toList.drop k) k).2))
    case atStart => exact ⟨a0, [], rfl, hgl, by omega, by simp, own_empty_sz w _ _ 4 (Nat.le_refl _), (Below.refl _ _).alloc (Nat.le_refl _) _, by rw [HRD0.out]; rfl⟩
    case round =>
      obtain ⟨k, pre, rfl, hle, hgk, hpl, hown, hbel, hx⟩ := hrel
      have HB := Lib.hid hbel
      have HX := Lib.hid hx
      have hwz := hbel.size
      have hki : (k : Int) ≤ 16777216 := by omega
      obtain ⟨A5, c5, rfl⟩ := own_form hown
      obtain ⟨pn, hpn'⟩ : ∃ n, pre.length = n := ⟨_, rfl⟩
      rw [hpn'] at hown hpl
      rw [hpn']
      have HO := Lib.hid hown
      have HPN := Lib.hid hpn'
      clear hpn'
      clear hown hbel hx HRD0
      by_cases hlt : k < s.size
      case neg =>
        have hke : k = s.size := by omega
        have hxe : X = (pre, none) := by
          rw [HX.out, drop_end' (by omega), Lex.scan_nil, List.append_nil]
        subst hxe
        subst hke
        clear HX
        go_wp2
        refine ret3 rfl ?_
        exact ⟨HB.out, _, rfl, HO.out⟩
      case pos =>
      have hlti : (k : Int) < s.size := by omega
      have t1 : decide (k < s.size) = true := decide_eq_true hlt
      have hnx := fun (W : World) => refToken_any s k W hs hlt
      have hne : s.data.toList.drop k ≠ [] := by
        rw [drop_at' hlt]
        simp
      obtain ⟨R, hR⟩ : ∃ R, Lex.tok1 (s.data.toList.drop k) = R := ⟨_, rfl⟩
      rw [hR] at hnx
      obtain ⟨g, rfl⟩ : ∃ g, gk = g + 1 := ⟨gk - 1, by omega⟩
      cases R with
      | err o e =>
        have hee := (Lex.tok1_err hne hR).1
        have hxe : X = (pre, some (k + o, e)) := by
          rw [HX.out, Lex.scan_err hne hR, List.append_nil]
        subst hxe
        have he0 : ((e : Int) != 0) = true := by rw [bne_iff_ne]; omega
        obtain ⟨p, hp⟩ : ∃ p, k + o = p := ⟨_, rfl⟩
        have HN := Lib.hid (fun W : World => (hnx W).mono (fun e' w' h => (⟨h.1.trans (by rw [← hp]; rfl), h.2⟩ : e' = .returned (.tuple #[.agg #[.int .i64 0, .string ⟨#[]⟩, .int .i64 0, .int .i64 (p : Int)], .int .i64 0, .int .i64 (e : Int)]) ∧ Below W.heap.size W w')))
        have HP := Lib.hid hp
        clear hnx hR hne hee HX hp
        go_wp2_with fail
        refine (HN.out _).mono ?_
        rintro e' w1 ⟨rfl, hb⟩
        have HB1 := Lib.hid hb
        have HO1 := Lib.hid (HO.out.below hb)
        clear hb
        go_wp2_with fail
        obtain ⟨W2, hW2⟩ : ∃ W2, w1.alloc (.cells #[.int .i64 0, .string ⟨#[]⟩, .int .i64 0, .int .i64 (p : Int)] 30) = W2 := ⟨_, rfl⟩
        rw [hW2]
        obtain ⟨hb2, hk2⟩ := tok_stored hW2
        have HB2 := Lib.hid hb2
        obtain ⟨b0, b1, b2, b3, f0, f1, f2, f3⟩ := rtok_cells hk2
        clear hW2 hb2 hk2
        go_quiet (fail)
        go_wp2
        refine ret3 rfl ?_
        have hz1 := HB1.out.size
        exact ⟨below_drewN ((HB.out.trans (HB1.out.mono hwz)).trans (HB2.out.mono (by omega))) _, _, by rw [HP.out]; rfl, HO1.out.below (below_drewN HB2.out _)⟩
      | tok kd tx nm n =>
        have hbd := Lex.tok1_len hR
        rw [List.length_drop, ← Lib.size_eq] at hbd
        have hsc := Lex.scan_tok (k := g + 1) (i := k) hR rfl
        obtain ⟨m, hm⟩ : ∃ m, k + n = m := ⟨_, rfl⟩
        have hmle : m ≤ s.size := by omega
        have hmi : (m : Int) ≤ 16777216 := by omega
        obtain ⟨K', hK'⟩ : ∃ K', m + Lex.gap false (s.data.toList.drop m) = K' := ⟨_, rfl⟩
        have hKm : m ≤ K' := by omega
        have hKle : K' ≤ s.size := by
          have := Lex.gap_le false (s.data.toList.drop m)
          rw [List.length_drop, ← Lib.size_eq] at this
          omega
        have hg := HGP.out m hmle
        rw [hK'] at hg
        have HG := Lib.hid hg
        have hx2 : X = (pre ++ [⟨kd, tx, nm, k⟩] ++ (Lex.scan (g + 1) (s.data.toList.drop K') K').1, (Lex.scan (g + 1) (s.data.toList.drop K') K').2) := by
          rw [HX.out, hsc]
          simp only [List.drop_drop, List.append_assoc, List.singleton_append]
          rw [hm, show k + (n + Lex.gap false (s.data.toList.drop m)) = K' by omega, hK']
        have HX2 := Lib.hid hx2
        have HN := Lib.hid (fun W : World => (hnx W).mono (fun e' w' h => (⟨h.1.trans (by rw [← hm]; rfl), h.2⟩ : e' = .returned (.tuple #[.agg #[.int .i64 (kd : Int), .string ⟨tx.toArray⟩, .int .i64 nm, .int .i64 (k : Int)], .int .i64 (m : Int), .int .i64 0]) ∧ Below W.heap.size W w')))
        have hpn : pn < 536870912 := by omega
        have hkm : k < m := by omega
        clear hnx hR hne HX hsc hbd hx2 hg hK' HGP hm
        go_wp2_with fail
        refine (HN.out _).mono ?_
        rintro e' w1 ⟨rfl, hb⟩
        have HB1 := Lib.hid hb
        have HO1 := Lib.hid (HO.out.below hb)
        have hz1 := hb.size
        clear hb
        obtain ⟨W2, hW2⟩ : ∃ W2, w1.alloc (.cells #[.int .i64 (kd : Int), .string ⟨tx.toArray⟩, .int .i64 nm, .int .i64 (k : Int)] 30) = W2 := ⟨_, rfl⟩
        obtain ⟨hb2, hk2⟩ := tok_stored hW2
        have HB2 := Lib.hid hb2
        have hz2 := hb2.size
        obtain ⟨b0, b1, b2, b3, f0, f1, f2, f3⟩ := rtok_cells hk2
        have HO2 := Lib.hid (HO1.out.below hb2)
        have ho2 := HO2.out
        unfold OwnToks at ho2
        rw [HPN.out] at ho2
        have HO3 := Lib.hid ho2
        have HW2 := Lib.hid hW2
        clear hb2 hk2 hW2 ho2
        have hwz2 : w.heap.size ≤ W2.heap.size := by omega
        go_upto_region 9 with fail
        rw [HW2.out]
        go_wp2_with (at_builtin; refine wpList_append_struct rfl (.tmp 34) (.tmp 36) 26 30 (.agg #[.int .i64 0, .string ⟨#[]⟩, .int .i64 0, .int .i64 0]) 4 40 Tryd.underlying26 info_token rfl (by decide) (by decide) rfl w.heap.size (.slice A5 pn c5) pn (toksC pre) W2 rfl HO3.out (tokC ⟨kd, tx, nm, k⟩) _ rfl rfl (by simp [tokC, Value.oneCell']) rfl hpn hwz2 ?_)
        intro v3 w3 hown3 hgr3 _ hbel3
        have hO3 : OwnToks w3 w.heap.size v3 (pre ++ [⟨kd, tx, nm, k⟩]) := by
          unfold OwnToks
          rw [List.length_append, HPN.out, toksC_snoc]
          exact hown3
        have HO4 := Lib.hid hO3
        have HB4 := Lib.hid (((HB.out.trans (HB1.out.mono hwz)).trans (HB2.out.mono (by omega))).trans hbel3)
        clear hown3 hgr3 hbel3 hO3
        go_wp2_with fail
        refine (HG.out _).mono ?_
        rintro e' w' ⟨rfl, rfl⟩
        go_wp2
        go_roundg g
        case measure => omega
        case rel => exact ⟨K', _, rfl, hKle, by omega, by rw [List.length_append, HPN.out, List.length_singleton]; omega, HO4.out, HB4.out, HX2.out⟩
end Go.Proofs.YthnaiiejjdmnaaaDoor
