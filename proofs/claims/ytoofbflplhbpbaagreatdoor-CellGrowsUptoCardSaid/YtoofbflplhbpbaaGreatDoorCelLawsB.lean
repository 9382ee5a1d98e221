/- Layer 22 (cell): how long a form is and how it grows; CellThere as a contract. -/
import Derived.Test.YtoofbflplhbpbaaGreatDoorCelPrint
import Derived.Test.YtoofbflplhbpbaaGreatDoorCelLaws
import Derived.Test.YtoofbflplhbpbaaGreatDoorCelCopy
namespace Go.Proofs.YtoofbflplhbpbaaGreatDoor
open Go.RowKit

theorem flat_len {α : Type} {f : α → List UInt8} {c : Nat} : ∀ {l : List α}, (∀ x ∈ l, (f x).length ≤ c) → (l.flatMap f).length ≤ c * l.length
  | [], _ => by simp
  | a :: l, h => by
    have h1 := h a (by simp)
    have h2 := flat_len (l := l) (f := f) (c := c) fun x hx => h x (by simp [hx])
    rw [List.flatMap_cons, List.length_append, List.length_cons, Nat.mul_add]
    omega
theorem cel_print_len {v : Cel.V} (h : Cel.check v = 0) (hn : Cel.In64 v.num) (hns : ∀ n ∈ v.nums, Cel.In64 n) : (Cel.print v).length ≤ 100000 := by
  obtain ⟨-, -, -, h1, h2, h3, h4, -⟩ := Cel.check_parts h
  have e1 : (Cel.letter v.kind).length ≤ 3 := by unfold Cel.letter; split <;> simp
  have e2 : (if v.kind < 4 then Cel.numS v.kind v.num else []).length ≤ 24 := by
    split
    · exact numS_len _ _ hn
    · simp
  have e3 := flat_len (f := Cel.numE (v.kind - 4)) (c := 25) (l := v.nums) fun n hn => by
    have := numS_len (v.kind - 4) n (hns n hn)
    unfold Cel.numE
    rw [List.length_append, List.length_singleton]
    omega
  have e4 := flat_len (f := Cel.textE) (c := 2001) (l := v.texts) fun t ht => by
    have := escT_len t
    have := longs_all h4 t ht
    unfold Cel.textE
    rw [List.length_append, List.length_singleton]
    omega
  have e5 : 25 * v.nums.length ≤ 25 * 40 := Nat.mul_le_mul_left _ h1
  have e6 : 2001 * v.texts.length ≤ 2001 * 40 := Nat.mul_le_mul_left _ h2
  unfold Cel.print
  simp only [List.length_append, List.length_singleton]
  omega
theorem printR_len {v : Cel.V} (hn : Cel.In64 v.num) (hns : ∀ n ∈ v.nums, Cel.In64 n) : (Cel.printR v).1.length ≤ 100000 := by
  unfold Cel.printR
  split
  · exact cel_print_len (by assumption) hn hns
  · simp
theorem numsWrong_app (k x : Int) : ∀ {l : List Int}, Cel.numsWrong k l = 0 → Cel.numsWrong k (l ++ [x]) = Cel.numWrong k x
  | [], _ => by
    simp only [List.nil_append, Cel.numsWrong]
    split
    · rfl
    · omega
  | a :: l, h => by
    have := Cel.numsWrong_cons h
    rw [List.cons_append]
    unfold Cel.numsWrong
    rw [if_neg (by omega)]
    exact numsWrong_app k x this.2
/-- how the list of numbers grows -/
theorem grow_num {k n : Int} {t : List UInt8} {ns : List Int} {ts : List (List UInt8)} (x : Int) (hc : Cel.check ⟨k, n, t, ns, ts⟩ = 0) (h5 : 5 ≤ k) (h8 : k < 8) (hl : ns.length + ts.length < 40) :
    Cel.check ⟨k, n, t, ns ++ [x], ts⟩ = Cel.check ⟨k, 0, [], [x], []⟩ ∧ Cel.print ⟨k, n, t, ns ++ [x], ts⟩ = Cel.print ⟨k, n, t, ns, ts⟩ ++ (Cel.print ⟨k, 0, [], [x], []⟩).drop 4 ∧ 4 < (Cel.print ⟨k, 0, [], [x], []⟩).length := by
  obtain ⟨-, -, hu, h1, h2, h3, h4, hw⟩ := Cel.check_parts hc
  simp only at hu h1 h2 h3 h4 hw
  unfold Cel.Unused at hu
  simp only [not_or] at hu
  obtain ⟨u1, u2, u3, u4⟩ := hu
  simp only [not_and, Decidable.not_not] at u1 u2 u4
  have e1 : n = 0 := by
    apply Decidable.not_not.1; intro e; exact u1 e (by omega)
  have e2 : t = [] := by
    apply Decidable.not_not.1; intro e; have := u2 e; omega
  have e4 : ts = [] := by
    apply Decidable.not_not.1; intro e; have := u4 e; omega
  subst e1 e2 e4
  rw [if_neg (by omega)] at hw
  have a1 := numsWrong_app (k - 4) x hw
  have a2 : Cel.numsWrong (k - 4) [x] = Cel.numWrong (k - 4) x := numsWrong_app (k - 4) x (l := []) rfl
  have hun : ∀ l : List Int, ¬ Cel.Unused ⟨k, 0, [], l, []⟩ := fun l => by
    unfold Cel.Unused
    simp only [ne_eq, not_true_eq_false, false_and, false_or, or_false, not_and]
    intro _ h
    omega
  simp only [List.length_nil, Nat.add_zero] at hl
  refine ⟨?_, ?_, ?_⟩
  · unfold Cel.check
    dsimp only
    rw [if_neg (by omega), if_neg (hun _), if_neg (by simp; omega), if_neg (by simp [Cel.longs]), if_neg (by omega), if_neg (by omega), if_neg (hun _), if_neg (by simp), if_neg (by simp [Cel.longs]), if_neg (by omega), a1, a2]
  · unfold Cel.print Cel.letter
    dsimp only
    rw [if_pos (by omega), if_neg (by omega)]
    simp
  · unfold Cel.print Cel.letter Cel.numE
    dsimp only
    rw [if_pos (by omega), if_neg (by omega)]
    simp
/-- how the list of texts grows -/
theorem grow_text {k n : Int} {t : List UInt8} {ns : List Int} {ts : List (List UInt8)} (x : List UInt8) (hc : Cel.check ⟨k, n, t, ns, ts⟩ = 0) (h8 : k = 8) (hl : ns.length + ts.length < 40) :
    Cel.check ⟨k, n, t, ns, ts ++ [x]⟩ = Cel.check ⟨k, 0, [], [], [x]⟩ ∧ Cel.print ⟨k, n, t, ns, ts ++ [x]⟩ = Cel.print ⟨k, n, t, ns, ts⟩ ++ (Cel.print ⟨k, 0, [], [], [x]⟩).drop 4 ∧ 4 < (Cel.print ⟨k, 0, [], [], [x]⟩).length := by
  subst h8
  obtain ⟨-, -, hu, h1, h2, h3, h4, hw⟩ := Cel.check_parts hc
  simp only at hu h1 h2 h3 h4 hw
  unfold Cel.Unused at hu
  simp only [not_or] at hu
  obtain ⟨u1, u2, u3, u4⟩ := hu
  simp only [not_and, Decidable.not_not] at u1 u2
  have e1 : n = 0 := by
    apply Decidable.not_not.1; intro e; exact u1 e (by omega)
  have e2 : t = [] := by
    apply Decidable.not_not.1; intro e; have := u2 e; omega
  have e3 : ns = [] := by
    apply Decidable.not_not.1; intro e; exact u3 ⟨e, .inr trivial⟩
  subst e1 e2 e3
  have hun : ∀ l : List (List UInt8), ¬ Cel.Unused ⟨8, 0, [], [], l⟩ := fun l => by
    unfold Cel.Unused
    simp
  have hlong : Cel.longs (ts ++ [x]) = Cel.longs [x] := by
    unfold Cel.longs at h4 ⊢
    rw [List.any_append, h4, Bool.false_or]
  simp only [List.length_nil, Nat.zero_add] at hl
  refine ⟨?_, ?_, ?_⟩
  · have ha : ∀ l : List (List UInt8), l.length ≤ 40 → Cel.check ⟨8, 0, [], [], l⟩ = if Cel.longs l = true then 44 else 0 := fun l hl => by
      unfold Cel.check
      dsimp only
      rw [if_neg (by omega), if_neg (hun _), if_neg (by simp; omega)]
      by_cases hb : Cel.longs l = true
      · rw [if_pos (.inr hb), if_pos hb]
      · rw [if_neg (by simp [hb]), if_neg hb]
        rfl
    rw [ha _ (by simp; omega), ha _ (by simp), hlong]
  · unfold Cel.print Cel.letter
    dsimp only
    rw [if_pos (by omega), if_neg (by omega)]
    simp
  · unfold Cel.print Cel.letter Cel.textE
    dsimp only
    rw [if_pos (by omega), if_neg (by omega)]
    simp

theorem VIn.mono {W : World} {B B' : Nat} {u : Value} {v : Cel.V} (h : VIn W B u v) (hB : B ≤ B') : VIn W B' u v := by
  obtain ⟨An, cn, At, ct, e, h1, h2⟩ := h.ex
  exact ⟨⟨An, cn, At, ct, e, h1.more hB, h2.more hB⟩, h.kin, h.num, h.nums, h.tl, h.nl, h.sl, h.sz⟩
end Go.Proofs.YtoofbflplhbpbaaGreatDoor
