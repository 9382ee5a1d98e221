/- strings.ReplaceAll of one byte, as a plain function. -/
import Derived.Test.YtoofbflplhbpbaaGreatDoorWords
import Derived.Lib.Replace
import Derived.Lib.IndexLaws
import Derived.Lib.IndexBytes
import Derived.Lib.CountLaws
namespace Go.Proofs.YtoofbflplhbpbaaGreatDoor
open Go.RowKit Go.Lib

def repl1 (c : UInt8) (new : List UInt8) (s : List UInt8) : List UInt8 := s.flatMap fun x => if x = c then new else [x]
theorem repl1_none {c : UInt8} {new s : List UInt8} (h : ∀ x ∈ s, x ≠ c) : repl1 c new s = s := by
  induction s with
  | nil => rfl
  | cons a s ih =>
    have := ih (fun x hx => h x (by simp [hx]))
    unfold repl1 at this ⊢
    rw [List.flatMap_cons, if_neg (h a (by simp)), this]
    rfl
theorem repl1_length (c : UInt8) (new s : List UInt8) : (repl1 c new s).length ≤ s.length * (new.length + 1) := by
  induction s with
  | nil => simp [repl1]
  | cons a s ih =>
    have e : repl1 c new (a :: s) = (if a = c then new else [a]) ++ repl1 c new s := rfl
    rw [e, List.length_append, List.length_cons, Nat.add_mul, Nat.one_mul]
    split
    · omega
    · simp only [List.length_singleton]; omega
theorem replaceK_one (c : UInt8) (new : List UInt8) (n : Nat) : ∀ s : List UInt8, s.length ≤ n → replaceK [c] new (Lib.count s [c]) s = repl1 c new s := by
  induction n with
  | zero =>
    intro s h
    have : s = [] := List.eq_nil_of_length_eq_zero (by omega)
    subst this
    rfl
  | succ n ih =>
    intro s h
    rcases indexByte_take s c with ⟨h1, h2⟩ | ⟨i, r, h1, h2, h3, h4⟩
    · have hm : index s [c] = -1 := by rw [index_one]; exact h1
      rw [count_miss hm, replaceK, repl1_none h2]
    · have hi : index s [c] = i := by rw [index_one]; exact h1
      rw [count_hit (by simp) hi, Nat.add_comm 1, replaceK_hit _ _ _ _ _ hi, ih _ (by rw [List.length_drop]; simp; omega)]
      have hd : s.drop (i + [c].length) = r := by
        rw [h2]
        have : (s.take i).length = i := by rw [List.length_take]; omega
        rw [List.drop_append, this, List.drop_of_length_le (by simp; omega)]
        simp
      rw [hd]
      conv => rhs; rw [h2]
      unfold repl1
      rw [List.flatMap_append, List.flatMap_cons, if_pos rfl]
      have := repl1_none (new := new) h3
      unfold repl1 at this
      rw [this, List.append_assoc]
theorem replaceAll_one (s : List UInt8) (c : UInt8) (new : List UInt8) (h : [c] ≠ new) : Lib.replaceAll s [c] new = repl1 c new s := by
  unfold Lib.replaceAll Lib.replace
  rw [if_neg (by simpa using h)]
  unfold replaceNum
  rw [if_pos (.inl (by decide))]
  exact replaceK_one c new _ s (Nat.le_refl _)
end Go.Proofs.YtoofbflplhbpbaaGreatDoor
