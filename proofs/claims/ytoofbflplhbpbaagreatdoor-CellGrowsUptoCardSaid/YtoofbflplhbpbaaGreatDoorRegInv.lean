/- A region that draws its order, by what holds of each set of operations that have come up. -/
import Derived.Test.YtoofbflplhbpbaaGreatDoorWords
import Derived.RegionTactic
namespace Go.Proofs.YtoofbflplhbpbaaGreatDoor
open Go.RowKit

theorem filter_lt {p q : Nat → Bool} (h : ∀ x, q x = true → p x = true) {i : Nat} (hp : p i = true) (hq : q i = false) : ∀ {l : List Nat}, i ∈ l → (l.filter q).length < (l.filter p).length
  | a :: l, hi => by
    have hle : ∀ l : List Nat, (l.filter q).length ≤ (l.filter p).length := fun l => by
      induction l with
      | nil => simp
      | cons b l ih =>
        rw [List.filter_cons, List.filter_cons]
        cases hb : q b with
        | true => rw [h b hb]; simp; exact ih
        | false =>
          cases p b with
          | true => simp; omega
          | false => simpa using ih
    rw [List.filter_cons, List.filter_cons]
    rcases List.mem_cons.1 hi with rfl | hi
    · rw [hp, hq]
      have := hle l
      simp
      omega
    · have ih := filter_lt h hp hq hi
      cases hb : q a with
      | true => rw [h a hb]; simp; exact ih
      | false =>
        cases p a with
        | true => simp; omega
        | false => simpa using ih
def todo (ops : Array Oper) (listed : Array Bool) : Nat := ((List.range ops.size).filter fun i => !listed.getD i true).length
theorem todo_set {ops : Array Oper} {listed : Array Bool} {md : Region.Mode} {i : Nat} (h : i ∈ Region.ready md ops listed) : todo ops (listed.setIfInBounds i true) < todo ops listed := by
  unfold Region.ready at h
  rw [List.mem_filter, Bool.and_eq_true] at h
  obtain ⟨h1, h2, -⟩ := h
  have hi : i < listed.size := by
    rcases Nat.lt_or_ge i listed.size with h | h
    · exact h
    · simp [Array.getD, Nat.not_lt.2 h] at h2
  refine filter_lt (fun x hx => ?_) h2 ?_ h1
  · by_cases e : x = i
    · subst e; exact h2
    · have : (listed.setIfInBounds i true).getD x true = listed.getD x true := by
        simp only [Array.getD_eq_getD_getElem?, Array.getElem?_setIfInBounds, if_neg (Ne.symm e)]
      rw [this] at hx
      exact hx
  · have : (listed.setIfInBounds i true).getD i true = true := by
      simp only [Array.getD_eq_getD_getElem?, Array.getElem?_setIfInBounds, if_true, hi]
      rfl
    rw [this]
    rfl
section
variable {P : Program} {ops : Array Oper} {Q : Exit → Act → World → Prop} {md : Region.Mode}
theorem wpOp_plain {i : Nat} {o : Oper} {K : Act → World → Prop} {a : Act} {w : World} (ho : ops[i]? = some o) (hg : o.guard = none)
    (h : ∀ K' : Act → World → Prop, (∀ a w, K a w → K' a w) → Oper.wp P o a w K' Q) : wpOp P ops Q i K a w :=
  wpOp_step ho fun K' hK' => by
    rw [if_pos (by simp [Region.wanted, hg])]
    exact h K' hK'
theorem wpAny_inv (Inv : Array Bool → Act → World → Prop)
    (hstep : ∀ listed a w i, listed.size = ops.size → Inv listed a w → i ∈ Region.ready md ops listed → wpOp P ops Q i (Inv (listed.setIfInBounds i true)) a w)
    (hdone : ∀ listed a w, listed.size = ops.size → Inv listed a w → Region.ready md ops listed = [] → Q .normal a w) :
    ∀ (fuel : Nat) (listed : Array Bool) (a : Act) (w : World), listed.size = ops.size → todo ops listed ≤ fuel → Inv listed a w → wpAny P md ops Q fuel listed a w
  | 0, listed, a, w, hs, ht, h => by
    have hr : Region.ready md ops listed = [] := by
      apply List.eq_nil_iff_forall_not_mem.2
      intro i hi
      have := todo_set hi
      omega
    exact ⟨hr, hdone listed a w hs h hr⟩
  | fuel + 1, listed, a, w, hs, ht, h =>
    ⟨hdone listed a w hs h, fun i hi => wpOp_mono (fun a' w' h' => wpAny_inv Inv hstep hdone fuel _ a' w' (by simpa using hs) (by have := todo_set hi; omega) h') (hstep listed a w i hs h hi)⟩
theorem wp_region_inv {id : Nat} {a : Act} {w : World} (hm : P.follows .mixedOrders = true) (Inv : Array Bool → Act → World → Prop) (h0 : Inv (Array.replicate ops.size false) a w.drew)
    (hstep : ∀ listed a w i, listed.size = ops.size → Inv listed a w → i ∈ Region.ready .any ops listed → wpOp P ops Q i (Inv (listed.setIfInBounds i true)) a w)
    (hdone : ∀ listed a w, listed.size = ops.size → Inv listed a w → Region.ready .any ops listed = [] → Q .normal a w) : (Code.region id ops true).wp P Q a w :=
  wp_region_any hm (wpAny_inv Inv hstep hdone ops.size _ a _ (by simp) (by
    unfold todo
    have := List.length_filter_le (fun i => !(Array.replicate ops.size false).getD i true) (List.range ops.size)
    simpa using this) h0)
end
/-- the frame is as it was but for the slots D -/
structure Agree (D : List Nat) (a0 a : Act) : Prop where
  defers : a.defers = a0.defers
  size : a.tmps.size = a0.tmps.size
  same : ∀ t, t ∉ D → a.tmps.getD t undef = a0.tmps.getD t undef
theorem Agree.refl (D : List Nat) (a : Act) : Agree D a a := ⟨rfl, rfl, fun _ _ => rfl⟩
theorem put_same {a : Act} {d : Nat} (v : Value) (h : d < a.tmps.size) : (a.put (some d) v).tmps.getD d undef = v := by
  simp [Act.put, Array.getD_eq_getD_getElem?, Array.getElem?_setIfInBounds, h]
theorem put_other {a : Act} {d t : Nat} (v : Value) (h : d ≠ t) : (a.put (some d) v).tmps.getD t undef = a.tmps.getD t undef := by
  simp [Act.put, Array.getD_eq_getD_getElem?, Array.getElem?_setIfInBounds, h]
theorem Agree.put {D : List Nat} {a0 a : Act} (h : Agree D a0 a) {d : Nat} (hd : d ∈ D) (v : Value) : Agree D a0 (a.put (some d) v) :=
  ⟨h.defers, by simpa [Act.put] using h.size, fun t ht => by
    have hne : d ≠ t := by rintro rfl; exact ht hd
    rw [put_other v hne]
    exact h.same t ht⟩
theorem Agree.none {D : List Nat} {a0 a : Act} (h : Agree D a0 a) (v : Value) : Agree D a0 (a.put none v) := h
/-- the frame out of the old one and the slots D -/
theorem Agree.back {D : List Nat} {a0 a : Act} (h : Agree D a0 a) : a = { a0 with tmps := D.foldl (fun t d => t.setIfInBounds d (a.tmps.getD d undef)) a0.tmps } := by
  have key : ∀ (D : List Nat) (t : Array Value), t.size = a.tmps.size → (∀ i, i ∉ D → a.tmps.getD i undef = t.getD i undef) → a.tmps = D.foldl (fun t d => t.setIfInBounds d (a.tmps.getD d undef)) t := by
    intro D
    induction D with
    | nil =>
      intro t hs ha
      apply Array.ext hs.symm
      intro i h1 h2
      have := ha i (by simp)
      simpa [Array.getD_eq_getD_getElem?, h1, h2] using this
    | cons d D ih =>
      intro t hs ha
      refine ih _ (by simpa using hs) fun i hi => ?_
      by_cases e : d = i
      · subst e
        by_cases hd : d < a.tmps.size
        · simp [Array.getD_eq_getD_getElem?, Array.getElem?_setIfInBounds, hs, hd]
        · simp [Array.getD_eq_getD_getElem?, Array.getElem?_setIfInBounds, hs, hd]
      · have := ha i (by simp only [List.mem_cons, not_or]; exact ⟨fun x => e x.symm, hi⟩)
        simp only [Array.getD_eq_getD_getElem?, Array.getElem?_setIfInBounds, if_neg e] at this ⊢
        exact this
  have ht := key D a0.tmps h.size.symm h.same
  obtain ⟨t, df⟩ := a
  have := h.defers
  simp only at this ht ⊢
  rw [this]
  congr 1
theorem ready_dep {ops : Array Oper} {md : Region.Mode} {listed : Array Bool} {i : Nat} (h : i ∈ Region.ready md ops listed) {o : Oper} (ho : ops[i]? = some o) : listed.getD i true = false ∧ ∀ e ∈ o.after.toList, Region.binds md e = true → listed.getD e.on false = true := by
  unfold Region.ready at h
  rw [List.mem_filter, Bool.and_eq_true] at h
  obtain ⟨-, h2, h3⟩ := h
  rw [ho] at h3
  simp only [Option.map_some, Option.getD_some, Array.all_eq_true_iff_forall_mem, Bool.or_eq_true, Bool.not_eq_true'] at h3
  refine ⟨by simpa using h2, fun e he hb => ?_⟩
  rcases h3 e (by simpa using he) with h | h
  · rw [hb] at h; cases h
  · exact h
theorem listed_set {listed : Array Bool} {i j : Nat} (h : (listed.setIfInBounds i true).getD j false = true) : j = i ∨ listed.getD j false = true := by
  by_cases e : i = j
  · exact .inl e.symm
  · right
    simpa only [Array.getD_eq_getD_getElem?, Array.getElem?_setIfInBounds, if_neg e] using h
end Go.Proofs.YtoofbflplhbpbaaGreatDoor
