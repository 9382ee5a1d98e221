/- Layer 22 (cell): CellGrows as a contract. -/
import Derived.Test.YtoofbflplhbpbaaGreatDoorCelLawsB
import Derived.Test.YtoofbflplhbpbaaGreatDoorHole
import Derived.Test.YtoofbflplhbpbaaGreatDoorRegInv
import Derived.Deep.RegionHeld3
import Derived.Deep.DeepCutAuto
import Derived.Deep.CutBlock
import Derived.Deep.DrawnRows
namespace Go.Proofs.YtoofbflplhbpbaaGreatDoor
open Go.RowKit

attribute [local go_sem ↓] Go.wp_at_zero Go.wp_at_succ
theorem wp_region_inv_at {P : Program} {ops : Array Oper} {Q : Exit → Act → World → Prop} {id : Nat} {a : Act} {w : World} (hm : P.follows .mixedOrders = true) (Inv : Act → Array Bool → Act → World → Prop) (h0 : Inv a (Array.replicate ops.size false) a w.drew)
    (hstep : ∀ listed b w i, listed.size = ops.size → Inv a listed b w → i ∈ Region.ready .any ops listed → wpOp P ops Q i (Inv a (listed.setIfInBounds i true)) b w)
    (hdone : ∀ listed b w, listed.size = ops.size → Inv a listed b w → Region.ready .any ops listed = [] → Q .normal b w) : (Code.region id ops true).wp P Q a w := wp_region_inv hm (Inv a) h0 hstep hdone
theorem not_listed {listed : Array Bool} {i : Nat} (h : listed.getD i true = false) : ¬ listed.getD i false = true := by
  simp only [Array.getD_eq_getD_getElem?] at h ⊢
  cases e : listed[i]? with
  | none => rw [e] at h; cases h
  | some b => rw [e] at h; simp only [Option.getD_some] at h ⊢; rw [h]; decide
theorem all_listed {ops : Array Oper} {md : Region.Mode} {listed : Array Bool} (h : Region.ready md ops listed = []) (hs : listed.size = ops.size) {i : Nat} {o : Oper} (ho : ops[i]? = some o) (hd : ∀ e ∈ o.after.toList, Region.binds md e = true → listed.getD e.on false = true) : listed.getD i false = true := by
  have hi : i < ops.size := (Array.getElem?_eq_some_iff.1 ho).1
  cases hl : listed.getD i true with
  | true =>
    simp only [Array.getD_eq_getD_getElem?] at hl ⊢
    rw [Array.getElem?_eq_getElem (by omega)] at hl ⊢
    exact hl
  | false =>
    have : i ∈ Region.ready md ops listed := by
      unfold Region.ready
      rw [List.mem_filter]
      refine ⟨List.mem_range.2 hi, ?_⟩
      rw [hl, ho]
      simp only [Bool.not_false, Bool.true_and, Option.map_some, Option.getD_some, Array.all_eq_true_iff_forall_mem, Bool.or_eq_true, Bool.not_eq_true']
      intro e he
      cases hb : Region.binds md e with
      | false => exact .inl rfl
      | true => exact .inr (hd e (by simpa using he) hb)
    rw [h] at this
    cases this
theorem getD_set_keep {listed : Array Bool} {i j : Nat} (h : listed.getD j false = true) : (listed.setIfInBounds i true).getD j false = true := by
  by_cases e : i = j
  · subst e
    by_cases hi : i < listed.size
    · simp [Array.getD_eq_getD_getElem?, Array.getElem?_setIfInBounds, hi]
    · simp [Array.getD_eq_getD_getElem?, Array.getElem?_eq_none (Nat.not_lt.1 hi)] at h
  · simpa only [Array.getD_eq_getD_getElem?, Array.getElem?_setIfInBounds, if_neg e] using h
theorem getD_set_other {listed : Array Bool} {i j : Nat} (e : i ≠ j) : (listed.setIfInBounds i true).getD j false = listed.getD j false := by
  simp only [Array.getD_eq_getD_getElem?, Array.getElem?_setIfInBounds, if_neg e]
theorem own_set_row {w : World} {B e sz n b : Nat} {v : Value} {xs : List Value} {cs cs' : Array Value} {t : TypeId} (h : w.ownsRow B e sz v n xs) (hb : Blk w b t cs) (hne : t ≠ e) : (w.setRow b cs').ownsRow B e sz v n xs :=
  own_kept_ty h (row := some b) ⟨rfl, rfl, rfl, by simp, fun k _ hk => setRow_other w b k _ (fun e => hk (by rw [e]))⟩ (fun g' c t' fz e1 e2 => by
    cases e1
    have := hb.symm.trans e2
    injection this with this
    injection this with _ ht
    exact ht ▸ hne)
theorem below_set_row {w3 w : World} {b : Nat} {cs : Array Value} (h : Below w3.heap.size w3 w) (hb : w3.heap.size ≤ b) : Below w3.heap.size w3 (w.setRow b cs) :=
  h.grown (row := some b) ⟨rfl, rfl, rfl, by simp, fun k _ hk => setRow_other w b k _ (fun e => hk (by rw [e]))⟩ h.size (fun k e => by cases e; exact hb)
section
variable {a : Act} {w : World} {K : Act → World → Prop} {Q : Exit → Act → World → Prop} {o : Oper}
theorem op_call1 {v : Value} {x : Operand} {ts : Array TypeId} (hop : o.op = Op.call { callee := Callee.value (Operand.func 14), args := #[x], argTypes := ts }) (hx : a.eval x = v)
    (h : Calls Tryz.prog 14 #[v] w fun e w' => ∃ r, e = .returned r ∧ K (a.put o.dst r) w') : o.wp Tryz.prog a w K Q := by
  unfold Oper.wp
  have hf : a.eval (Operand.func 14) = .func (.func 14) #[] #[] := rfl
  generalize a.eval = ev at *
  have hr : (execOp ev o).run Tryz.prog w = .ok (.enter 14 #[v]) w := by
    simp [execOp, hop, hx, hf, resolve, invoke, go_sem]
  rw [hr, Oper.upon_enter]
  refine h.mono ?_
  rintro e w' ⟨r, rfl, hk⟩
  exact hk
theorem op_field {b off : Nat} {x : Operand} (hop : o.op = Op.fieldAddr 25 x 0) (hx : a.eval x = .pointer (some ⟨b, off, none⟩)) (h : K (a.put o.dst (.pointer (some ⟨b, off, none⟩))) w) : o.wp Tryz.prog a w K Q := by
  unfold Oper.wp
  generalize a.eval = ev at *
  have hr : (execOp ev o).run Tryz.prog w = .ok (.value (.pointer (some ⟨b, off, none⟩))) w := by
    simp [execOp, hop, hx, go_sem]
  rw [hr]
  exact h
theorem op_load_int {b off : Nat} {x : Operand} {n : Int} (hop : o.op = Op.load 3 x) (hx : a.eval x = .pointer (some ⟨b, off, none⟩)) (hc : w.cell? ⟨b, off, none⟩ = some (.int .i64 n)) (h : K (a.put o.dst (.int .i64 n)) w) : o.wp Tryz.prog a w K Q := by
  unfold Oper.wp
  generalize a.eval = ev at *
  have hr : (execOp ev o).run Tryz.prog w = .ok (.value (.int .i64 n)) w := by
    simp [execOp, hop, hx, hc, go_sem]
  rw [hr]
  exact h
theorem op_alloc_V (hop : o.op = Op.alloc 25) (h : K (a.put o.dst (.pointer (some ⟨w.heap.size, 0, none⟩))) (w.alloc (.cells #[.int .i64 0, .int .i64 0, .string ⟨#[]⟩, .slice none 0 0, .slice none 0 0] 25))) : o.wp Tryz.prog a w K Q := by
  unfold Oper.wp
  generalize a.eval = ev at *
  have hr : (execOp ev o).run Tryz.prog w = .ok (.value (.pointer (some ⟨w.heap.size, 0, none⟩))) (w.alloc (.cells #[.int .i64 0, .int .i64 0, .string ⟨#[]⟩, .slice none 0 0, .slice none 0 0] 25)) := by
    simp [execOp, hop, go_sem]
  rw [hr]
  exact h
theorem op_store_V {b : Nat} {x y : Operand} {cs cs' : Array Value} (hop : o.op = Op.store 25 x y) (hx : a.eval x = .pointer (some ⟨b, 0, none⟩)) (hy : a.eval y = .agg cs') (hk : Blk w b 25 cs) (hz : cs.size = 5) (hz' : cs'.size = 5) (h1 : ∀ v ∈ cs'.toList, v.oneCell' = true) (h : K (a.put o.dst undef) (w.setRow b cs')) : o.wp Tryz.prog a w K Q := by
  unfold Oper.wp
  generalize a.eval = ev at *
  have hst := run_storeCells_at (P := Tryz.prog) b 0 25 cs'.toList 0 cs w hk (by simp; omega) h1
  have he : (cs.toList.take (0 + 0) ++ cs'.toList ++ cs.toList.drop (0 + 0 + cs'.toList.length)).toArray = cs' := by
    rw [List.drop_eq_nil_of_le (by simp; omega)]
    simp
  rw [he] at hst
  have hr : (execOp ev o).run Tryz.prog w = .ok .skip (w.setRow b cs') := by
    simp [execOp, hop, hx, hy, hz', hst, go_sem]
  rw [hr]
  exact h
end
def VZ (k : Int) : Array Value := #[.int .i64 k, .int .i64 0, .string ⟨#[]⟩, .slice none 0 0, .slice none 0 0]
def VC (v : Cel.V) (A : Option Addr) (c : Nat) (B : Option Addr) (d : Nat) : Array Value := #[.int .i64 v.kind, .int .i64 v.num, .string ⟨v.text.toArray⟩, .slice A v.nums.length c, .slice B v.texts.length d]
/-- what holds of the region's frame and world behind a set of its operations -/
structure GInv (v : Cel.V) (w3 : World) (bx : Nat) (AG : Value) (a0 : Act) (listed : Array Bool) (a : Act) (w : World) : Prop where
  agree : Agree [40, 41, 42, 43, 44, 7, 8] a0 a
  bel : Below w3.heap.size w3 w
  f40 : listed.getD 0 false = true → a.tmps.getD 40 undef = AG
  f41 : listed.getD 1 false = true → ∃ A c B d, a.tmps.getD 41 undef = .agg (VC v A c B d) ∧ w.ownsRow w3.heap.size 2 1 (.slice A v.nums.length c) v.nums.length (v.nums.map I64) ∧ w.ownsRow w3.heap.size 9 1 (.slice B v.texts.length d) v.texts.length (v.texts.map ST)
  f42 : listed.getD 2 false = true → a.tmps.getD 42 undef = .pointer (some ⟨bx, 0, none⟩)
  f43 : listed.getD 3 false = true → a.tmps.getD 43 undef = .int .i64 v.kind
  f44 : listed.getD 4 false = true → a.tmps.getD 44 undef = .agg (VZ v.kind)
  f7 : listed.getD 5 false = true → ∃ b cs, a.tmps.getD 7 undef = .pointer (some ⟨b, 0, none⟩) ∧ w3.heap.size ≤ b ∧ Blk w b 25 cs ∧ cs.size = 5 ∧ (listed.getD 7 false = true → a.tmps.getD 41 undef = .agg cs)
  f8 : listed.getD 6 false = true → ∃ b cs, a.tmps.getD 8 undef = .pointer (some ⟨b, 0, none⟩) ∧ w3.heap.size ≤ b ∧ Blk w b 25 cs ∧ cs.size = 5 ∧ (listed.getD 8 false = true → cs = VZ v.kind)
  ne : listed.getD 5 false = true → listed.getD 6 false = true → a.tmps.getD 7 undef ≠ a.tmps.getD 8 undef
  ord : listed.getD 7 false = true → listed.getD 5 false = true ∧ listed.getD 1 false = true
  ore : listed.getD 8 false = true → listed.getD 6 false = true
theorem GInv.s0 {v : Cel.V} {w3 : World} {bx : Nat} {AG : Value} {a0 : Act} {listed : Array Bool} {a : Act} {w : World} (h : GInv v w3 bx AG a0 listed a w) (hs : a0.tmps.size = 119) :
    GInv v w3 bx AG a0 (listed.setIfInBounds 0 true) (a.put (some 40) AG) w := by
  have hz : a.tmps.size = 119 := h.agree.size.trans hs
  refine ⟨h.agree.put (by simp) _, h.bel, ?_, ?_, ?_, ?_, ?_, ?_, ?_, ?_, ?_, ?_⟩
  · intro _
    exact put_same _ (by omega)
  · intro hl
    rcases listed_set hl with e | e
    · cases e
    · obtain ⟨A, c, B, d, e1, o1, o2⟩ := h.f41 e
      refine ⟨A, c, B, d, ?_, o1, o2⟩
      rw [put_other _ (by decide)]
      exact e1
  · intro hl
    rcases listed_set hl with e | e
    · cases e
    · rw [put_other _ (by decide)]
      exact h.f42 e
  · intro hl
    rcases listed_set hl with e | e
    · cases e
    · rw [put_other _ (by decide)]
      exact h.f43 e
  · intro hl
    rcases listed_set hl with e | e
    · cases e
    · rw [put_other _ (by decide)]
      exact h.f44 e
  · intro hl
    rcases listed_set hl with e | e
    · cases e
    · obtain ⟨b, cs, e1, e2, k, e3, e4⟩ := h.f7 e
      refine ⟨b, cs, ?_, e2, ?_, e3, fun hq => ?_⟩
      · rw [put_other _ (by decide)]; exact e1
      · exact k
      · rcases listed_set hq with e' | e'
        · cases e'
        · rw [put_other _ (by decide)]; exact e4 e'
  · intro hl
    rcases listed_set hl with e | e
    · cases e
    · obtain ⟨b, cs, e1, e2, k, e3, e4⟩ := h.f8 e
      refine ⟨b, cs, ?_, e2, ?_, e3, fun hq => ?_⟩
      · rw [put_other _ (by decide)]; exact e1
      · exact k
      · rcases listed_set hq with e' | e'
        · cases e'
        · exact e4 e'
  · intro h5 h6
    rcases listed_set h5 with e | e
    · cases e
    · rcases listed_set h6 with e' | e'
      · cases e'
      · rw [put_other _ (by decide), put_other _ (by decide)]; exact h.ne e e'
  · intro hl
    rcases listed_set hl with e | e
    · cases e
    · exact ⟨getD_set_keep (h.ord e).1, getD_set_keep (h.ord e).2⟩
  · intro hl
    rcases listed_set hl with e | e
    · cases e
    · exact getD_set_keep (h.ore e)
theorem GInv.s2 {v : Cel.V} {w3 : World} {bx : Nat} {AG : Value} {a0 : Act} {listed : Array Bool} {a : Act} {w : World} (h : GInv v w3 bx AG a0 listed a w) (hs : a0.tmps.size = 119) :
    GInv v w3 bx AG a0 (listed.setIfInBounds 2 true) (a.put (some 42) (.pointer (some ⟨bx, 0, none⟩))) w := by
  have hz : a.tmps.size = 119 := h.agree.size.trans hs
  refine ⟨h.agree.put (by simp) _, h.bel, ?_, ?_, ?_, ?_, ?_, ?_, ?_, ?_, ?_, ?_⟩
  · intro hl
    rcases listed_set hl with e | e
    · cases e
    · rw [put_other _ (by decide)]
      exact h.f40 e
  · intro hl
    rcases listed_set hl with e | e
    · cases e
    · obtain ⟨A, c, B, d, e1, o1, o2⟩ := h.f41 e
      refine ⟨A, c, B, d, ?_, o1, o2⟩
      rw [put_other _ (by decide)]
      exact e1
  · intro _
    exact put_same _ (by omega)
  · intro hl
    rcases listed_set hl with e | e
    · cases e
    · rw [put_other _ (by decide)]
      exact h.f43 e
  · intro hl
    rcases listed_set hl with e | e
    · cases e
    · rw [put_other _ (by decide)]
      exact h.f44 e
  · intro hl
    rcases listed_set hl with e | e
    · cases e
    · obtain ⟨b, cs, e1, e2, k, e3, e4⟩ := h.f7 e
      refine ⟨b, cs, ?_, e2, ?_, e3, fun hq => ?_⟩
      · rw [put_other _ (by decide)]; exact e1
      · exact k
      · rcases listed_set hq with e' | e'
        · cases e'
        · rw [put_other _ (by decide)]; exact e4 e'
  · intro hl
    rcases listed_set hl with e | e
    · cases e
    · obtain ⟨b, cs, e1, e2, k, e3, e4⟩ := h.f8 e
      refine ⟨b, cs, ?_, e2, ?_, e3, fun hq => ?_⟩
      · rw [put_other _ (by decide)]; exact e1
      · exact k
      · rcases listed_set hq with e' | e'
        · cases e'
        · exact e4 e'
  · intro h5 h6
    rcases listed_set h5 with e | e
    · cases e
    · rcases listed_set h6 with e' | e'
      · cases e'
      · rw [put_other _ (by decide), put_other _ (by decide)]; exact h.ne e e'
  · intro hl
    rcases listed_set hl with e | e
    · cases e
    · exact ⟨getD_set_keep (h.ord e).1, getD_set_keep (h.ord e).2⟩
  · intro hl
    rcases listed_set hl with e | e
    · cases e
    · exact getD_set_keep (h.ore e)
theorem GInv.s3 {v : Cel.V} {w3 : World} {bx : Nat} {AG : Value} {a0 : Act} {listed : Array Bool} {a : Act} {w : World} (h : GInv v w3 bx AG a0 listed a w) (hs : a0.tmps.size = 119) :
    GInv v w3 bx AG a0 (listed.setIfInBounds 3 true) (a.put (some 43) (.int .i64 v.kind)) w := by
  have hz : a.tmps.size = 119 := h.agree.size.trans hs
  refine ⟨h.agree.put (by simp) _, h.bel, ?_, ?_, ?_, ?_, ?_, ?_, ?_, ?_, ?_, ?_⟩
  · intro hl
    rcases listed_set hl with e | e
    · cases e
    · rw [put_other _ (by decide)]
      exact h.f40 e
  · intro hl
    rcases listed_set hl with e | e
    · cases e
    · obtain ⟨A, c, B, d, e1, o1, o2⟩ := h.f41 e
      refine ⟨A, c, B, d, ?_, o1, o2⟩
      rw [put_other _ (by decide)]
      exact e1
  · intro hl
    rcases listed_set hl with e | e
    · cases e
    · rw [put_other _ (by decide)]
      exact h.f42 e
  · intro _
    exact put_same _ (by omega)
  · intro hl
    rcases listed_set hl with e | e
    · cases e
    · rw [put_other _ (by decide)]
      exact h.f44 e
  · intro hl
    rcases listed_set hl with e | e
    · cases e
    · obtain ⟨b, cs, e1, e2, k, e3, e4⟩ := h.f7 e
      refine ⟨b, cs, ?_, e2, ?_, e3, fun hq => ?_⟩
      · rw [put_other _ (by decide)]; exact e1
      · exact k
      · rcases listed_set hq with e' | e'
        · cases e'
        · rw [put_other _ (by decide)]; exact e4 e'
  · intro hl
    rcases listed_set hl with e | e
    · cases e
    · obtain ⟨b, cs, e1, e2, k, e3, e4⟩ := h.f8 e
      refine ⟨b, cs, ?_, e2, ?_, e3, fun hq => ?_⟩
      · rw [put_other _ (by decide)]; exact e1
      · exact k
      · rcases listed_set hq with e' | e'
        · cases e'
        · exact e4 e'
  · intro h5 h6
    rcases listed_set h5 with e | e
    · cases e
    · rcases listed_set h6 with e' | e'
      · cases e'
      · rw [put_other _ (by decide), put_other _ (by decide)]; exact h.ne e e'
  · intro hl
    rcases listed_set hl with e | e
    · cases e
    · exact ⟨getD_set_keep (h.ord e).1, getD_set_keep (h.ord e).2⟩
  · intro hl
    rcases listed_set hl with e | e
    · cases e
    · exact getD_set_keep (h.ore e)
theorem GInv.s4 {v : Cel.V} {w3 : World} {bx : Nat} {AG : Value} {a0 : Act} {listed : Array Bool} {a : Act} {w : World} (h : GInv v w3 bx AG a0 listed a w) (hs : a0.tmps.size = 119) :
    GInv v w3 bx AG a0 (listed.setIfInBounds 4 true) (a.put (some 44) (.agg (VZ v.kind))) w := by
  have hz : a.tmps.size = 119 := h.agree.size.trans hs
  refine ⟨h.agree.put (by simp) _, h.bel, ?_, ?_, ?_, ?_, ?_, ?_, ?_, ?_, ?_, ?_⟩
  · intro hl
    rcases listed_set hl with e | e
    · cases e
    · rw [put_other _ (by decide)]
      exact h.f40 e
  · intro hl
    rcases listed_set hl with e | e
    · cases e
    · obtain ⟨A, c, B, d, e1, o1, o2⟩ := h.f41 e
      refine ⟨A, c, B, d, ?_, o1, o2⟩
      rw [put_other _ (by decide)]
      exact e1
  · intro hl
    rcases listed_set hl with e | e
    · cases e
    · rw [put_other _ (by decide)]
      exact h.f42 e
  · intro hl
    rcases listed_set hl with e | e
    · cases e
    · rw [put_other _ (by decide)]
      exact h.f43 e
  · intro _
    exact put_same _ (by omega)
  · intro hl
    rcases listed_set hl with e | e
    · cases e
    · obtain ⟨b, cs, e1, e2, k, e3, e4⟩ := h.f7 e
      refine ⟨b, cs, ?_, e2, ?_, e3, fun hq => ?_⟩
      · rw [put_other _ (by decide)]; exact e1
      · exact k
      · rcases listed_set hq with e' | e'
        · cases e'
        · rw [put_other _ (by decide)]; exact e4 e'
  · intro hl
    rcases listed_set hl with e | e
    · cases e
    · obtain ⟨b, cs, e1, e2, k, e3, e4⟩ := h.f8 e
      refine ⟨b, cs, ?_, e2, ?_, e3, fun hq => ?_⟩
      · rw [put_other _ (by decide)]; exact e1
      · exact k
      · rcases listed_set hq with e' | e'
        · cases e'
        · exact e4 e'
  · intro h5 h6
    rcases listed_set h5 with e | e
    · cases e
    · rcases listed_set h6 with e' | e'
      · cases e'
      · rw [put_other _ (by decide), put_other _ (by decide)]; exact h.ne e e'
  · intro hl
    rcases listed_set hl with e | e
    · cases e
    · exact ⟨getD_set_keep (h.ord e).1, getD_set_keep (h.ord e).2⟩
  · intro hl
    rcases listed_set hl with e | e
    · cases e
    · exact getD_set_keep (h.ore e)
theorem GInv.s1 {v : Cel.V} {w3 : World} {bx : Nat} {AG : Value} {a0 : Act} {listed : Array Bool} {a : Act} {w : World} (h : GInv v w3 bx AG a0 listed a w) (hs : a0.tmps.size = 119) {w' : World} (hb : Below w.heap.size w w') (hnot : ¬ listed.getD 1 false = true) {A : Option Addr} {c : Nat} {B : Option Addr} {d : Nat} (o1 : w'.ownsRow w3.heap.size 2 1 (.slice A v.nums.length c) v.nums.length (v.nums.map I64)) (o2 : w'.ownsRow w3.heap.size 9 1 (.slice B v.texts.length d) v.texts.length (v.texts.map ST)) :
    GInv v w3 bx AG a0 (listed.setIfInBounds 1 true) (a.put (some 41) (.agg (VC v A c B d))) w' := by
  have hz : a.tmps.size = 119 := h.agree.size.trans hs
  refine ⟨h.agree.put (by simp) _, h.bel.trans (hb.mono h.bel.size), ?_, ?_, ?_, ?_, ?_, ?_, ?_, ?_, ?_, ?_⟩
  · intro hl
    rcases listed_set hl with e | e
    · cases e
    · rw [put_other _ (by decide)]
      exact h.f40 e
  · intro _
    exact ⟨A, c, B, d, put_same _ (by omega), o1, o2⟩
  · intro hl
    rcases listed_set hl with e | e
    · cases e
    · rw [put_other _ (by decide)]
      exact h.f42 e
  · intro hl
    rcases listed_set hl with e | e
    · cases e
    · rw [put_other _ (by decide)]
      exact h.f43 e
  · intro hl
    rcases listed_set hl with e | e
    · cases e
    · rw [put_other _ (by decide)]
      exact h.f44 e
  · intro hl
    rcases listed_set hl with e | e
    · cases e
    · obtain ⟨b, cs, e1, e2, k, e3, e4⟩ := h.f7 e
      refine ⟨b, cs, ?_, e2, ?_, e3, fun hq => ?_⟩
      · rw [put_other _ (by decide)]; exact e1
      · exact k.below hb k.lt
      · rcases listed_set hq with e' | e'
        · cases e'
        · exact absurd (h.ord e').2 hnot
  · intro hl
    rcases listed_set hl with e | e
    · cases e
    · obtain ⟨b, cs, e1, e2, k, e3, e4⟩ := h.f8 e
      refine ⟨b, cs, ?_, e2, ?_, e3, fun hq => ?_⟩
      · rw [put_other _ (by decide)]; exact e1
      · exact k.below hb k.lt
      · rcases listed_set hq with e' | e'
        · cases e'
        · exact e4 e'
  · intro h5 h6
    rcases listed_set h5 with e | e
    · cases e
    · rcases listed_set h6 with e' | e'
      · cases e'
      · rw [put_other _ (by decide), put_other _ (by decide)]; exact h.ne e e'
  · intro hl
    rcases listed_set hl with e | e
    · cases e
    · exact ⟨getD_set_keep (h.ord e).1, getD_set_keep (h.ord e).2⟩
  · intro hl
    rcases listed_set hl with e | e
    · cases e
    · exact getD_set_keep (h.ore e)
theorem GInv.s5 {v : Cel.V} {w3 : World} {bx : Nat} {AG : Value} {a0 : Act} {listed : Array Bool} {a : Act} {w : World} (h : GInv v w3 bx AG a0 listed a w) (hs : a0.tmps.size = 119) (hnot : ¬ listed.getD 5 false = true) :
    GInv v w3 bx AG a0 (listed.setIfInBounds 5 true) (a.put (some 7) (.pointer (some ⟨w.heap.size, 0, none⟩))) (w.alloc (.cells #[.int .i64 0, .int .i64 0, .string ⟨#[]⟩, .slice none 0 0, .slice none 0 0] 25)) := by
  have hz : a.tmps.size = 119 := h.agree.size.trans hs
  refine ⟨h.agree.put (by simp) _, h.bel.alloc h.bel.size _, ?_, ?_, ?_, ?_, ?_, ?_, ?_, ?_, ?_, ?_⟩
  · intro hl
    rcases listed_set hl with e | e
    · cases e
    · rw [put_other _ (by decide)]
      exact h.f40 e
  · intro hl
    rcases listed_set hl with e | e
    · cases e
    · obtain ⟨A, c, B, d, e1, o1, o2⟩ := h.f41 e
      refine ⟨A, c, B, d, ?_, World.ownsRow.alloc o1 _, World.ownsRow.alloc o2 _⟩
      rw [put_other _ (by decide)]
      exact e1
  · intro hl
    rcases listed_set hl with e | e
    · cases e
    · rw [put_other _ (by decide)]
      exact h.f42 e
  · intro hl
    rcases listed_set hl with e | e
    · cases e
    · rw [put_other _ (by decide)]
      exact h.f43 e
  · intro hl
    rcases listed_set hl with e | e
    · cases e
    · rw [put_other _ (by decide)]
      exact h.f44 e
  · intro _
    refine ⟨w.heap.size, _, put_same _ (by omega), h.bel.size, Blk.new _ _ _, rfl, fun hq => ?_⟩
    rcases listed_set hq with e' | e'
    · cases e'
    · exact absurd (h.ord e').1 hnot
  · intro hl
    rcases listed_set hl with e | e
    · cases e
    · obtain ⟨b, cs, e1, e2, k, e3, e4⟩ := h.f8 e
      refine ⟨b, cs, ?_, e2, ?_, e3, fun hq => ?_⟩
      · rw [put_other _ (by decide)]; exact e1
      · exact k.alloc _
      · rcases listed_set hq with e' | e'
        · cases e'
        · exact e4 e'
  · intro _ h6
    rcases listed_set h6 with e' | e'
    · cases e'
    · obtain ⟨b, cs, e1, e2, k, e3, e4⟩ := h.f8 e'
      rw [put_same _ (by omega), put_other _ (by decide), e1]
      intro e
      have hk := k.lt
      injection e with e
      injection e with e
      injection e with e
      omega
  · intro hl
    rcases listed_set hl with e | e
    · cases e
    · exact ⟨getD_set_keep (h.ord e).1, getD_set_keep (h.ord e).2⟩
  · intro hl
    rcases listed_set hl with e | e
    · cases e
    · exact getD_set_keep (h.ore e)
theorem GInv.s6 {v : Cel.V} {w3 : World} {bx : Nat} {AG : Value} {a0 : Act} {listed : Array Bool} {a : Act} {w : World} (h : GInv v w3 bx AG a0 listed a w) (hs : a0.tmps.size = 119) (hnot : ¬ listed.getD 6 false = true) :
    GInv v w3 bx AG a0 (listed.setIfInBounds 6 true) (a.put (some 8) (.pointer (some ⟨w.heap.size, 0, none⟩))) (w.alloc (.cells #[.int .i64 0, .int .i64 0, .string ⟨#[]⟩, .slice none 0 0, .slice none 0 0] 25)) := by
  have hz : a.tmps.size = 119 := h.agree.size.trans hs
  refine ⟨h.agree.put (by simp) _, h.bel.alloc h.bel.size _, ?_, ?_, ?_, ?_, ?_, ?_, ?_, ?_, ?_, ?_⟩
  · intro hl
    rcases listed_set hl with e | e
    · cases e
    · rw [put_other _ (by decide)]
      exact h.f40 e
  · intro hl
    rcases listed_set hl with e | e
    · cases e
    · obtain ⟨A, c, B, d, e1, o1, o2⟩ := h.f41 e
      refine ⟨A, c, B, d, ?_, World.ownsRow.alloc o1 _, World.ownsRow.alloc o2 _⟩
      rw [put_other _ (by decide)]
      exact e1
  · intro hl
    rcases listed_set hl with e | e
    · cases e
    · rw [put_other _ (by decide)]
      exact h.f42 e
  · intro hl
    rcases listed_set hl with e | e
    · cases e
    · rw [put_other _ (by decide)]
      exact h.f43 e
  · intro hl
    rcases listed_set hl with e | e
    · cases e
    · rw [put_other _ (by decide)]
      exact h.f44 e
  · intro hl
    rcases listed_set hl with e | e
    · cases e
    · obtain ⟨b, cs, e1, e2, k, e3, e4⟩ := h.f7 e
      refine ⟨b, cs, ?_, e2, ?_, e3, fun hq => ?_⟩
      · rw [put_other _ (by decide)]; exact e1
      · exact k.alloc _
      · rcases listed_set hq with e' | e'
        · cases e'
        · rw [put_other _ (by decide)]; exact e4 e'
  · intro _
    refine ⟨w.heap.size, _, put_same _ (by omega), h.bel.size, Blk.new _ _ _, rfl, fun hq => ?_⟩
    rcases listed_set hq with e' | e'
    · cases e'
    · exact absurd (h.ore e') hnot
  · intro h5 _
    rcases listed_set h5 with e' | e'
    · cases e'
    · obtain ⟨b, cs, e1, e2, k, e3, e4⟩ := h.f7 e'
      rw [put_same _ (by omega), put_other _ (by decide), e1]
      intro e
      have hk := k.lt
      injection e with e
      injection e with e
      injection e with e
      omega
  · intro hl
    rcases listed_set hl with e | e
    · cases e
    · exact ⟨getD_set_keep (h.ord e).1, getD_set_keep (h.ord e).2⟩
  · intro hl
    rcases listed_set hl with e | e
    · cases e
    · exact getD_set_keep (h.ore e)
theorem GInv.s7 {v : Cel.V} {w3 : World} {bx : Nat} {AG : Value} {a0 : Act} {listed : Array Bool} {a : Act} {w : World} (h : GInv v w3 bx AG a0 listed a w) (hs : a0.tmps.size = 119) (hd5 : listed.getD 5 false = true) (hd1 : listed.getD 1 false = true) {b0 : Nat} {cs cs' : Array Value} (hp : a.tmps.getD 7 undef = .pointer (some ⟨b0, 0, none⟩)) (hb0 : w3.heap.size ≤ b0) (hk0 : Blk w b0 25 cs) (hv : a.tmps.getD 41 undef = .agg cs') (hc : cs'.size = 5) :
    GInv v w3 bx AG a0 (listed.setIfInBounds 7 true) (a.put none undef) (w.setRow b0 cs') := by
  have hz : a.tmps.size = 119 := h.agree.size.trans hs
  refine ⟨h.agree, below_set_row h.bel hb0, ?_, ?_, ?_, ?_, ?_, ?_, ?_, ?_, ?_, ?_⟩
  · intro hl
    rcases listed_set hl with e | e
    · cases e
    · exact h.f40 e
  · intro hl
    rcases listed_set hl with e | e
    · cases e
    · obtain ⟨A, c, B, d, e1, o1, o2⟩ := h.f41 e
      refine ⟨A, c, B, d, ?_, own_set_row o1 hk0 (by decide), own_set_row o2 hk0 (by decide)⟩
      exact e1
  · intro hl
    rcases listed_set hl with e | e
    · cases e
    · exact h.f42 e
  · intro hl
    rcases listed_set hl with e | e
    · cases e
    · exact h.f43 e
  · intro hl
    rcases listed_set hl with e | e
    · cases e
    · exact h.f44 e
  · intro _
    exact ⟨b0, cs', hp, hb0, setRow_heap w b0 cs cs' _ _ hk0, hc, fun _ => hv⟩
  · intro hl
    rcases listed_set hl with e | e
    · cases e
    · obtain ⟨b, cs, e1, e2, k, e3, e4⟩ := h.f8 e
      refine ⟨b, cs, ?_, e2, ?_, e3, fun hq => ?_⟩
      · exact e1
      · (have hne := h.ne hd5 e; rw [hp, e1] at hne; exact Blk.grown k (row := some b0) ⟨rfl, rfl, rfl, by simp, fun x _ hk => setRow_other w b0 x _ (fun e => hk (by rw [e]))⟩ (fun e => hne (by injection e with e; rw [e])))
      · rcases listed_set hq with e' | e'
        · cases e'
        · exact e4 e'
  · intro h5 h6
    rcases listed_set h5 with e | e
    · cases e
    · rcases listed_set h6 with e' | e'
      · cases e'
      · exact h.ne e e'
  · intro _
    exact ⟨by rw [getD_set_other (by decide)]; exact hd5, by rw [getD_set_other (by decide)]; exact hd1⟩
  · intro hl
    rcases listed_set hl with e | e
    · cases e
    · exact getD_set_keep (h.ore e)
theorem GInv.s8 {v : Cel.V} {w3 : World} {bx : Nat} {AG : Value} {a0 : Act} {listed : Array Bool} {a : Act} {w : World} (h : GInv v w3 bx AG a0 listed a w) (hs : a0.tmps.size = 119) (hd6 : listed.getD 6 false = true) {b0 : Nat} {cs cs' : Array Value} (hp : a.tmps.getD 8 undef = .pointer (some ⟨b0, 0, none⟩)) (hb0 : w3.heap.size ≤ b0) (hk0 : Blk w b0 25 cs) (hv : cs' = VZ v.kind) :
    GInv v w3 bx AG a0 (listed.setIfInBounds 8 true) (a.put none undef) (w.setRow b0 cs') := by
  have hz : a.tmps.size = 119 := h.agree.size.trans hs
  refine ⟨h.agree, below_set_row h.bel hb0, ?_, ?_, ?_, ?_, ?_, ?_, ?_, ?_, ?_, ?_⟩
  · intro hl
    rcases listed_set hl with e | e
    · cases e
    · exact h.f40 e
  · intro hl
    rcases listed_set hl with e | e
    · cases e
    · obtain ⟨A, c, B, d, e1, o1, o2⟩ := h.f41 e
      refine ⟨A, c, B, d, ?_, own_set_row o1 hk0 (by decide), own_set_row o2 hk0 (by decide)⟩
      exact e1
  · intro hl
    rcases listed_set hl with e | e
    · cases e
    · exact h.f42 e
  · intro hl
    rcases listed_set hl with e | e
    · cases e
    · exact h.f43 e
  · intro hl
    rcases listed_set hl with e | e
    · cases e
    · exact h.f44 e
  · intro hl
    rcases listed_set hl with e | e
    · cases e
    · obtain ⟨b, cs, e1, e2, k, e3, e4⟩ := h.f7 e
      refine ⟨b, cs, ?_, e2, ?_, e3, fun hq => ?_⟩
      · exact e1
      · (have hne := h.ne e hd6; rw [e1, hp] at hne; exact Blk.grown k (row := some b0) ⟨rfl, rfl, rfl, by simp, fun x _ hk => setRow_other w b0 x _ (fun e => hk (by rw [e]))⟩ (fun e => hne (by injection e with e; rw [e])))
      · rcases listed_set hq with e' | e'
        · cases e'
        · exact e4 e'
  · intro _
    exact ⟨b0, cs', hp, hb0, setRow_heap w b0 cs cs' _ _ hk0, by rw [hv]; rfl, fun _ => hv⟩
  · intro h5 h6
    rcases listed_set h5 with e | e
    · cases e
    · rcases listed_set h6 with e' | e'
      · cases e'
      · exact h.ne e e'
  · intro hl
    rcases listed_set hl with e | e
    · cases e
    · exact ⟨getD_set_keep (h.ord e).1, getD_set_keep (h.ord e).2⟩
  · intro _
    rw [getD_set_other (by decide)]
    exact hd6
/-- behind the making of the copy and of the one element's value -/
structure GrowMade (v : Cel.V) (w3 : World) (b7 b8 : Nat) (A : Option Addr) (c : Nat) (B : Option Addr) (d : Nat) (wx : World) : Prop where
  lo7 : w3.heap.size ≤ b7
  lo8 : w3.heap.size ≤ b8
  ne : b7 ≠ b8
  box7 : Blk wx b7 25 #[.int .i64 v.kind, .int .i64 v.num, .string ⟨v.text.toArray⟩, .slice A v.nums.length c, .slice B v.texts.length d]
  box8 : Blk wx b8 25 (VZ v.kind)
  own1 : wx.ownsRow w3.heap.size 2 1 (.slice A v.nums.length c) v.nums.length (v.nums.map I64)
  own2 : wx.ownsRow w3.heap.size 9 1 (.slice B v.texts.length d) v.texts.length (v.texts.map ST)
  bel : Below w3.heap.size w3 wx

theorem own_set_far {w : World} {B e sz n b : Nat} {v : Value} {xs : List Value} {cs : Array Value} {t : TypeId} (h : w.ownsRow B e sz v n xs) (hb : Blk w b t cs) (hne : t ≠ e) (i : Nat) (u : Value) : (w.setCell ⟨b, i, none⟩ u).ownsRow B e sz v n xs :=
  own_kept_ty h (row := some b) (only_setCell (only_refl w _) (.inl rfl) u) (fun g' c t' fz e1 e2 => by
    cases e1
    have := hb.symm.trans e2
    injection this with this
    injection this with _ ht
    exact ht ▸ hne)
theorem bel_next' {a b w : World} (h : Below a.heap.size a b) (k : Below b.heap.size b w) : Below a.heap.size a w := h.trans (k.mono h.size)
/-- behind the two appends -/
structure GrowTwo (v : Cel.V) (bx : Nat) (w3 : World) (b7 b8 : Nat) (wc wx : World) : Prop where
  ex : ∃ v1 o1 : Cel.V, Cel.check v1 = Cel.check o1 ∧ Cel.print v1 = Cel.print v ++ (Cel.print o1).drop 4 ∧ 4 < (Cel.print o1).length ∧
    (∃ cs, Blk wx b7 25 cs ∧ VIn wx wx.heap.size (.agg cs) v1) ∧ (∃ cs, Blk wx b8 25 cs ∧ VIn wx wx.heap.size (.agg cs) o1)
  bel : Below w3.heap.size w3 wx

set_option maxHeartbeats 16000000 in
set_option maxRecDepth 100000 in
theorem cellGrows_any (u : Value) (v : Cel.V) (more : Int) (text : ByteArray) (w : World) (h : VIn w w.heap.size u v) (hm : -9223372036854775808 ≤ more ∧ more ≤ 9223372036854775807) (ht : text.size ≤ 1048576) (hL : Laid w) :
    Calls Tryz.prog 3 #[u, .int .i64 more, .string text] w fun e w' => e = .returned (.bool true) ∧ Below w.heap.size w w' := by
  have hch := fun (W : World) (hb : Below w.heap.size w W) => vCheck_any w.heap.size u v W (h.below hb) hb.size
  have hcp := fun (W : World) (hb : Below w.heap.size w W) => vCopy_any w.heap.size u v W (h.below hb) hb.size
  have hok := h.ok
  obtain ⟨A1, c1, A2, c2, rfl, -, -⟩ := h.ex
  obtain ⟨W1, hW1⟩ : ∃ W1, w.alloc (.cells #[.int .i64 v.kind, .int .i64 v.num, .string ⟨v.text.toArray⟩, .slice A1 v.nums.length c1, .slice A2 v.texts.length c2] 25) = W1 := ⟨_, rfl⟩
  have hb1 : Below w.heap.size w W1 := by rw [← hW1]; exact (Below.refl _ w).alloc (Nat.le_refl _) _
  have k1 : Blk W1 w.heap.size 25 #[.int .i64 v.kind, .int .i64 v.num, .string ⟨v.text.toArray⟩, .slice A1 v.nums.length c1, .slice A2 v.texts.length c2] := by rw [← hW1]; exact Blk.new _ _ _
  obtain ⟨n, hn⟩ : ∃ n, Cel.check v = n := ⟨_, rfl⟩
  have HS := Lib.hid (celSpeaks_any W1 (hL.below hb1))
  have HCH := Lib.hid hch
  have HCP := Lib.hid hcp
  have HOK := Lib.hid hok
  have HB1 := Lib.hid hb1
  have HK1 := Lib.hid k1
  have HW1 := Lib.hid hW1
  have HN := Lib.hid hn
  have HL := Lib.hid hL
  have hki := hok.kin
  unfold Cel.In64 at hki
  have hu := undef_no
  clear hch hcp hok hb1 k1 hW1 hL h hn
  go_enter Tryz.func3, Tryz.ntmps3
  go_upto_region 1 with fail
  rw [HW1.out]
  clear HW1
  go_wp2_with fail
  refine HS.out.mono ?_
  rintro e w2 ⟨rfl, hb⟩
  have HB2 := Lib.hid (HB1.out.trans (hb.mono HB1.out.size))
  have HK2 := Lib.hid (HK1.out.below hb HK1.out.lt)
  clear hb
  obtain ⟨a0, a1, a2, a3, a4, -⟩ := val_cells HK2.out
  by_cases h5 : v.kind < 5
  · have t5 : decide (v.kind < 5) = true := decide_eq_true h5
    clear HCH HCP
    go_wp2
    go_ret
    exact ⟨rfl, HB2.out⟩
  have t5 : decide (v.kind < 5) = false := decide_eq_false h5
  by_cases h8 : 8 < v.kind
  · have t8 : decide (8 < v.kind) = true := decide_eq_true h8
    clear HCH HCP
    go_wp2
    go_ret
    exact ⟨rfl, HB2.out⟩
  have t8 : decide (8 < v.kind) = false := decide_eq_false h8
  have h5i : 5 ≤ v.kind := by omega
  have h8i : v.kind ≤ 8 := by omega
  have hch := HCH.out _ HB2.out
  rw [HN.out] at hch
  have HC := Lib.hid hch
  clear hch HCH
  go_wp2_with fail
  refine HC.out.mono ?_
  rintro e w3 ⟨rfl, hb⟩
  have HB3 := Lib.hid (HB2.out.trans (hb.mono HB2.out.size))
  have HK3 := Lib.hid (HK2.out.below hb HK2.out.lt)
  clear hb a0 a1 a2 a3 a4 HC
  obtain ⟨a0, a1, a2, a3, a4, -⟩ := val_cells HK3.out
  by_cases h0 : n = 0
  case neg =>
    have t9 : ((n : Int) != 0) = true := by rw [bne_iff_ne]; omega
    clear HCP h0
    go_wp2
    go_ret
    exact ⟨rfl, HB3.out⟩
  subst h0
  obtain ⟨-, -, -, hn40, ht40, -, -, -⟩ := Cel.check_parts HN.out
  by_cases h40 : 40 ≤ v.nums.length + v.texts.length
  · have t9 : decide ((40 : Int) ≤ (v.nums.length : Int) + (v.texts.length : Int)) = true := decide_eq_true (by omega)
    have t9i : (40 : Int) ≤ (v.nums.length : Int) + (v.texts.length : Int) := by omega
    clear HCP h40
    go_wp2
    go_ret
    exact ⟨rfl, HB3.out⟩
  have t9 : decide ((40 : Int) ≤ (v.nums.length : Int) + (v.texts.length : Int)) = false := decide_eq_false (by omega)
  have t9i : (v.nums.length : Int) + (v.texts.length : Int) < 40 := by omega
  clear h5 h8
  go_upto_region 5 with fail
  go_cut [7, 8] (fun s7 s8 wx => ∃ b7 b8 A c B d, s7 = .pointer (some ⟨b7, 0, none⟩) ∧ s8 = .pointer (some ⟨b8, 0, none⟩) ∧ GrowMade v w3 b7 b8 A c B d wx)
  case first =>
    rename_i J K0 hJ hK
    have hw3 : w.heap.size < w3.heap.size := HK3.out.lt
    clear a0 a1 a2 a3 a4
    refine wp_region_inv_at (by kernel_rfl) (GInv v w3 w.heap.size (.agg #[.int .i64 v.kind, .int .i64 v.num, .string ⟨v.text.toArray⟩, .slice A1 v.nums.length c1, .slice A2 v.texts.length c2])) ?_ ?_ ?_
    · refine ⟨Agree.refl _ _, below_drewN (Below.refl _ _) 1, ?_, ?_, ?_, ?_, ?_, ?_, ?_, ?_, ?_, ?_⟩
      all_goals
        intro hq
        first | (cases hq; done) | (intro hq2; cases hq; done)
    · intro listed a wx i hsz hI hr
      have hi : i < 9 := List.mem_range.1 (List.mem_filter.1 hr).1
      have e3 : a.eval (.tmp 3) = .pointer (some ⟨w.heap.size, 0, none⟩) := hI.agree.same 3 (by decide)
      have hbx : Blk wx w.heap.size 25 #[.int .i64 v.kind, .int .i64 v.num, .string ⟨v.text.toArray⟩, .slice A1 v.nums.length c1, .slice A2 v.texts.length c2] := HK3.out.below hI.bel hw3
      obtain rfl | rfl | rfl | rfl | rfl | rfl | rfl | rfl | rfl : i = 0 ∨ i = 1 ∨ i = 2 ∨ i = 3 ∨ i = 4 ∨ i = 5 ∨ i = 6 ∨ i = 7 ∨ i = 8 := by omega
      all_goals
        obtain ⟨hl, hdep⟩ := ready_dep hr (o := _) rfl
        refine wpOp_plain (o := _) rfl rfl (fun K' hK' => ?_)
      · exact wp_load_row 25 (.tmp 3) rfl w.heap.size e3 _ _ _ _ hbx Tryz.underlying25 rfl (by kernel_rfl) (hK' _ _ (hI.s0 rfl))
      · have d0 := hdep ⟨0, .data⟩ (by simp) rfl
        refine op_call1 (v := _) rfl (hI.f40 d0) ?_
        have hcp := HCP.out wx (HB3.out.trans (hI.bel.mono HB3.out.size))
        refine hcp.mono ?_
        rintro e w' ⟨u', rfl, ho, hb'⟩
        obtain ⟨s, q, rfl, o1, o2⟩ := ho.ex
        obtain ⟨A, c, rfl⟩ := own_form o1
        obtain ⟨B, d, rfl⟩ := own_form o2
        exact ⟨_, rfl, hK' _ _ (hI.s1 rfl hb' (not_listed hl) (own_base o1 hI.bel.size) (own_base o2 hI.bel.size))⟩
      · exact op_field rfl e3 (hK' _ _ (hI.s2 rfl))
      · have d0 := hdep ⟨2, .data⟩ (by simp) rfl
        have c0 : wx.cell? ⟨w.heap.size, 0, none⟩ = some (.int .i64 v.kind) := hbx.cell 0
        exact op_load_int rfl (hI.f42 d0) c0 (hK' _ _ (hI.s3 rfl))
      · have d0 := hdep ⟨3, .data⟩ (by simp) rfl
        have e43 : a.eval (.tmp 43) = _ := hI.f43 d0
        refine wp_build 25 _ rfl ?_ ?_
        · simp only [List.map_toArray, List.map_cons, List.map_nil, e43]
          kernel_rfl
        · simp only [List.map_toArray, List.map_cons, List.map_nil, e43]
          exact hK' _ _ (hI.s4 rfl)
      · exact op_alloc_V rfl (hK' _ _ (hI.s5 rfl (not_listed hl)))
      · exact op_alloc_V rfl (hK' _ _ (hI.s6 rfl (not_listed hl)))
      · have d5 := hdep ⟨5, .data⟩ (by simp) rfl
        have d1 := hdep ⟨1, .data⟩ (by simp) rfl
        obtain ⟨b, cs, p1, p2, p3, p4, -⟩ := hI.f7 d5
        obtain ⟨A, c, B, d, p5, -, -⟩ := hI.f41 d1
        exact op_store_V rfl p1 p5 p3 p4 rfl (by simp [VC, Value.oneCell']) (hK' _ _ (hI.s7 rfl d5 d1 p1 p2 p3 p5 rfl))
      · have d6 := hdep ⟨6, .data⟩ (by simp) rfl
        have d4 := hdep ⟨4, .data⟩ (by simp) rfl
        obtain ⟨b, cs, p1, p2, p3, p4, -⟩ := hI.f8 d6
        exact op_store_V rfl p1 (hI.f44 d4) p3 p4 rfl (by simp [VZ, Value.oneCell']) (hK' _ _ (hI.s8 rfl d6 p1 p2 p3 rfl))
    · intro listed a wx hsz hI hr
      have l0 := all_listed hr hsz (i := 0) (o := _) rfl (by simp [Region.binds])
      have m0 : listed[0]?.getD false = true := by simpa only [Array.getD_eq_getD_getElem?] using l0
      have l5 := all_listed hr hsz (i := 5) (o := _) rfl (by simp [Region.binds, m0])
      have m5 : listed[5]?.getD false = true := by simpa only [Array.getD_eq_getD_getElem?] using l5
      have l6 := all_listed hr hsz (i := 6) (o := _) rfl (by simp [Region.binds, m0, m5])
      have m6 : listed[6]?.getD false = true := by simpa only [Array.getD_eq_getD_getElem?] using l6
      have l1 := all_listed hr hsz (i := 1) (o := _) rfl (by simp [Region.binds, m0, m5, m6])
      have m1 : listed[1]?.getD false = true := by simpa only [Array.getD_eq_getD_getElem?] using l1
      have l2 := all_listed hr hsz (i := 2) (o := _) rfl (by simp [Region.binds, m0, m5, m6, m1])
      have m2 : listed[2]?.getD false = true := by simpa only [Array.getD_eq_getD_getElem?] using l2
      have l3 := all_listed hr hsz (i := 3) (o := _) rfl (by simp [Region.binds, m0, m5, m6, m1, m2])
      have m3 : listed[3]?.getD false = true := by simpa only [Array.getD_eq_getD_getElem?] using l3
      have l4 := all_listed hr hsz (i := 4) (o := _) rfl (by simp [Region.binds, m0, m5, m6, m1, m2, m3])
      have m4 : listed[4]?.getD false = true := by simpa only [Array.getD_eq_getD_getElem?] using l4
      have l7 := all_listed hr hsz (i := 7) (o := _) rfl (by simp [Region.binds, m0, m5, m6, m1, m2, m3, m4])
      have m7 : listed[7]?.getD false = true := by simpa only [Array.getD_eq_getD_getElem?] using l7
      have l8 := all_listed hr hsz (i := 8) (o := _) rfl (by simp [Region.binds, m0, m5, m6, m1, m2, m3, m4, m7])
      have m8 : listed[8]?.getD false = true := by simpa only [Array.getD_eq_getD_getElem?] using l8
      obtain ⟨A, c, B, d, e41, o1, o2⟩ := hI.f41 l1
      obtain ⟨b7, cs7, e7, p7, k7, -, q7⟩ := hI.f7 l5
      obtain ⟨b8, cs8, e8, p8, k8, -, q8⟩ := hI.f8 l6
      have hne := hI.ne l5 l6
      have h41 := q7 l7
      rw [e41] at h41
      injection h41 with h41
      have h8 := q8 l8
      subst h41 h8
      have hbk := hI.agree.back
      rw [e7, e8] at hne
      simp only [List.foldl_cons, List.foldl_nil, hI.f40 l0, e41, hI.f42 l2, hI.f43 l3, hI.f44 l4, e7, e8] at hbk
      simp only [List.setIfInBounds_toArray, List.set_cons_succ, List.set_cons_zero] at hbk
      refine hK _ _ (Met.intro (hJ _ _ ?_))
      rw [hbk]
      repeat apply Exists.intro
      refine ⟨⟨b7, b8, A, c, B, d, rfl, rfl, p7, p8, fun e => hne (by rw [e]), k7, k8, o1, o2, hI.bel⟩, rfl⟩
  case rest =>
    obtain ⟨b7, b8, A, c, B, d, rfl, rfl, hG⟩ := hcut
    have HG := Lib.hid hG
    have HKC := Lib.hid (HK3.out.below hG.bel HK3.out.lt)
    have HBC := Lib.hid (HB3.out.trans (hG.bel.mono HB3.out.size))
    have H40 := Lib.hid t9i
    clear hG hu a0 a1 a2 a3 a4 t9 t9i h40
    obtain ⟨a0, a1, a2, a3, a4, -⟩ := val_cells HKC.out
    go_upto_if 47 with fail
    go_cut [7] (fun s7 wx => s7 = .pointer (some ⟨b7, 0, none⟩) ∧ GrowTwo v w.heap.size w3 b7 b8 wc wx)
    case first =>
      obtain ⟨p0, p1, p2, p3, p4, -, -, -, f3, f4⟩ := val_cells HG.out.box7
      by_cases hk : v.kind = 8
      · have tk : (v.kind == 8) = true := beq_iff_eq.2 hk
        have HKD := Lib.hid hk
        clear hk
        have h7 := HG.out.box7
        have h8 := HG.out.box8
        have ho1 := HG.out.own1
        have ho2 := HG.out.own2
        have hbg := HG.out.bel.size
        have hnl2 : v.texts.length < 1073741824 := by omega
        obtain ⟨q0, q1, q2, q3, q4, -, -, -, g3, g4⟩ := val_cells (h7.alloc (.cells #[.string text] 9))
        go_wp2_with (at_builtin; refine wpList_append_one rfl (.tmp 49) (.tmp 51) 23 9 (.string ⟨#[]⟩) 16 Tryz.underlying23 info_str rfl (by decide) rfl w3.heap.size (.slice B v.texts.length d) v.texts.length _ wc rfl HG.out.own2 (.string text) rfl rfl hnl2 hbg ?_)
        intro v9 w9 hown9 hgr9 hwh9 hb9
        obtain ⟨A9, c9, rfl⟩ := own_form hown9
        have k7 := h7.grown hgr9 (fun e => own_blk_ne HG.out.own2 h7 (by decide) e.symm)
        have k8 := h8.grown hgr9 (fun e => own_blk_ne HG.out.own2 h8 (by decide) e.symm)
        have o1' := own_kept_ty ho1 hgr9 (fun g c t fz e1 e2 => by
          obtain ⟨-, cc, e3⟩ := own_blocks HG.out.own2 g e1
          rw [e3] at e2; cases e2; decide)
        clear q0 q1 q2 q3 q4 g3 g4
        obtain ⟨q0, q1, q2, q3, q4, -, -, -, g3, g4⟩ := val_cells k7
        have hb5 : Below w3.heap.size w3 w9 := HG.out.bel.trans hb9
        obtain ⟨W5, hW5⟩ : ∃ W5, w9.setCell ⟨b7, 4, none⟩ (.slice A9 (v.texts.length + 1) c9) = W5 := ⟨_, rfl⟩
        have m7 := k7.set_ 4 (.slice A9 (v.texts.length + 1) c9)
        have m8 := k8.far (p := ⟨b7, 4, none⟩) (fun e => HG.out.ne e.symm) (.slice A9 (v.texts.length + 1) c9)
        have m1 := own_set_far o1' k7 (by decide) 4 (.slice A9 (v.texts.length + 1) c9)
        have m2 := own_set_far hown9 k7 (by decide) 4 (.slice A9 (v.texts.length + 1) c9)
        have hb6 := hb5.setCell (p := ⟨b7, 4, none⟩) HG.out.lo7 (.slice A9 (v.texts.length + 1) c9)
        rw [hW5] at m7 m8 m1 m2 hb6
        have HW5 := Lib.hid hW5
        have M7 := Lib.hid m7
        have M8 := Lib.hid m8
        have M1 := Lib.hid m1
        have M2 := Lib.hid m2
        have HB6 := Lib.hid hb6
        clear hW5 m7 m8 m1 m2 hb6 hb5 hown9 hgr9 hwh9 hb9 k7 k8 o1' h7 h8 ho1 ho2
        go_upto_region 8 with fail
        rw [HW5.out]
        clear q0 q1 q2 q3 q4 g3 g4 HW5
        obtain ⟨q0, q1, q2, q3, q4, -, -, -, g3, g4⟩ := val_cells (M8.out.alloc (.cells #[.string text] 9))
        go_wp2_with fail
        have hne := HG.out.ne
        have n8 := (M8.out.alloc (.cells #[.string text] 9)).set_ 4 (.slice (some ⟨W5.heap.size, 0, none⟩) 1 1)
        have n7 := (M7.out.alloc (.cells #[.string text] 9)).far (p := ⟨b8, 4, none⟩) hne (.slice (some ⟨W5.heap.size, 0, none⟩) 1 1)
        have r1 := own_set_far (M1.out.alloc (.cells #[.string text] 9)) (M8.out.alloc (.cells #[.string text] 9)) (by decide) 4 (.slice (some ⟨W5.heap.size, 0, none⟩) 1 1)
        have r2 := own_set_far (M2.out.alloc (.cells #[.string text] 9)) (M8.out.alloc (.cells #[.string text] 9)) (by decide) 4 (.slice (some ⟨W5.heap.size, 0, none⟩) 1 1)
        have hl8 := M8.out.lt
        have nn := (Blk.new W5 9 #[.string text]).far (p := ⟨b8, 4, none⟩) (by show W5.heap.size ≠ b8; omega) (.slice (some ⟨W5.heap.size, 0, none⟩) 1 1)
        have hbf := (HB6.out.alloc HB6.out.size (.cells #[.string text] 9)).setCell (p := ⟨b8, 4, none⟩) HG.out.lo8 (.slice (some ⟨W5.heap.size, 0, none⟩) 1 1)
        have hokk := HOK.out
        obtain ⟨g1, g2, g3⟩ := grow_text (k := v.kind) (n := v.num) (t := v.text) (ns := v.nums) (ts := v.texts) text.data.toList HN.out HKD.out (by have := H40.out; omega)
        have htl : text.data.toList.length ≤ 1073741824 := by rw [← Lib.size_eq]; omega
        have hres : GrowTwo v w.heap.size w3 b7 b8 wc _ := ⟨⟨⟨v.kind, v.num, v.text, v.nums, v.texts ++ [text.data.toList]⟩, ⟨v.kind, 0, [], [], [text.data.toList]⟩, g1, g2, g3, ⟨#[.int .i64 v.kind, .int .i64 v.num, .string ⟨v.text.toArray⟩, .slice A v.nums.length c, .slice A9 (v.texts.length + 1) c9], Blk.cast n7 (by simp), ⟨⟨A, c, A9, c9, by simp, Reads.of_own r1, by have h := Reads.of_own r2; rw [List.map_append, List.length_append]; exact h⟩, hokk.kin, hokk.num, hokk.nums, hokk.tl, hokk.nl, by simp; omega, fun t ht => by rcases List.mem_append.1 ht with h | h; exact hokk.sz t h; rw [List.mem_singleton.1 h]; exact htl⟩⟩, ⟨#[.int .i64 v.kind, .int .i64 0, .string ⟨#[]⟩, .slice none 0 0, .slice (some ⟨W5.heap.size, 0, none⟩) 1 1], Blk.cast n8 (by simp [VZ]), ⟨⟨none, 0, some ⟨W5.heap.size, 0, none⟩, 1, rfl, Reads.none_, Reads.of_blk nn nn.lt rfl⟩, hokk.kin, ⟨by show (-9223372036854775808 : Int) ≤ 0; decide, by show (0 : Int) ≤ 9223372036854775807; decide⟩, by simp, by simp, by simp, by simp, fun t ht => by rw [List.mem_singleton.1 ht]; exact htl⟩⟩⟩, hbf⟩
        have HRES := Lib.hid hres
        clear hres n8 n7 r1 r2 hl8 nn hbf hokk g1 g2 q0 q1 q2 q3 q4
        go_meet
        exact ⟨rfl, HRES.out⟩
      · have tk : (v.kind == 8) = false := beq_eq_false_iff_ne.2 hk
        have HKD := Lib.hid hk
        clear hk
        have h7 := HG.out.box7
        have h8 := HG.out.box8
        have ho1 := HG.out.own1
        have ho2 := HG.out.own2
        have hbg := HG.out.bel.size
        have hnl2 : v.nums.length < 1073741824 := by omega
        obtain ⟨q0, q1, q2, q3, q4, -, -, -, g3, g4⟩ := val_cells (h7.alloc (.cells #[.int .i64 more] 2))
        go_wp2_with (at_builtin; refine wpList_append_one rfl (.tmp 58) (.tmp 60) 22 2 (.int .i64 0) 8 Tryz.underlying22 info_int64 rfl (by decide) rfl w3.heap.size (.slice A v.nums.length c) v.nums.length _ wc rfl HG.out.own1 (.int .i64 more) rfl rfl hnl2 hbg ?_)
        intro v9 w9 hown9 hgr9 hwh9 hb9
        obtain ⟨A9, c9, rfl⟩ := own_form hown9
        have k7 := h7.grown hgr9 (fun e => own_blk_ne HG.out.own1 h7 (by decide) e.symm)
        have k8 := h8.grown hgr9 (fun e => own_blk_ne HG.out.own1 h8 (by decide) e.symm)
        have o1' := own_kept_ty ho2 hgr9 (fun g c t fz e1 e2 => by
          obtain ⟨-, cc, e3⟩ := own_blocks HG.out.own1 g e1
          rw [e3] at e2; cases e2; decide)
        clear q0 q1 q2 q3 q4 g3 g4
        obtain ⟨q0, q1, q2, q3, q4, -, -, -, g3, g4⟩ := val_cells k7
        have hb5 : Below w3.heap.size w3 w9 := HG.out.bel.trans hb9
        obtain ⟨W5, hW5⟩ : ∃ W5, w9.setCell ⟨b7, 3, none⟩ (.slice A9 (v.nums.length + 1) c9) = W5 := ⟨_, rfl⟩
        have m7 := k7.set_ 3 (.slice A9 (v.nums.length + 1) c9)
        have m8 := k8.far (p := ⟨b7, 3, none⟩) (fun e => HG.out.ne e.symm) (.slice A9 (v.nums.length + 1) c9)
        have m1 := own_set_far o1' k7 (by decide) 3 (.slice A9 (v.nums.length + 1) c9)
        have m2 := own_set_far hown9 k7 (by decide) 3 (.slice A9 (v.nums.length + 1) c9)
        have hb6 := hb5.setCell (p := ⟨b7, 3, none⟩) HG.out.lo7 (.slice A9 (v.nums.length + 1) c9)
        rw [hW5] at m7 m8 m1 m2 hb6
        have HW5 := Lib.hid hW5
        have M7 := Lib.hid m7
        have M8 := Lib.hid m8
        have M1 := Lib.hid m1
        have M2 := Lib.hid m2
        have HB6 := Lib.hid hb6
        clear hW5 m7 m8 m1 m2 hb6 hb5 hown9 hgr9 hwh9 hb9 k7 k8 o1' h7 h8 ho1 ho2
        go_upto_region 10 with fail
        rw [HW5.out]
        clear q0 q1 q2 q3 q4 g3 g4 HW5
        obtain ⟨q0, q1, q2, q3, q4, -, -, -, g3, g4⟩ := val_cells (M8.out.alloc (.cells #[.int .i64 more] 2))
        go_wp2_with fail
        have hne := HG.out.ne
        have n8 := (M8.out.alloc (.cells #[.int .i64 more] 2)).set_ 3 (.slice (some ⟨W5.heap.size, 0, none⟩) 1 1)
        have n7 := (M7.out.alloc (.cells #[.int .i64 more] 2)).far (p := ⟨b8, 3, none⟩) hne (.slice (some ⟨W5.heap.size, 0, none⟩) 1 1)
        have r1 := own_set_far (M1.out.alloc (.cells #[.int .i64 more] 2)) (M8.out.alloc (.cells #[.int .i64 more] 2)) (by decide) 3 (.slice (some ⟨W5.heap.size, 0, none⟩) 1 1)
        have r2 := own_set_far (M2.out.alloc (.cells #[.int .i64 more] 2)) (M8.out.alloc (.cells #[.int .i64 more] 2)) (by decide) 3 (.slice (some ⟨W5.heap.size, 0, none⟩) 1 1)
        have hl8 := M8.out.lt
        have nn := (Blk.new W5 2 #[.int .i64 more]).far (p := ⟨b8, 3, none⟩) (by show W5.heap.size ≠ b8; omega) (.slice (some ⟨W5.heap.size, 0, none⟩) 1 1)
        have hbf := (HB6.out.alloc HB6.out.size (.cells #[.int .i64 more] 2)).setCell (p := ⟨b8, 3, none⟩) HG.out.lo8 (.slice (some ⟨W5.heap.size, 0, none⟩) 1 1)
        have hokk := HOK.out
        obtain ⟨g1, g2, g3⟩ := grow_num (k := v.kind) (n := v.num) (t := v.text) (ns := v.nums) (ts := v.texts) more HN.out h5i (by have := HKD.out; omega) (by have := H40.out; omega)
        have hres : GrowTwo v w.heap.size w3 b7 b8 wc _ := ⟨⟨⟨v.kind, v.num, v.text, v.nums ++ [more], v.texts⟩, ⟨v.kind, 0, [], [more], []⟩, g1, g2, g3, ⟨#[.int .i64 v.kind, .int .i64 v.num, .string ⟨v.text.toArray⟩, .slice A9 (v.nums.length + 1) c9, .slice B v.texts.length d], Blk.cast n7 (by simp), ⟨⟨A9, c9, B, d, by simp, by have h := Reads.of_own r2; rw [List.map_append, List.length_append]; exact h, Reads.of_own r1⟩, hokk.kin, hokk.num, fun t ht => by rcases List.mem_append.1 ht with h | h; exact hokk.nums t h; rw [List.mem_singleton.1 h]; exact hm, hokk.tl, by simp; omega, hokk.sl, hokk.sz⟩⟩, ⟨#[.int .i64 v.kind, .int .i64 0, .string ⟨#[]⟩, .slice (some ⟨W5.heap.size, 0, none⟩) 1 1, .slice none 0 0], Blk.cast n8 (by simp [VZ]), ⟨⟨some ⟨W5.heap.size, 0, none⟩, 1, none, 0, rfl, Reads.of_blk nn nn.lt rfl, Reads.none_⟩, hokk.kin, ⟨by show (-9223372036854775808 : Int) ≤ 0; decide, by show (0 : Int) ≤ 9223372036854775807; decide⟩, fun t ht => by rw [List.mem_singleton.1 ht]; exact hm, by simp, by simp, by simp, by simp⟩⟩⟩, hbf⟩
        have HRES := Lib.hid hres
        clear hres n8 n7 r1 r2 hl8 nn hbf hokk g1 g2 q0 q1 q2 q3 q4
        go_meet
        exact ⟨rfl, HRES.out⟩
    case rest =>
      obtain ⟨rfl, hT⟩ := hcut
      obtain ⟨v1, o1, g1, g2, g3, ⟨cs7, k7, i7⟩, ⟨cs8, k8, i8⟩⟩ := hT.ex
      have hbw : Below w.heap.size w wc := HB3.out.trans (hT.bel.mono HB3.out.size)
      have kv := HK3.out.below hT.bel HK3.out.lt
      obtain ⟨D1, e1, D2, e2, he7, -, -⟩ := i7.ex
      injection he7 with he7
      obtain ⟨D3, e3, D4, e4, he8, -, -⟩ := i8.ex
      injection he8 with he8
      have hok1 := i8.ok
      subst he7 he8
      have hcopy := HCP.out wc hbw
      have HCO := Lib.hid hcopy
      have HP8 := Lib.hid (fun (W : World) (hb : Below wc.heap.size wc W) => print_any wc.heap.size _ o1 W (i8.below hb) hb.size (HL.out.below (hbw.trans (hb.mono hbw.size))))
      have HP7 := Lib.hid (fun (W : World) (hb : Below wc.heap.size wc W) => print_any wc.heap.size _ v1 W (i7.below hb) hb.size (HL.out.below (hbw.trans (hb.mono hbw.size))))
      have HC8 := Lib.hid (fun (W : World) (hb : Below wc.heap.size wc W) => vCheck_any wc.heap.size _ o1 W (i8.below hb) hb.size)
      have HPV := Lib.hid (fun (W : World) (B : Nat) (u : Value) (h : VIn W B u v) (hB : B ≤ W.heap.size) (hl : Laid W) => print_any B u v W h hB hl)
      have HBW := Lib.hid hbw
      have HKV := Lib.hid kv
      have HK7 := Lib.hid k7
      have HK8 := Lib.hid k8
      have hrv : Cel.printR v = (Cel.print v, 0) := by unfold Cel.printR; rw [HN.out, if_pos rfl]
      rw [hrv] at HPV
      clear a0 a1 a2 a3 a4 hbw kv hT i7 i8 hcopy k7 k8 HCP hrv
      obtain ⟨a0, a1, a2, a3, a4, -⟩ := val_cells HKV.out
      go_wp2_with fail
      refine HCO.out.mono ?_
      rintro e w5 ⟨u5, rfl, ho5, hb5⟩
      have HV5 := Lib.hid (ho5.vin HOK.out)
      have HB5 := Lib.hid hb5
      clear ho5 hb5
      go_wp2_with fail
      refine (HPV.out w5 _ u5 HV5.out (Nat.le_refl _) (HL.out.below (bel_next' HBW.out HB5.out))).mono ?_
      rintro e w6 ⟨rfl, hb6⟩
      have HB6 := Lib.hid (bel_next' HB5.out hb6)
      clear hb6 a0 a1 a2 a3 a4
      obtain ⟨a0, a1, a2, a3, a4, -⟩ := val_cells (HK8.out.below HB6.out HK8.out.lt)
      go_wp2_with fail
      refine (HP8.out w6 HB6.out).mono ?_
      rintro e w7 ⟨rfl, hb7⟩
      have HB7 := Lib.hid (bel_next' HB6.out hb7)
      clear hb7 a0 a1 a2 a3 a4
      obtain ⟨a0, a1, a2, a3, a4, -⟩ := val_cells (HK7.out.below HB7.out HK7.out.lt)
      go_wp2_with fail
      refine (HP7.out w7 HB7.out).mono ?_
      rintro e w8 ⟨rfl, hb8⟩
      have HB8 := Lib.hid (bel_next' HB7.out hb8)
      clear hb8 a0 a1 a2 a3 a4
      obtain ⟨a0, a1, a2, a3, a4, -⟩ := val_cells (HK8.out.below HB8.out HK8.out.lt)
      go_wp2_with fail
      refine (HC8.out w8 HB8.out).mono ?_
      rintro e w9 ⟨rfl, hb9⟩
      have HB9 := Lib.hid (bel_next' HBW.out (bel_next' HB8.out hb9))
      clear hb9 a0 a1 a2 a3 a4 HP7 HP8 HC8 HPV HCO HK7 HK8 HKV HV5
      have hu := undef_no
      obtain ⟨E, hE⟩ : ∃ E, Cel.check o1 = E := ⟨_, rfl⟩
      have hr8 : Cel.printR o1 = if E = 0 then (Cel.print o1, 0) else ([], E) := by unfold Cel.printR; rw [hE]
      have hr7 : Cel.printR v1 = if E = 0 then (Cel.print v1, 0) else ([], E) := by unfold Cel.printR; rw [g1, hE]
      rw [hr8, hr7, hE]
      have G2 := Lib.hid g2
      have G3 := Lib.hid g3
      have HLO := Lib.hid (fun h : Cel.check o1 = 0 => cel_print_len h hok1.num hok1.nums)
      have HLV := Lib.hid (cel_print_len HN.out HOK.out.num HOK.out.nums)
      have HE := Lib.hid hE
      clear hr8 hr7 hE g1 g2 g3 hok1
      by_cases hz : E = 0
      · subst hz
        rw [if_pos rfl, if_pos rfl]
        obtain ⟨za, hza⟩ : ∃ z : ByteArray, (⟨(Cel.print v).toArray⟩ : ByteArray) = z := ⟨_, rfl⟩
        obtain ⟨zb, hzb⟩ : ∃ z : ByteArray, (⟨(Cel.print o1).toArray⟩ : ByteArray) = z := ⟨_, rfl⟩
        obtain ⟨zc, hzc⟩ : ∃ z : ByteArray, (⟨(Cel.print v1).toArray⟩ : ByteArray) = z := ⟨_, rfl⟩
        obtain ⟨z4, hz4⟩ : ∃ z : ByteArray, zb.extract 4 zb.size = z := ⟨_, rfl⟩
        obtain ⟨zs, hzs⟩ : ∃ z : ByteArray, za ++ z4 = z := ⟨_, rfl⟩
        have hbl : 4 < zb.size := by rw [Lib.size_eq, ← hzb]; exact G3.out
        have hbli : (4 : Int) < zb.size := by omega
        have tb : decide (4 < zb.size) = true := decide_eq_true hbl
        have hcz : zc = zs := by
          rw [← hzs, ← hz4]
          apply ByteArray.ext
          rw [ByteArray.data_append]
          apply Array.ext'
          rw [Array.toList_append, Lib.extract_to_end, ← hzc, ← hza, ← hzb]
          simp only
          rw [G2.out]
        have hl1 : za.size ≤ 100000 := by rw [Lib.size_eq, ← hza]; exact HLV.out
        have hl2 : z4.size ≤ 100000 := by
          rw [← hz4, ByteArray.size_extract]
          have : zb.size ≤ 100000 := by rw [Lib.size_eq, ← hzb]; exact HLO.out HE.out
          omega
        have hsum : (za.size : Int) + z4.size ≤ 9223372036854775807 := by omega
        have tc : (zc.toList == zs.toList) = true := by rw [hcz]; exact beq_self_eq_true _
        simp only [hza, hzb, hzc]
        clear hza hzb hzc hcz hbl
        go_wp2
        go_ret
        exact ⟨rfl, HB9.out⟩
      · rw [if_neg hz, if_neg hz]
        have tz : ((E : Int) != 0) = true := by rw [bne_iff_ne]; omega
        have te : ((E : Int) == (E : Int)) = true := beq_self_eq_true _
        have tn : ((⟨(#[] : Array UInt8)⟩ : ByteArray).toList == (⟨(#[] : Array UInt8)⟩ : ByteArray).toList) = true := beq_self_eq_true _
        clear hz
        go_wp2
        go_ret
        exact ⟨rfl, HB9.out⟩
end Go.Proofs.YtoofbflplhbpbaaGreatDoor
