/- A region that only reads and draws its order, inside a round of an iterator: one walk, in the order of the text, serves every order (the library's law asks that there be no round; of operations that are no defer a round asks nothing). -/
import Derived.Sort.QuietIn
import Derived.Test.YthnaiiejjdmnaaaDoorWords
namespace Go.Proofs.YthnaiiejjdmnaaaDoor
open Go

section
variable {F : Fence} {n : Nat} {P : Program} {ops : Array Oper} {C : World → Prop} {md : Region.Mode}
def noDefer (o : Oper) : Bool := match o.op with | .defer _ => false | _ => true
theorem noDefer_ne {o : Oper} (h : noDefer o = true) : ∀ c, o.op ≠ .defer c := by
  intro c e
  unfold noDefer at h
  rw [e] at h
  cases h
theorem op_round {o : Oper} {a : Act} {K : Act → Prop} {K' : Act → World → Prop} {Q' : Exit → Act → World → Prop} {w : World} (hnd : noDefer o = true) (hw : C w) (h : ∀ a w', C w' → K a → K' a w')
    (ha : o.askedIn F P a C) (hh : o.quietIn F n P a C K) : o.wpIn F n P a w K' Q' := by
  obtain ⟨v, hv, hK⟩ := hh
  have hq := hv w hw
  unfold Oper.quietAtIn at hq
  unfold Oper.wpIn
  refine ⟨ha w hw, ?_⟩
  rw [Oper.semAt_eq _ _ _ (noDefer_ne hnd)]
  generalize (execOp a.eval o).run P w = res at *
  match res, hq with
  | .ok (.value u) w', hq =>
    obtain ⟨rfl, rfl⟩ := hq
    exact h _ _ hw hK
  | .ok .skip w', hq =>
    obtain ⟨rfl, rfl⟩ := hq
    exact h _ _ hw hK
  | .ok (.enter f args) w', hq =>
    obtain ⟨rfl, hd, hc⟩ := hq
    refine ⟨hd, hc.mono ?_⟩
    rintro e w'' ⟨rfl, hw''⟩
    exact h _ _ hw'' hK
theorem opAt_round {i : Nat} {a : Act} {K : Act → Prop} {K' : Act → World → Prop} {Q' : Exit → Act → World → Prop} {w : World} (hnd : ∀ o, ops[i]? = some o → noDefer o = true) (hC : C w) (h : ∀ a w', C w' → K a → K' a w')
    (hh : qOpIn F n P ops C i K a) : wpOpIn F n P ops Q' i K' a w := by
  unfold qOpIn at hh
  unfold wpOpIn
  cases ho : ops[i]? with
  | none =>
    simp only [ho] at hh
    exact h _ _ hC hh
  | some o =>
    simp only [ho] at hh
    obtain ⟨ha, hh⟩ := hh
    by_cases hw : Region.wanted o (yielded ops a.tmps) = true
    · simp only [hw, if_true] at hh ⊢
      exact op_round (hnd o ho) hC h ha hh
    · simp only [hw] at hh ⊢
      exact ⟨ha w hC, h _ _ hC hh⟩
theorem any_round {Q : Act → Prop} {Q' : Exit → Act → World → Prop} (hnd : ∀ (i : Nat) (o : Oper), ops[i]? = some o → noDefer o = true) (hQ : ∀ a w, C w → Q a → Q' .normal a w) : ∀ (fuel : Nat) (listed : Array Bool) (a : Act) (w : World), C w →
    wpAnyQIn F n P md ops C Q fuel listed a → wpAnyIn F n P md ops Q' fuel listed a w := by
  intro fuel
  induction fuel with
  | zero => exact fun _ _ _ hw h => ⟨h.1, hQ _ _ hw h.2⟩
  | succ fuel ih => exact fun _ _ _ hw h => ⟨fun h0 => hQ _ _ hw (h.1 h0), fun i hi => opAt_round (hnd i) hw (fun a' w' hw' => ih _ a' w' hw') (h.2 i hi)⟩
theorem wpIn_region_round {id : Nat} {Q : Exit → Act → World → Prop} {a : Act} {w : World} {l : List Oper} (hnd : l.all noDefer = true) (hm : P.follows .mixedOrders = true) (hB : Region.lexB .any l.toArray = true)
    (h : wpQuietIn F n P l.toArray (fun w' => ∃ n, w' = w.drewN n) (fun a' => ∀ w', (∃ n, w' = w.drewN n) → Q .normal a' w') l a) : (Code.region id l.toArray true).wpIn F n P Q a w := by
  simp only [Region.lexB, Bool.and_eq_true] at hB
  have hn : ∀ (i : Nat) (o : Oper), l.toArray[i]? = some o → noDefer o = true := fun i o ho => List.all_eq_true.1 hnd o (List.mem_of_getElem? (by simpa using ho))
  refine wpIn_region_any hm (any_round (C := fun w' => ∃ n, w' = w.drewN n) (Q := fun a' => ∀ w', (∃ n, w' = w.drewN n) → Q .normal a' w') hn (fun _ w' hw' h => h w' hw') _ _ _ _ ⟨1, rfl⟩ ?_)
  have := wpAnyQIn_lex (F := F) (n := n) (C := fun w' => ∃ n, w' = w.drewN n) (md := .any) hB.1 l.toArray.toList 0 (Array.replicate l.toArray.size false) a (by simp) (by simpa using hB.2) (by simpa using h)
  simpa using this
end
end Go.Proofs.YthnaiiejjdmnaaaDoor
