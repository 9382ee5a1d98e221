/- What the closing texts of the laws of cell share (as XNumClose: the seven laid variables). -/
import Derived.Test.YtoofbflplhbpbaaGreatDoorCards
import Derived.Test.YtoofbflplhbpbaaGreatDoorTie
import Derived.Test.YtoofbflplhbpbaaGreatDoorCelLaws
import Derived.Test.YtoofbflplhbpbaaGreatDoorWords
import Derived.WalkKit
import Derived.ProofKit
import Derived.OpenShut
import Derived.Deep.DeepHandedRow
import Derived.Deep.DeepWitnessRowRef
import Derived.Lib.LaidIn
import Derived.Lib.LaidTab
import Derived.Stop.LaidErr
import Derived.ChangeSame
import Derived.ChangeStays
import Derived.ChangeBook
import Derived.ChangeMaps5
namespace Go.Proofs.YtoofbflplhbpbaaGreatDoor
open Go.ChangeShapes Go.WideShapes Go.ChangeAt Go.RowKit

theorem own_knob : ownKnob Tryz.prog.godebug = none := by kernel_rfl
theorem laid_out : laidOutB Tryz.prog = true := by kernel_rfl
theorem errStar : "*" ++ "errors.errorString" = "*errors.errorString" := by decide
theorem errRow (u : TypeId) (h : Tryz.prog.typeName? 3 u = some "*errors.errorString") : u = 328 :=
  typeName_ptr_named (nm := "errors.errorString") (by rw [errStar]; kernel_rfl) (by kernel_rfl) (by decide) u (by rw [errStar]; exact h)
theorem eBru : (Rows.laid_math_bits_deBruijn64tab : DataW Unit) = Lib.tabData .u8 (Lib.deBruijn64tab.map fun x : Nat => (x : Int)) := by kernel_rfl
theorem ePow : (Rows.laid_internal_strconv_uint64pow10 : DataW Unit) = Lib.tabData .u64 Lib.pow10Tab := by kernel_rfl
/-- the row's list -/
def laidList : List (String × DataW Unit) := [("math/bits.deBruijn32tab", Rows.laid_math_bits_deBruijn32tab), ("math/bits.deBruijn64tab", Rows.laid_math_bits_deBruijn64tab), ("internal/strconv.uint64pow10", Rows.laid_internal_strconv_uint64pow10), ("unicode/utf8.acceptRanges", Rows.laid_unicode_utf8_acceptRanges), ("strconv.ErrRange", Rows.laid_strconv_ErrRange), ("strconv.ErrSyntax", Rows.laid_strconv_ErrSyntax), ("unicode/utf8.first", Rows.laid_unicode_utf8_first)]
theorem noHandles : (laidList.filter fun x => x.2.handleName?.isSome) = [] := by kernel_rfl

/-- what the row's list gives a walk -/
theorem laid_of {W : World} (h : laidMetH Tryz.prog laidList W) (hS : W.ShapedOpen Tryz.prog) : Laid W := by
  have hL : laidMet Tryz.prog laidList W := by
    unfold laidMetH at h
    rw [noHandles] at h
    exact h
  have h1 := hL.tail
  have h2 := h1.tail
  have h4 := h2.tail.tail
  have h5 := h4.tail
  rw [eBru] at h1
  rw [ePow] at h2
  have t1 : Lib.TabIs Tryz.prog W "math/bits.deBruijn64tab" .u8 (Lib.deBruijn64tab.map fun x : Nat => (x : Int)) :=
    Lib.tabIs_of_head (n := 64) gBru (by kernel_rfl) Tryz.underlying276 Tryz.underlying5 (by kernel_rfl) (by kernel_rfl) h1
  have t2 : Lib.TabIs Tryz.prog W "internal/strconv.uint64pow10" .u64 Lib.pow10Tab :=
    Lib.tabIs_of_head (n := 20) gPow (by kernel_rfl) Tryz.underlying287 Tryz.underlying123 (by kernel_rfl) (by kernel_rfl) h2
  obtain ⟨a0, s0, hv0, -, -, -⟩ := laid_sentinel (g := 6) h4 gRng (by kernel_rfl) Tryz.underlying72 errRow Tryz.underlying328 Tryz.underlying330 rfl rfl Tryz.underlying9 (by kernel_rfl) (by kernel_rfl)
  obtain ⟨a1, s1, hv1, -, -, -⟩ := laid_sentinel (g := 5) h5 gSyn (by kernel_rfl) Tryz.underlying72 errRow Tryz.underlying328 Tryz.underlying330 rfl rfl Tryz.underlying9 (by kernel_rfl) (by kernel_rfl)
  refine ⟨t2, ⟨_, t1, fun j hj => ?_⟩, ⟨_, _, hv1⟩, ⟨_, _, hv0⟩, ?_⟩
  · have hl : Lib.deBruijn64tab.length = 64 := by decide
    have hj' : j < Lib.deBruijn64tab.length := by omega
    simp [List.getD, hj']
  · exact Go.Proofs.cell_of_shapedOpen_int (zero := #[.int .i64 0]) (t := 3) hS (of_decide_eq_true (by kernel_rfl)) (by kernel_rfl) rfl (by kernel_rfl) (by kernel_rfl) Tryz.underlying3

section
variable {H : Type} {enc : TypeId × Value → H} {P : Program}
/-- the row's last step where of the world behind the call it is known that the old blocks stand as they did -/
theorem post_below {f : Func} {s : ChangeSpec} {apart fresh handsOn again : Bool} {W W' : World} {args : Array Value} {v : Value} {ds gs : List (DataW H)} {before pa pv : List MemPlace}
    (hW : DataW.Whole enc P f.params.toList s.vars apart W args.toList ds gs before)
    (hres : ∀ (b : Nat) (sp : Nat → Bool) (hd : Bool), DataW.TrodAll enc P W' b sp hd f.resultTypes.toList (v.resultList f.resultTypes.size) (s.fn H (ds ++ gs)).results [])
    (hargs : ∀ sp : Nat → Bool, (∀ p ∈ before, sp p.block = true) → DataW.TrodAll enc P W' 0 sp true f.params.toList args.toList (s.fn H (ds ++ gs)).args pa)
    (hvars : ∀ sp : Nat → Bool, (∀ p ∈ before, sp p.block = true) → DataW.TrodVars enc P W' sp s.vars (s.fn H (ds ++ gs)).vars pv)
    (hps : before = pa ++ pv) (hb : Below W.heap.size W W')
    (hok : ∀ (j : Nat) (t : TypeId) (r : Value), f.resultTypes[j]? = some t → (v.resultList f.resultTypes.size)[j]? = some r → Value.okWide P W' .any 0 t r) :
    s.post enc P f apart fresh handsOn again W args v W' := by
  have hlt : ∀ p ∈ before, p.block < W.heap.size := fun p hp => hW.lt p hp
  have hold : ∀ p ∈ before, (fun b => decide (b < W.heap.size)) p.block = true := fun p hp => by simpa using hlt p hp
  refine ⟨ds, gs, before, [], pa, pv, hW, hres _ _ _, hargs _ hold, hvars _ hold, World.keptBut_mono (fun p hp => ⟨hp, ?_⟩) (hb.frame (· ∈ before)), fun _ => ?_⟩
  · rw [hps, List.mem_append] at hp
    exact Or.inr hp
  · obtain ⟨_, _, _, _, _, hz, hn⟩ := hW
    refine ⟨hok, _, _, ([] ++ pa) ++ pv, ⟨[] ++ pa, pv, trodAll_append (hargs _ (fun _ _ => rfl)) (hres _ _ _), hvars _ (fun _ _ => rfl), rfl, ?_, ?_⟩, ?_⟩
    · intro b off hp
      have hin : MemPlace.cell b off ∈ before := by rw [hps]; simpa using hp
      rw [hb.frozen (hlt _ hin)]
      exact hz b off hin
    · intro ha
      have := hn ha
      rw [hps] at this
      simpa using this
    · intro p hp _
      rw [hps]
      simpa using hp

/-- arguments that nothing has written read behind the call as they did -/
theorem trodAll_stay {W W' : World} (hl : laidOutB P = true) (hb : Below W.heap.size W W') {sp : Nat → Bool} : ∀ {ts : List TypeId} {vs : List Value} {ds : List (DataW H)} {ps : List MemPlace},
    (∀ t ∈ ts, P.readableRec t = true ∧ t < P.types.size) → DataW.TrodAll enc P W 0 (fun _ => true) true ts vs ds ps → (∀ p ∈ ps, sp p.block = true) → (∀ p ∈ ps, p.block < W.heap.size) →
    DataW.TrodAll enc P W' 0 sp true ts vs ds ps
  | [], [], [], _, _, h, _, _ => h
  | t :: ts, v :: vs, d :: ds, ps, ht, ⟨p, q, ⟨n, h1⟩, h2, e⟩, hs, hlt => by
    have hp : ∀ x ∈ p, x ∈ ps := fun x hx => by rw [e]; exact List.mem_append_left _ hx
    have hq : ∀ x ∈ q, x ∈ ps := fun x hx => by rw [e]; exact List.mem_append_right _ hx
    have hh := ht t (List.mem_cons.2 (.inl rfl))
    exact ⟨p, q, ⟨n, DataW.trod_stays (kids_book hl hh.1) (book_sized hh.1) (fun h => by cases h) ⟨hh.2, book_self t⟩ h1 (fun x hx => hb.same (hlt x (hp x hx))) (fun x hx => hs x (hp x hx))⟩,
      trodAll_stay hl hb (fun u hu => ht u (List.mem_cons.2 (.inr hu))) h2 (fun x hx => hs x (hq x hx)) (fun x hx => hlt x (hq x hx)), e⟩
end

/-- the numbers of a table of numbers -/
def numsOf : DataW Unit → List Value
  | .agg ds => ds.map fun d => match d with | .lit (.int k i) => .int k i | _ => undef
  | _ => []
def acceptCells : Array Value := #[.int .u8 128, .int .u8 191, .int .u8 160, .int .u8 191, .int .u8 128, .int .u8 159, .int .u8 144, .int .u8 191, .int .u8 128, .int .u8 143, .int .u8 0, .int .u8 0, .int .u8 0, .int .u8 0, .int .u8 0, .int .u8 0, .int .u8 0, .int .u8 0, .int .u8 0, .int .u8 0, .int .u8 0, .int .u8 0, .int .u8 0, .int .u8 0, .int .u8 0, .int .u8 0, .int .u8 0, .int .u8 0, .int .u8 0, .int .u8 0, .int .u8 0, .int .u8 0]
def layCells (cs : Array Value) : Obj → Obj
  | .cells _ t frozen => .cells cs t frozen
  | o => o
noncomputable abbrev N0 : Nat := (World.settled Tryz.prog default).heap.size
/-- a world that holds the tables and the two errors -/
noncomputable def laidWorld (os : Os) : World :=
  let N := (World.settled Tryz.prog os).heap.size
  let w0 := World.holding Tryz.prog os ⟨#[.cells #[.string ⟨#[118, 97, 108, 117, 101, 32, 111, 117, 116, 32, 111, 102, 32, 114, 97, 110, 103, 101]⟩] 330, .cells #[.string ⟨#[105, 110, 118, 97, 108, 105, 100, 32, 115, 121, 110, 116, 97, 120]⟩] 330], #[], []⟩
  { w0 with heap := ((((((w0.heap.modify 7 (layCells (numsOf Rows.laid_math_bits_deBruijn32tab).toArray)).modify 0 (layCells (numsOf Rows.laid_math_bits_deBruijn64tab).toArray)).modify 2 (layCells (numsOf Rows.laid_internal_strconv_uint64pow10).toArray)).modify 4 (layCells acceptCells)).modify 3 (layCells (numsOf Go.Pinned.utf8First).toArray)).modify 6 (layCells #[.iface 328 (.pointer (some ⟨N, 0, none⟩))])).modify 5 (layCells #[.iface 328 (.pointer (some ⟨N + 1, 0, none⟩))]) }
theorem laid_met (os : Os) (args : Array Value) : laidMet Tryz.prog laidList ((laidWorld os).forCall (fun _ _ => 0) ⟨#[], args, []⟩).memory :=
  (LaidIn.of_run (l := laidList) [7, 0, 2, 4, 6, N0, 5, N0 + 1, 3] 8 (by kernel_rfl) (by kernel_rfl) (by kernel_rfl) (by kernel_rfl)).met
end Go.Proofs.YtoofbflplhbpbaaGreatDoor
