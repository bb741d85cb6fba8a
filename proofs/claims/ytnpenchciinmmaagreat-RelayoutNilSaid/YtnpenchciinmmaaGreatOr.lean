/-
  The step from a contract of the abstract machine to a row: 'for every input: true; the input reads as it did'.
-/
import Derived.Test.YtnpenchciinmmaaGreatOp
namespace Go.Proofs.YtnpenchciinmmaaGreat
open Go.RowKit Go.ChangeShapes
set_option linter.unusedSimpArgs false
set_option linter.unusedVariables false
set_option maxRecDepth 100000
section
variable {H : Type} {enc : TypeId × Value → H} {P : Program}
theorem trodAll_below (hl : laidOutB P = true) {W W' : World} (hb : Keep W W') : ∀ {ts : List TypeId} {vs : List Value} {ds : List (DataW H)} {ps : List MemPlace}, (∀ t ∈ ts, P.readableRec t = true ∧ t < P.types.size) → DataW.TrodAll enc P W 0 (fun _ => true) true ts vs ds ps → (∀ x ∈ ps, x.block < W.heap.size) →
    DataW.TrodAll enc P W' 0 (fun b => decide (b < W.heap.size)) true ts vs ds ps
  | [], [], [], ps, _, h, _ => h
  | t :: ts, v :: vs, d :: ds, ps, ht, h, hp => by
    obtain ⟨p, q, h1, h2, rfl⟩ := h
    obtain ⟨r1, r2⟩ := ht t (by simp)
    exact ⟨p, q, Below.trod hl r1 r2 h1 hb (fun x hx => hp x (by simp [hx])), trodAll_below hl hb (fun t h => ht t (by simp [h])) h2 (fun x hx => hp x (by simp [hx])), rfl⟩
theorem law_post {f : Func} {s : ChangeSpec} {W W' : World} {args : Array Value} {ds gs : List (DataW H)} {before : List MemPlace} {tb : TypeId} (hW : DataW.Whole enc P f.params.toList s.vars false W args.toList ds gs before) (hv : s.vars = []) (hr : f.resultTypes = #[tb]) (hb : P.underlying tb = some .bool) (hl : laidOutB P = true) (hk : Keep W W')
    (ht : ∀ t ∈ f.params.toList, P.readableRec t = true ∧ t < P.types.size) (hs : (s.fn H ds).results = [.lit (.bool true)]) (hs2 : (s.fn H ds).args = ds) (hs3 : (s.fn H ds).vars = []) : s.post enc P f false true false false W args (.bool true) W' := by
  have hW' := hW
  obtain ⟨p, q, hA, hV, rfl, hfz, hnd⟩ := hW
  have hlt : ∀ x ∈ p ++ q, x.block < W.heap.size := fun x hx => by simpa using hW'.lt x hx
  rw [hv] at hV
  have hgs : gs = [] ∧ q = [] := by
    cases gs with
    | nil => exact ⟨rfl, hV⟩
    | cons _ _ => exact hV.elim
  obtain ⟨rfl, rfl⟩ := hgs
  refine ⟨ds, [], p ++ [], [], p, [], hW', ?_, ?_, ?_, Below.frame hk _, fun h => nomatch h⟩
  · rw [hr, List.append_nil, hs]
    exact trodAll_mk1 (shut_bool hb _)
  · rw [List.append_nil, hs2]
    exact trodAll_below hl hk ht hA (fun x hx => hlt x (by simp [hx]))
  · rw [hv, List.append_nil, hs3]
    rfl
/-- the call -/
theorem law_calls {f : FuncId} {W : World} {args : Array Value} {vs : List V} {Q : Value → World → Prop} (h : AC P f vs (.c (.bool true))) (hargs : CVs (Cx.bare (allS W)) W vs args.toList) (hQ : ∀ W', Keep W W' → Q (.bool true) W') : Calls P f args W fun e W' => ∃ v, e = .returned v ∧ Q v W' := by
  have := h (allS W) W args.toList (fun b j h => h) hargs
  rw [show args.toList.toArray = args by simp] at this
  refine this.mono ?_
  rintro e W' ⟨u, S', rfl, hk, _, _, hu⟩
  simp only [CV, RdC] at hu
  subst hu
  exact ⟨_, rfl, hQ W' hk⟩
theorem opened_struct {α : Type} {t : TypeId} {fs : Array Field} {W : World} {base b0 : Nat} {sp : Nat → Bool} {held : Bool} {r : Reach} {v : Value} {d : DataW H} {ps : List MemPlace} {R : α → List C} {Q : α → Prop} (hu : P.underlying t = some (.struct fs)) (hval : Value.okWide P W r b0 t v) (hd : DataW.Trod enc P W base sp held t v d ps) (ho : ∀ fuel, OpAt enc P W fuel t R Q) : ∃ a, Q a ∧ CV (Cx.bare (allS W)) W (.agg ((R a).map V.c)) v := by
  unfold Value.okWide at hval
  rw [hu] at hval
  obtain ⟨cs, rfl, _, _⟩ := hval
  obtain ⟨fuel, hf⟩ := hd
  obtain ⟨a, h1, h2⟩ := ho fuel sp base held _ _ hf
  refine ⟨a, h2, ?_⟩
  simp only [CV]
  exact ⟨cs, rfl, CVs.ofC h1⟩
theorem opened_array {α : Type} {t e : TypeId} {n : Nat} {W : World} {base b0 : Nat} {sp : Nat → Bool} {held : Bool} {r : Reach} {v : Value} {d : DataW H} {ps : List MemPlace} {R : α → List C} {Q : α → Prop} (hu : P.underlying t = some (.array n e)) (hval : Value.okWide P W r b0 t v) (hd : DataW.Trod enc P W base sp held t v d ps) (ho : ∀ fuel, OpAt enc P W fuel t R Q) : ∃ a, Q a ∧ CV (Cx.bare (allS W)) W (.agg ((R a).map V.c)) v := by
  unfold Value.okWide at hval
  rw [hu] at hval
  obtain ⟨cs, rfl, _, _⟩ := hval
  obtain ⟨fuel, hf⟩ := hd
  obtain ⟨a, h1, h2⟩ := ho fuel sp base held _ _ hf
  refine ⟨a, h2, ?_⟩
  simp only [CV]
  exact ⟨cs, rfl, CVs.ofC h1⟩
theorem opened_str {t : TypeId} {W : World} {base b0 : Nat} {sp : Nat → Bool} {held : Bool} {r : Reach} {v : Value} {d : DataW H} {ps : List MemPlace} (hu : P.underlying t = some .string) (hval : Value.okWide P W r b0 t v) (hd : DataW.Trod enc P W base sp held t v d ps) : ∃ s : ByteArray, s.size ≤ maxLen ∧ CV (Cx.bare (allS W)) W (.c (.str s)) v := by
  unfold Value.okWide at hval
  rw [hu] at hval
  simp only at hval
  unfold Cell.okWide Cell.ok at hval
  rw [hu] at hval
  obtain ⟨s, rfl⟩ : ∃ s, v = .string s := by
    cases v <;> simp_all
  obtain ⟨fuel, hf⟩ := hd
  obtain ⟨a, h1, h2⟩ := op_str (enc := enc) (w := W) (fuel := fuel) hu sp base held _ _ hf
  refine ⟨a, h2, ?_⟩
  simp only [RdL] at h1
  obtain ⟨v', vr, e, h3, _⟩ := h1
  simp [Value.cells] at e
  simp only [CV]
  rw [e.1]
  exact h3
theorem op_pair {W : World} {fuel : Nat} {t e : TypeId} {k : IntKind} (hu : P.underlying t = some (.array 2 e)) (he : P.underlying e = some (.int k)) (hc : P.cellsOf t = 2) (hc1 : P.cellsOf e = 1) : OpAt enc P W fuel t (fun q : Int × Int => [.int k q.1, .int k q.2]) (fun _ => True) := by
  cases fuel with
  | zero => exact OpAt.zero
  | succ fuel =>
    intro sp base held cs x hx
    obtain ⟨l, h1, h2⟩ := op_ints (enc := enc) (w := W) (fuel := fuel) hu he hc hc1 sp base held cs x hx
    match l, h2 with
    | [a, b], _ => exact ⟨(a, b), h1, trivial⟩
end
theorem own : ownKnob Tryz.prog.godebug = none := by kernel_rfl
theorem laid : laidOutB Tryz.prog = true := by kernel_rfl
end Go.Proofs.YtnpenchciinmmaaGreat
