/-
  BPlaces: for every input the law returns true, and its input reads behind the call as it read before. Conditions: none. (The frame of the row's step was written by the kit's proof-skeleton program; this text by mkrow.py.)
-/
import Derived.Test.YtmlabapfjliaeaaOr
import Derived.Test.YtmlabapfjliaeaaRB0
import Derived.Test.YtmlabapfjliaeaaRB1
import Derived.Test.YtmlabapfjliaeaaRB2
import Derived.Test.YtmlabapfjliaeaaRBPlaces0
import Derived.Test.YtmlabapfjliaeaaRBPlaces1
import Derived.Test.YtmlabapfjliaeaaOx
import Derived.Test.YtmlabapfjliaeaaPu
import Derived.Test.YtmlabapfjliaeaaPv
namespace Go.Proofs.Ytmlabapfjliaeaa.breakpointPlaces
open Go.ChangeShapes Go.WideShapes Go.ChangeAt Go.RowKit
set_option linter.unusedVariables false
set_option maxRecDepth 100000

theorem lifted (os : Os) (started : os.Started) (H : Type) (enc : TypeId × Value → H) :
    ReturnsInHanded {} Try.checked os 3 .any (Rows.breakpointPlacesSpec.pre6 enc Try.prog Try.f3 Rows.breakpointPlacesRow.domain false) (Rows.breakpointPlacesSpec.post enc Try.prog Try.f3 false true false false) := by
  refine returnsInHanded_of_change (C := Try.checked) own started (by kernel_rfl) Try.func3
    (ChangeSpec.witness6 (enc := enc) (C := Try.checked) false ⟨#[], #[.slice none 0 0, .slice none 0 0], []⟩ 8 (by kernel_rfl) (by kernel_rfl) (by kernel_rfl) (by kernel_rfl)) ?_
  intro W base args ds gs before hval0 hW hcnd _
  have hval : ∀ (j : Nat) t v, Try.f3.params[j]? = some t → args[j]? = some v → Value.okWide Try.prog W .any base t v := hval0
  have hW' := hW
  obtain ⟨p, q, hA0, hV, rfl, hfz, hnd⟩ := hW
  have hA : DataW.TrodAll enc Try.prog W 0 (fun _ => true) true Try.f3.params.toList args.toList ds p := hA0
  rw [Try.params3] at hA hval
  obtain ⟨v0, v1, d0, d1, p0, p1, rfl, rfl, rfl, h0, h1⟩ := trodAll_two hA
  clear hA0 hval0
  obtain ⟨d, hd, c0⟩ := opened_slice Try.underlying22 (hval 0 22 v0 rfl rfl) h0 (fun _ => op_dict)
  obtain ⟨l, hl, c1⟩ := opened_slice Try.underlying23 (hval 1 23 v1 rfl rfl) h1 (fun _ => op_ndl _)
  exact law_calls (args := #[v0, v1]) (lplaces_a d l hd.1 hd.2 (items_ok hl)) (by
    simp only [CVs]
    exact ⟨v0, [v1], rfl, c0, v1, [], rfl, c1, rfl⟩) (Q := fun v W' => Rows.breakpointPlacesSpec.post enc Try.prog Try.f3 false true false false W #[v0, v1] v W') (fun W' hk => law_post hW' rfl rfl Try.underlying4 laid hk (by
    rw [Try.params3]
    intro t ht
    simp only [List.mem_cons, List.not_mem_nil, or_false] at ht
    rcases ht with rfl | rfl <;> exact ⟨by kernel_rfl, of_decide_eq_true (by kernel_rfl)⟩) rfl rfl rfl)

theorem closed : joinedFacts Try.prog 3 Try.f3 Rows.breakpointPlacesSpec Rows.breakpointPlacesRow = true := by
  have k1 : laidOutB Try.prog = true := q1
  have k2 : mapsRowed Try.prog = true := q2
  have k6 : (Try.prog.stops == []) = true := q6
  have k8 : (Try.prog.stopKnobs == []) = true := q8
  have k22 : (Rows.breakpointPlacesRow.plainKeys == Try.prog.plainKeys) = true := q22
  have k23 : Rows.breakpointPlacesRow.shortTexts.isNone = true := q23
  have k24 : Try.prog.stopsHeard = true := q24
  have k25 : Try.prog.mayEnter = true := q25
  have k26 : (Rows.breakpointPlacesRow.lifted == Try.prog.liftsFinal) = true := q26
  have k27 : (Try.prog.make == some Rows.breakpointPlacesRow.make) = true := q27
  unfold joinedFacts
  simp only [j0, k1, k2, j3, j4, j5, k6, j7, k8, j9, j10, j11, j12, j13, j14, j15, j16, j17, j18, j19, j20, j21, k22, k23, k24, k25, k26, k27, j29, j30, j31, Bool.and_self, Bool.true_and, Bool.and_true]
  rfl

theorem over : Rows.breakpointPlacesRow.holds Try.pinned (OpenSpec.ofChange Rows.breakpointPlacesSpec) :=
  OpenClaim.holds_of_wide 3 Try.f3 rfl rfl rfl rfl rfl rfl rfl ⟨rfl, rfl, rfl, rfl, rfl⟩ rfl rfl rfl rfl rfl (by kernel_rfl) Try.func3 closed
    (of_decide_eq_true (by kernel_rfl)) (by unfold Func.isWrapper; first | (rw [if_pos (by decide +kernel)]; kernel_rfl) | (rw [if_neg (by decide +kernel)]; exact ⟨rfl, rfl⟩))
    (fun os started H enc _ => lifted os started H enc)

/-- ████ THE STATEMENT ████ -/
theorem proved : Rows.BreakpointPlacesSaid :=
  over
#print axioms proved
end Go.Proofs.Ytmlabapfjliaeaa.breakpointPlaces
