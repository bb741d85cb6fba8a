/-
  BBegins: for every input the law returns true, and its input reads behind the call as it read before. Conditions: none. (The frame of the row's step was written by the kit's proof-skeleton program; this text by mkrow.py.)
-/
import Derived.Test.YtmlabapfjliaeaaOr
import Derived.Test.YtmlabapfjliaeaaRB0
import Derived.Test.YtmlabapfjliaeaaRB1
import Derived.Test.YtmlabapfjliaeaaRB2
import Derived.Test.YtmlabapfjliaeaaRBBegins0
import Derived.Test.YtmlabapfjliaeaaRBBegins1
import Derived.Test.YtmlabapfjliaeaaOx
import Derived.Test.YtmlabapfjliaeaaPu
import Derived.Test.YtmlabapfjliaeaaPv
namespace Go.Proofs.Ytmlabapfjliaeaa.breakpointBegins
open Go.ChangeShapes Go.WideShapes Go.ChangeAt Go.RowKit
set_option linter.unusedVariables false
set_option maxRecDepth 100000

theorem lifted (os : Os) (started : os.Started) (H : Type) (enc : TypeId × Value → H) :
    ReturnsInHanded {} Try.checked os 5 .any (Rows.breakpointBeginsSpec.pre6 enc Try.prog Try.f5 Rows.breakpointBeginsRow.domain false) (Rows.breakpointBeginsSpec.post enc Try.prog Try.f5 false true false false) := by
  refine returnsInHanded_of_change (C := Try.checked) own started (by kernel_rfl) Try.func5
    (ChangeSpec.witness6 (enc := enc) (C := Try.checked) false ⟨#[], #[.slice none 0 0, .slice none 0 0, .int .u8 0], []⟩ 8 (by kernel_rfl) (by kernel_rfl) (by kernel_rfl) (by kernel_rfl)) ?_
  intro W base args ds gs before hval0 hW hcnd _
  have hval : ∀ (j : Nat) t v, Try.f5.params[j]? = some t → args[j]? = some v → Value.okWide Try.prog W .any base t v := hval0
  have hW' := hW
  obtain ⟨p, q, hA0, hV, rfl, hfz, hnd⟩ := hW
  have hA : DataW.TrodAll enc Try.prog W 0 (fun _ => true) true Try.f5.params.toList args.toList ds p := hA0
  rw [Try.params5] at hA hval
  obtain ⟨v0, v1, v2, d0, d1, d2, p0, p1, p2, rfl, rfl, rfl, h0, h1, h2⟩ := trodAll_three hA
  clear hA0 hval0
  obtain ⟨d, hd, c0⟩ := opened_slice Try.underlying22 (hval 0 22 v0 rfl rfl) h0 (fun _ => op_dict)
  obtain ⟨l, hl, c1⟩ := opened_slice Try.underlying23 (hval 1 23 v1 rfl rfl) h1 (fun _ => op_ndl _)
  obtain ⟨n, hn, c2⟩ := opened_byte Try.underlying5 (hval 2 5 v2 rfl rfl) h2
  exact law_calls (args := #[v0, v1, v2]) (lbegins_a d l n hd.1 hd.2 (items_ok hl) hn) (by
    simp only [CVs]
    exact ⟨v0, [v1, v2], rfl, c0, v1, [v2], rfl, c1, v2, [], rfl, c2, rfl⟩) (Q := fun v W' => Rows.breakpointBeginsSpec.post enc Try.prog Try.f5 false true false false W #[v0, v1, v2] v W') (fun W' hk => law_post hW' rfl rfl Try.underlying4 laid hk (by
    rw [Try.params5]
    intro t ht
    simp only [List.mem_cons, List.not_mem_nil, or_false] at ht
    rcases ht with rfl | rfl | rfl <;> exact ⟨by kernel_rfl, of_decide_eq_true (by kernel_rfl)⟩) rfl rfl rfl)

theorem closed : joinedFacts Try.prog 5 Try.f5 Rows.breakpointBeginsSpec Rows.breakpointBeginsRow = true := by
  have k1 : laidOutB Try.prog = true := q1
  have k2 : mapsRowed Try.prog = true := q2
  have k6 : (Try.prog.stops == []) = true := q6
  have k8 : (Try.prog.stopKnobs == []) = true := q8
  have k22 : (Rows.breakpointBeginsRow.plainKeys == Try.prog.plainKeys) = true := q22
  have k23 : Rows.breakpointBeginsRow.shortTexts.isNone = true := q23
  have k24 : Try.prog.stopsHeard = true := q24
  have k25 : Try.prog.mayEnter = true := q25
  have k26 : (Rows.breakpointBeginsRow.lifted == Try.prog.liftsFinal) = true := q26
  have k27 : (Try.prog.make == some Rows.breakpointBeginsRow.make) = true := q27
  unfold joinedFacts
  simp only [j0, k1, k2, j3, j4, j5, k6, j7, k8, j9, j10, j11, j12, j13, j14, j15, j16, j17, j18, j19, j20, j21, k22, k23, k24, k25, k26, k27, j29, j30, j31, Bool.and_self, Bool.true_and, Bool.and_true]
  rfl

theorem over : Rows.breakpointBeginsRow.holds Try.pinned (OpenSpec.ofChange Rows.breakpointBeginsSpec) :=
  OpenClaim.holds_of_wide 5 Try.f5 rfl rfl rfl rfl rfl rfl rfl ⟨rfl, rfl, rfl, rfl, rfl⟩ rfl rfl rfl rfl rfl (by kernel_rfl) Try.func5 closed
    (of_decide_eq_true (by kernel_rfl)) (by unfold Func.isWrapper; first | (rw [if_pos (by decide +kernel)]; kernel_rfl) | (rw [if_neg (by decide +kernel)]; exact ⟨rfl, rfl⟩))
    (fun os started H enc _ => lifted os started H enc)

/-- ████ THE STATEMENT ████ -/
theorem proved : Rows.BreakpointBeginsSaid :=
  over
#print axioms proved
end Go.Proofs.Ytmlabapfjliaeaa.breakpointBegins
