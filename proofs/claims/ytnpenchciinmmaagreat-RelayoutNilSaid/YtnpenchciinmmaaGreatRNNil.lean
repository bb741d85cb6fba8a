/-
  NNil: for every input the law returns true, and its input reads behind the call as it read before. Conditions: none. (The frame of the row's step was written by the kit's proof-skeleton program; this text by mkrow.py.)
-/
import Derived.Test.YtnpenchciinmmaaGreatOr
import Derived.Test.YtnpenchciinmmaaGreatRN0
import Derived.Test.YtnpenchciinmmaaGreatRN1
import Derived.Test.YtnpenchciinmmaaGreatRN2
import Derived.Test.YtnpenchciinmmaaGreatRNNil0
import Derived.Test.YtnpenchciinmmaaGreatRNNil1
import Derived.Test.YtnpenchciinmmaaGreatOz
import Derived.Test.YtnpenchciinmmaaGreatKr
namespace Go.Proofs.YtnpenchciinmmaaGreat.relayoutNil
open Go.ChangeShapes Go.WideShapes Go.ChangeAt Go.RowKit
set_option linter.unusedVariables false
set_option maxRecDepth 100000

theorem lifted (os : Os) (started : os.Started) (H : Type) (enc : TypeId × Value → H) :
    ReturnsInHanded {} Tryz.checked os 3 .any (Rows.relayoutNilSpec.pre6 enc Tryz.prog Tryz.f3 Rows.relayoutNilRow.domain false) (Rows.relayoutNilSpec.post enc Tryz.prog Tryz.f3 false true false false) := by
  refine returnsInHanded_of_change (C := Tryz.checked) own started (by kernel_rfl) Tryz.func3
    (ChangeSpec.witness6 (enc := enc) (C := Tryz.checked) false ⟨#[], #[.agg #[.int .i64 0, .slice none 0 0, .int .i64 0, .int .i64 0, .slice none 0 0, .int .i64 0, .string ⟨#[]⟩, .string ⟨#[]⟩]], []⟩ 8 (by kernel_rfl) (by kernel_rfl) (by kernel_rfl) (by kernel_rfl)) ?_
  intro W base args ds gs before hval0 hW hcnd _
  have hval : ∀ (j : Nat) t v, Tryz.f3.params[j]? = some t → args[j]? = some v → Value.okWide Tryz.prog W .any base t v := hval0
  have hW' := hW
  obtain ⟨p, q, hA0, hV, rfl, hfz, hnd⟩ := hW
  have hA : DataW.TrodAll enc Tryz.prog W 0 (fun _ => true) true Tryz.f3.params.toList args.toList ds p := hA0
  rw [Tryz.params3] at hA hval
  obtain ⟨v0, d0, rfl, rfl, h0⟩ := trodAll_one hA
  clear hA0 hval0
  obtain ⟨q, hq, c0⟩ := opened_struct Tryz.underlying25 (hval 0 25 v0 rfl rfl) h0 (fun _ => op_opI)
  exact law_calls (args := #[v0]) (lnil39_a q hq) (by
    simp only [CVs]
    exact ⟨v0, [], rfl, c0, rfl⟩) (Q := fun v W' => Rows.relayoutNilSpec.post enc Tryz.prog Tryz.f3 false true false false W #[v0] v W') (fun W' hk => law_post hW' rfl rfl Tryz.underlying4 laid hk (by
    rw [Tryz.params3]
    intro t ht
    simp only [List.mem_cons, List.not_mem_nil, or_false] at ht
    rcases ht with rfl <;> exact ⟨by kernel_rfl, of_decide_eq_true (by kernel_rfl)⟩) rfl rfl rfl)

theorem closed : joinedFacts Tryz.prog 3 Tryz.f3 Rows.relayoutNilSpec Rows.relayoutNilRow = true := by
  have k1 : laidOutB Tryz.prog = true := q1
  have k2 : mapsRowed Tryz.prog = true := q2
  have k6 : (Tryz.prog.stops == []) = true := q6
  have k8 : (Tryz.prog.stopKnobs == []) = true := q8
  have k22 : (Rows.relayoutNilRow.plainKeys == Tryz.prog.plainKeys) = true := q22
  have k23 : Rows.relayoutNilRow.shortTexts.isNone = true := q23
  have k24 : Tryz.prog.stopsHeard = true := q24
  have k25 : Tryz.prog.mayEnter = true := q25
  have k26 : (Rows.relayoutNilRow.lifted == Tryz.prog.liftsFinal) = true := q26
  have k27 : (Tryz.prog.make == some Rows.relayoutNilRow.make) = true := q27
  unfold joinedFacts
  simp only [j0, k1, k2, j3, j4, j5, k6, j7, k8, j9, j10, j11, j12, j13, j14, j15, j16, j17, j18, j19, j20, j21, k22, k23, k24, k25, k26, k27, j29, j30, j31, Bool.and_self, Bool.true_and, Bool.and_true]
  rfl

theorem over : Rows.relayoutNilRow.holds Tryz.pinned (OpenSpec.ofChange Rows.relayoutNilSpec) :=
  OpenClaim.holds_of_wide 3 Tryz.f3 rfl rfl rfl rfl rfl rfl rfl ⟨rfl, rfl, rfl, rfl, rfl⟩ rfl rfl rfl rfl rfl (by kernel_rfl) Tryz.func3 closed
    (of_decide_eq_true (by kernel_rfl)) (by unfold Func.isWrapper; first | (rw [if_pos (by decide +kernel)]; kernel_rfl) | (rw [if_neg (by decide +kernel)]; exact ⟨rfl, rfl⟩))
    (fun os started H enc _ => lifted os started H enc)

/-- ████ THE STATEMENT ████ -/
theorem proved : Rows.RelayoutNilSaid :=
  over
#print axioms proved
end Go.Proofs.YtnpenchciinmmaaGreat.relayoutNil
