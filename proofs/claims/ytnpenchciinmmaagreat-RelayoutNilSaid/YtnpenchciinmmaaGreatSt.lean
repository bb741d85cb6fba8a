/-
  Styles (layer 25), on the abstract machine.
-/
import Derived.Test.YtnpenchciinmmaaGreatRow
import Derived.Test.YtnpenchciinmmaaGreatHa
namespace Go.Proofs.YtnpenchciinmmaaGreat
open Go.RowKit
set_option linter.unusedSimpArgs false
set_option linter.unusedVariables false
set_option maxRecDepth 100000

structure Style where
  level : Int
  cramped : Bool
def styleV (s : Style) : V := .agg [.c (.int .i64 s.level), .c (.bool s.cramped)]
def Style.ok (s : Style) : Bool := decide (0 ≤ s.level) && decide (s.level ≤ 3)
theorem stvalid_a (s : Style) : AC Tryz.prog 69 [styleV s] (.c (.bool s.ok)) := by
  obtain ⟨l, c⟩ := s
  unfold styleV
  by_cases h : 0 ≤ l
  · have e : Style.ok ⟨l, c⟩ = decide (l ≤ 3) := by unfold Style.ok; rw [decide_eq_true h, Bool.true_and]
    refine en Tryz.func69 Tryz.ntmps69 ?_
    refine go @h ?_
    simp [aRet, ares, aresL, ares1, V.pub, V.pubs, ldV, Tryz.results69, e]
  · have e : Style.ok ⟨l, c⟩ = false := by unfold Style.ok; rw [decide_eq_false h, Bool.false_and]
    refine en Tryz.func69 Tryz.ntmps69 ?_
    refine go @h ?_
    simp [aRet, ares, aresL, ares1, V.pub, V.pubs, ldV, Tryz.results69, e]
/-- the size of a style -/
def sizeOf_ (p : Params) (s : Style) : Int := if s.ok = false then 0 else if s.level = 2 then p.script else if s.level = 3 then p.scriptScript else 100

end Go.Proofs.YtnpenchciinmmaaGreat
