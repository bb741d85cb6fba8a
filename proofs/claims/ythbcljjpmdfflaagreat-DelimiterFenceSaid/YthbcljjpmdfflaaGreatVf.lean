/-
 Layer 6's reference on the abstract machine: Same.
-/
import Derived.Test.YthbcljjpmdfflaaGreatG7
import Derived.Test.YthbcljjpmdfflaaGreatG4
namespace Go.Proofs.YthbcljjpmdfflaaGreat
open Go.RowKit
set_option linter.unusedSimpArgs false
set_option linter.unusedVariables false
set_option maxRecDepth 100000
mutual
def Box.fit : Box → Prop
 | ⟨_, _, _, _, _, _, _, _, kids, _, src⟩ => kids.length ≤ maxLen ∧ src.length ≤ maxLen ∧ Box.fits kids
def Box.fits : List Box → Prop
 | [] => True
 | b :: l => b.fit ∧ Box.fits l
end
theorem Box.fits_get : ∀ {l : List Box}, Box.fits l → ∀ b ∈ l, b.fit
 | [], _, b, h => by cases h
 | x :: l, hl, b, h => by
   simp only [Box.fits] at hl
   rcases List.mem_cons.1 h with rfl | h
   · exact hl.1
   · exact Box.fits_get hl.2 b h
theorem rows_map : ∀ l : List Box, Box.rows l = l.map Box.row
 | [] => rfl
 | x :: l => by simp only [Box.rows, List.map_cons]; rw [rows_map l]
end Go.Proofs.YthbcljjpmdfflaaGreat
