/-
 Small facts on boxes.
-/
import Derived.Test.YthbcljjpmdfflaaGreatDa
namespace Go.Proofs.YthbcljjpmdfflaaGreat
open Go.RowKit
set_option linter.unusedSimpArgs false
set_option linter.unusedVariables false
set_option maxRecDepth 100000
@[simp] theorem Box.vs_frzs (b : Box) (k : Nat) (row : List C) : V.frzs k row b.vs = b.vs := by cases b; simp [Box.vs, Box.row, V.frzs, V.frz]
theorem mxi (a b : Int) : (if a < b then b else a) = mx a b := rfl
theorem few_sz {f : Font} (h : fewB f = true) : ∀ s ∈ f.stretches, s.sizes.length ≤ 1000 := by
 intro s hs
 simp only [fewB, Bool.and_eq_true, List.all_eq_true, decide_eq_true_eq] at h
 have := (h.2 s hs).1
 omega
section
variable (b : Box) (x y : Int)
@[simp] theorem at_w : (b.at_ x y).w = b.w := rfl
@[simp] theorem at_h : (b.at_ x y).h = b.h := rfl
@[simp] theorem at_d : (b.at_ x y).d = b.d := rfl
@[simp] theorem at_x : (b.at_ x y).x = x := rfl
@[simp] theorem at_y : (b.at_ x y).y = y := rfl
theorem at_at (x' y' : Int) : (b.at_ x y).at_ x' y' = b.at_ x' y' := rfl
theorem at_self : b.at_ b.x b.y = b := by cases b; rfl
end
@[simp] theorem rule_w (w h d : Int) : (ruleB w h d).w = w := rfl
@[simp] theorem rule_h (w h d : Int) : (ruleB w h d).h = h := rfl
@[simp] theorem rule_d (w h d : Int) : (ruleB w h d).d = d := rfl
theorem zero_fit : Box.zero.fit := ⟨(Nat.zero_le _ : 0 ≤ maxLen), (Nat.zero_le _ : 0 ≤ maxLen), trivial⟩
end Go.Proofs.YthbcljjpmdfflaaGreat
