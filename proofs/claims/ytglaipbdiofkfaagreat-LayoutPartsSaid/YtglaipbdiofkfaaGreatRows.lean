/-
  NARROWER THAN 'FOR EVERY INPUT', by the rows' own cells (each row's printed sentence says how): LayoutTree: loops · LayoutParts: loops.
  DERIVED. THE GIVEN ROWS OF THIS SEAT. 2 by the template 'for every input the law returns true; each argument reads behind the call as it read before'; 0 by the template 'total and deterministic' (their statements: YtglaipbdiofkfaaGreatTotals.lean).
  GIVEN WITH THE SEED: the statements are not yours to turn. If you find one false, say at which input.
  Laid BY PROGRAM, IN A SANDBOX (cutbox-rows.mjs): the forced cells as the released guide's own fill.sh prints them over the translation 9855360015aa1217… (all of the seat's roots in one cut). By AI agents, Wed Nov 11 2026. No macro, syntax, notation, axiom, sorry.
-/
import Derived.Test.YtglaipbdiofkfaaGreatChecked
import GoSem.Claim
import GoSem.ClaimJoined
import GoSem.ClaimMapViews
import Derived.JoinedTies
import Derived.KernelRfl
namespace Go.Proofs.YtglaipbdiofkfaaGreat
/- THE CELL 'sum', in the pinned program and in every row, IS THE sha256 OF THE DUMP (.gsa) THAT YtglaipbdiofkfaaGreatProg.lean LOADS. Nothing in Lean hashes anything: it is a label: what it is worth is what the hold of that sum in a sandbox is worth. -/
noncomputable def Tryz.pinned : Pinned := { name := "ytglaipbdiofkfaagreat", sum := "9855360015aa1217553d8ed4b466280509f28f1ee4bdd64dedeaf86654d4a671", checked := Tryz.checked }
namespace Rows
def none {H : Type} : Left H := { results := [], args := [] }

/-- 'vinculumlaw38.LayoutTree': WHATEVER THE INPUT: true; the input reads as it did. -/
def layoutTreeSpec : ChangeSpec := { name := "layoutTree", fn := fun _ => fun
  | [d1, d2, d3] => { results := [.lit (.bool true)], args := [d1, d2, d3] }
  | _ => none }
def layoutTreeRow : OpenClaim := { program := "ytglaipbdiofkfaagreat", sum := "9855360015aa1217553d8ed4b466280509f28f1ee4bdd64dedeaf86654d4a671", func := "vinculum/vinculumlaw38.LayoutTree", spec := "layoutTree", inPlace := ["internal/bytealg.IndexByteString", "internal/bytealg.IndexString"], unfollowed := true, recurses := true, named := ["internal/bytealg.MaxLen"], loops := true, plainKeys := false, apart := false }
def LayoutTreeSaid : Prop := layoutTreeRow.holds Tryz.pinned (OpenSpec.ofChange layoutTreeSpec)

/-- ITS FALSE NEIGHBOUR: 'it returns false'. Refute it at one input. -/
def layoutTreeWrong : ChangeSpec := { name := "layoutTree", fn := fun _ => fun
  | [d1, d2, d3] => { results := [.lit (.bool false)], args := [d1, d2, d3] }
  | _ => none }
def LayoutTreeWrongFalsely : Prop := layoutTreeRow.holds Tryz.pinned (OpenSpec.ofChange layoutTreeWrong)

/-- 'vinculumlaw38.LayoutParts': WHATEVER THE INPUT: true; the input reads as it did. -/
def layoutPartsSpec : ChangeSpec := { name := "layoutParts", fn := fun _ => fun
  | [d1, d2, d3] => { results := [.lit (.bool true)], args := [d1, d2, d3] }
  | _ => none }
def layoutPartsRow : OpenClaim := { program := "ytglaipbdiofkfaagreat", sum := "9855360015aa1217553d8ed4b466280509f28f1ee4bdd64dedeaf86654d4a671", func := "vinculum/vinculumlaw38.LayoutParts", spec := "layoutParts", inPlace := ["internal/bytealg.IndexByteString", "internal/bytealg.IndexString"], unfollowed := true, recurses := true, named := ["internal/bytealg.MaxLen"], loops := true, plainKeys := false, apart := false }
def LayoutPartsSaid : Prop := layoutPartsRow.holds Tryz.pinned (OpenSpec.ofChange layoutPartsSpec)

/-- ITS FALSE NEIGHBOUR: 'it returns false'. Refute it at one input. -/
def layoutPartsWrong : ChangeSpec := { name := "layoutParts", fn := fun _ => fun
  | [d1, d2, d3] => { results := [.lit (.bool false)], args := [d1, d2, d3] }
  | _ => none }
def LayoutPartsWrongFalsely : Prop := layoutPartsRow.holds Tryz.pinned (OpenSpec.ofChange layoutPartsWrong)

/- THE SECOND FORM. 'bulk': how many values and letters a reading holds, each counted each time it is reached (what is shared counts as often as it is met; a slice's spare places count too). A statement '..UptoSaid' is the law's where the arguments, and the package variables that the reading takes, are together of bulk at most 1048576: NARROWER than '..Said'. Prove '..Said' where nothing that the law and all that it calls make is longer than what came in: it says more and counts as full. Else prove '..UptoSaid'. A law counts once. -/
mutual
def uptoBulk {H : Type} : DataW H → Nat
  | .lit (.string bytes) => bytes.length + 1
  | .lit _ => 1
  | .nil => 1
  | .ptr d => uptoBulk d + 1
  | .slice elems spare => uptoBulkAll elems + uptoBulkAll spare + 1
  | .agg parts => uptoBulkAll parts + 1
  | .iface _ d => uptoBulk d + 1
  | .map entries => uptoBulkEntries entries + 1
  | .held _ => 1
def uptoBulkAll {H : Type} : List (DataW H) → Nat
  | [] => 0
  | d :: r => uptoBulk d + uptoBulkAll r
def uptoBulkEntries {H : Type} : List (Lit × DataW H) → Nat
  | [] => 0
  | x :: r => uptoBulkEntry x + uptoBulkEntries r
def uptoBulkEntry {H : Type} : Lit × DataW H → Nat
  | (.string bytes, d) => bytes.length + uptoBulk d + 1
  | (_, d) => uptoBulk d + 1
 end
def uptoSmall : (H : Type) → List (DataW H) → Bool := fun _ ds => decide (uptoBulkAll ds ≤ 1048576)
def OpenSpec.upto (s : _root_.Go.ChangeSpec) : _root_.Go.OpenSpec := { _root_.Go.OpenSpec.ofChange s with cond := some uptoSmall }

/-- 'vinculumlaw38.LayoutTree', WHERE WHAT IT READS IS OF BULK AT MOST 1048576: true; the input reads as it did. -/
def layoutTreeUptoRow : OpenClaim := { program := "ytglaipbdiofkfaagreat", sum := "9855360015aa1217553d8ed4b466280509f28f1ee4bdd64dedeaf86654d4a671", func := "vinculum/vinculumlaw38.LayoutTree", spec := "layoutTree", inPlace := ["internal/bytealg.IndexByteString", "internal/bytealg.IndexString"], unfollowed := true, recurses := true, named := ["internal/bytealg.MaxLen"], loops := true, plainKeys := false, apart := false, narrowed := true }
def LayoutTreeUptoSaid : Prop := layoutTreeUptoRow.holds Tryz.pinned (OpenSpec.upto layoutTreeSpec)

/-- 'vinculumlaw38.LayoutParts', WHERE WHAT IT READS IS OF BULK AT MOST 1048576: true; the input reads as it did. -/
def layoutPartsUptoRow : OpenClaim := { program := "ytglaipbdiofkfaagreat", sum := "9855360015aa1217553d8ed4b466280509f28f1ee4bdd64dedeaf86654d4a671", func := "vinculum/vinculumlaw38.LayoutParts", spec := "layoutParts", inPlace := ["internal/bytealg.IndexByteString", "internal/bytealg.IndexString"], unfollowed := true, recurses := true, named := ["internal/bytealg.MaxLen"], loops := true, plainKeys := false, apart := false, narrowed := true }
def LayoutPartsUptoSaid : Prop := layoutPartsUptoRow.holds Tryz.pinned (OpenSpec.upto layoutPartsSpec)

end Rows
end Go.Proofs.YtglaipbdiofkfaaGreat
