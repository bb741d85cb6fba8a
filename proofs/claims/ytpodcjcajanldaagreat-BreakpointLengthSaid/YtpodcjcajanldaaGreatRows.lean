/-
  NARROWER THAN 'FOR EVERY INPUT', by the rows' own cells (each row's printed sentence says how): LayoutTree: loops · LayoutBoxes: loops · LayoutAdvance: loops · LayoutSources: loops · LayoutBuiltIn: loops · LayoutParts: loops · LayoutStyle: loops · LayoutRows: loops · BreakpointPieces: loops · BreakpointLength: loops.
  DERIVED. THE GIVEN ROWS OF THIS SEAT. 10 by the template 'for every input the law returns true; each argument reads behind the call as it read before'; 0 by the template 'total and deterministic' (their statements: YtpodcjcajanldaaGreatTotals.lean).
  GIVEN WITH THE SEED: the statements are not yours to turn. If you find one false, say at which input.
  Laid BY PROGRAM, IN A SANDBOX (cutbox-rows.mjs): the forced cells as the released guide's own fill.sh prints them over the translation 4d7c476537fcd83a… (all of the seat's roots in one cut). By AI agents, Wed Nov 11 2026. No macro, syntax, notation, axiom, sorry.
-/
import Derived.Test.YtpodcjcajanldaaGreatChecked
import GoSem.Claim
import GoSem.ClaimJoined
import GoSem.ClaimMapViews
import Derived.JoinedTies
import Derived.KernelRfl
namespace Go.Proofs.YtpodcjcajanldaaGreat
/- THE CELL 'sum', in the pinned program and in every row, IS THE sha256 OF THE DUMP (.gsa) THAT YtpodcjcajanldaaGreatProg.lean LOADS. Nothing in Lean hashes anything: it is a label: what it is worth is what the hold of that sum in a sandbox is worth. -/
noncomputable def Tryz.pinned : Pinned := { name := "ytpodcjcajanldaagreat", sum := "4d7c476537fcd83a26f24c4286b9cc79b78bcbc72162546e8c72a188ef2b4323", checked := Tryz.checked }
namespace Rows
def none {H : Type} : Left H := { results := [], args := [] }

/-- 'vinculumlaw38.LayoutTree': WHATEVER THE INPUT: true; the input reads as it did. -/
def layoutTreeSpec : ChangeSpec := { name := "layoutTree", fn := fun _ => fun
  | [d1, d2, d3] => { results := [.lit (.bool true)], args := [d1, d2, d3] }
  | _ => none }
def layoutTreeRow : OpenClaim := { program := "ytpodcjcajanldaagreat", sum := "4d7c476537fcd83a26f24c4286b9cc79b78bcbc72162546e8c72a188ef2b4323", func := "vinculum/vinculumlaw38.LayoutTree", spec := "layoutTree", inPlace := ["internal/bytealg.IndexByteString", "internal/bytealg.IndexString"], unfollowed := true, recurses := true, named := ["internal/bytealg.MaxLen"], loops := true, plainKeys := false, apart := false }
def LayoutTreeSaid : Prop := layoutTreeRow.holds Tryz.pinned (OpenSpec.ofChange layoutTreeSpec)

/-- ITS FALSE NEIGHBOUR: 'it returns false'. Refute it at one input. -/
def layoutTreeWrong : ChangeSpec := { name := "layoutTree", fn := fun _ => fun
  | [d1, d2, d3] => { results := [.lit (.bool false)], args := [d1, d2, d3] }
  | _ => none }
def LayoutTreeWrongFalsely : Prop := layoutTreeRow.holds Tryz.pinned (OpenSpec.ofChange layoutTreeWrong)

/-- 'vinculumlaw38.LayoutBoxes': WHATEVER THE INPUT: true; the input reads as it did. -/
def layoutBoxesSpec : ChangeSpec := { name := "layoutBoxes", fn := fun _ => fun
  | [d1, d2, d3] => { results := [.lit (.bool true)], args := [d1, d2, d3] }
  | _ => none }
def layoutBoxesRow : OpenClaim := { program := "ytpodcjcajanldaagreat", sum := "4d7c476537fcd83a26f24c4286b9cc79b78bcbc72162546e8c72a188ef2b4323", func := "vinculum/vinculumlaw38.LayoutBoxes", spec := "layoutBoxes", inPlace := ["internal/bytealg.IndexByteString", "internal/bytealg.IndexString"], unfollowed := true, recurses := true, named := ["internal/bytealg.MaxLen"], loops := true, plainKeys := false, apart := false }
def LayoutBoxesSaid : Prop := layoutBoxesRow.holds Tryz.pinned (OpenSpec.ofChange layoutBoxesSpec)

/-- ITS FALSE NEIGHBOUR: 'it returns false'. Refute it at one input. -/
def layoutBoxesWrong : ChangeSpec := { name := "layoutBoxes", fn := fun _ => fun
  | [d1, d2, d3] => { results := [.lit (.bool false)], args := [d1, d2, d3] }
  | _ => none }
def LayoutBoxesWrongFalsely : Prop := layoutBoxesRow.holds Tryz.pinned (OpenSpec.ofChange layoutBoxesWrong)

/-- 'vinculumlaw38.LayoutAdvance': WHATEVER THE INPUT: true; the input reads as it did. -/
def layoutAdvanceSpec : ChangeSpec := { name := "layoutAdvance", fn := fun _ => fun
  | [d1, d2, d3] => { results := [.lit (.bool true)], args := [d1, d2, d3] }
  | _ => none }
def layoutAdvanceRow : OpenClaim := { program := "ytpodcjcajanldaagreat", sum := "4d7c476537fcd83a26f24c4286b9cc79b78bcbc72162546e8c72a188ef2b4323", func := "vinculum/vinculumlaw38.LayoutAdvance", spec := "layoutAdvance", inPlace := ["internal/bytealg.IndexByteString", "internal/bytealg.IndexString"], unfollowed := true, recurses := true, named := ["internal/bytealg.MaxLen"], loops := true, plainKeys := false, apart := false }
def LayoutAdvanceSaid : Prop := layoutAdvanceRow.holds Tryz.pinned (OpenSpec.ofChange layoutAdvanceSpec)

/-- ITS FALSE NEIGHBOUR: 'it returns false'. Refute it at one input. -/
def layoutAdvanceWrong : ChangeSpec := { name := "layoutAdvance", fn := fun _ => fun
  | [d1, d2, d3] => { results := [.lit (.bool false)], args := [d1, d2, d3] }
  | _ => none }
def LayoutAdvanceWrongFalsely : Prop := layoutAdvanceRow.holds Tryz.pinned (OpenSpec.ofChange layoutAdvanceWrong)

/-- 'vinculumlaw38.LayoutSources': WHATEVER THE INPUT: true; the input reads as it did. -/
def layoutSourcesSpec : ChangeSpec := { name := "layoutSources", fn := fun _ => fun
  | [d1, d2, d3] => { results := [.lit (.bool true)], args := [d1, d2, d3] }
  | _ => none }
def layoutSourcesRow : OpenClaim := { program := "ytpodcjcajanldaagreat", sum := "4d7c476537fcd83a26f24c4286b9cc79b78bcbc72162546e8c72a188ef2b4323", func := "vinculum/vinculumlaw38.LayoutSources", spec := "layoutSources", inPlace := ["internal/bytealg.IndexByteString", "internal/bytealg.IndexString"], unfollowed := true, recurses := true, named := ["internal/bytealg.MaxLen"], loops := true, plainKeys := false, apart := false }
def LayoutSourcesSaid : Prop := layoutSourcesRow.holds Tryz.pinned (OpenSpec.ofChange layoutSourcesSpec)

/-- ITS FALSE NEIGHBOUR: 'it returns false'. Refute it at one input. -/
def layoutSourcesWrong : ChangeSpec := { name := "layoutSources", fn := fun _ => fun
  | [d1, d2, d3] => { results := [.lit (.bool false)], args := [d1, d2, d3] }
  | _ => none }
def LayoutSourcesWrongFalsely : Prop := layoutSourcesRow.holds Tryz.pinned (OpenSpec.ofChange layoutSourcesWrong)

/-- 'vinculumlaw38.LayoutBuiltIn': WHATEVER THE INPUT: true; the input reads as it did. -/
def layoutBuiltInSpec : ChangeSpec := { name := "layoutBuiltIn", fn := fun _ => fun
  | [d1, d2] => { results := [.lit (.bool true)], args := [d1, d2] }
  | _ => none }
def layoutBuiltInRow : OpenClaim := { program := "ytpodcjcajanldaagreat", sum := "4d7c476537fcd83a26f24c4286b9cc79b78bcbc72162546e8c72a188ef2b4323", func := "vinculum/vinculumlaw38.LayoutBuiltIn", spec := "layoutBuiltIn", inPlace := ["internal/bytealg.IndexByteString", "internal/bytealg.IndexString"], unfollowed := true, recurses := true, named := ["internal/bytealg.MaxLen"], loops := true, plainKeys := false, apart := false }
def LayoutBuiltInSaid : Prop := layoutBuiltInRow.holds Tryz.pinned (OpenSpec.ofChange layoutBuiltInSpec)

/-- ITS FALSE NEIGHBOUR: 'it returns false'. Refute it at one input. -/
def layoutBuiltInWrong : ChangeSpec := { name := "layoutBuiltIn", fn := fun _ => fun
  | [d1, d2] => { results := [.lit (.bool false)], args := [d1, d2] }
  | _ => none }
def LayoutBuiltInWrongFalsely : Prop := layoutBuiltInRow.holds Tryz.pinned (OpenSpec.ofChange layoutBuiltInWrong)

/-- 'vinculumlaw38.LayoutParts': WHATEVER THE INPUT: true; the input reads as it did. -/
def layoutPartsSpec : ChangeSpec := { name := "layoutParts", fn := fun _ => fun
  | [d1, d2, d3] => { results := [.lit (.bool true)], args := [d1, d2, d3] }
  | _ => none }
def layoutPartsRow : OpenClaim := { program := "ytpodcjcajanldaagreat", sum := "4d7c476537fcd83a26f24c4286b9cc79b78bcbc72162546e8c72a188ef2b4323", func := "vinculum/vinculumlaw38.LayoutParts", spec := "layoutParts", inPlace := ["internal/bytealg.IndexByteString", "internal/bytealg.IndexString"], unfollowed := true, recurses := true, named := ["internal/bytealg.MaxLen"], loops := true, plainKeys := false, apart := false }
def LayoutPartsSaid : Prop := layoutPartsRow.holds Tryz.pinned (OpenSpec.ofChange layoutPartsSpec)

/-- ITS FALSE NEIGHBOUR: 'it returns false'. Refute it at one input. -/
def layoutPartsWrong : ChangeSpec := { name := "layoutParts", fn := fun _ => fun
  | [d1, d2, d3] => { results := [.lit (.bool false)], args := [d1, d2, d3] }
  | _ => none }
def LayoutPartsWrongFalsely : Prop := layoutPartsRow.holds Tryz.pinned (OpenSpec.ofChange layoutPartsWrong)

/-- 'vinculumlaw38.LayoutStyle': WHATEVER THE INPUT: true; the input reads as it did. -/
def layoutStyleSpec : ChangeSpec := { name := "layoutStyle", fn := fun _ => fun
  | [d1, d2] => { results := [.lit (.bool true)], args := [d1, d2] }
  | _ => none }
def layoutStyleRow : OpenClaim := { program := "ytpodcjcajanldaagreat", sum := "4d7c476537fcd83a26f24c4286b9cc79b78bcbc72162546e8c72a188ef2b4323", func := "vinculum/vinculumlaw38.LayoutStyle", spec := "layoutStyle", inPlace := ["internal/bytealg.IndexByteString", "internal/bytealg.IndexString"], unfollowed := true, recurses := true, named := ["internal/bytealg.MaxLen"], loops := true, plainKeys := false, apart := false }
def LayoutStyleSaid : Prop := layoutStyleRow.holds Tryz.pinned (OpenSpec.ofChange layoutStyleSpec)

/-- ITS FALSE NEIGHBOUR: 'it returns false'. Refute it at one input. -/
def layoutStyleWrong : ChangeSpec := { name := "layoutStyle", fn := fun _ => fun
  | [d1, d2] => { results := [.lit (.bool false)], args := [d1, d2] }
  | _ => none }
def LayoutStyleWrongFalsely : Prop := layoutStyleRow.holds Tryz.pinned (OpenSpec.ofChange layoutStyleWrong)

/-- 'vinculumlaw38.LayoutRows': WHATEVER THE INPUT: true; the input reads as it did. -/
def layoutRowsSpec : ChangeSpec := { name := "layoutRows", fn := fun _ => fun
  | [d1, d2, d3] => { results := [.lit (.bool true)], args := [d1, d2, d3] }
  | _ => none }
def layoutRowsRow : OpenClaim := { program := "ytpodcjcajanldaagreat", sum := "4d7c476537fcd83a26f24c4286b9cc79b78bcbc72162546e8c72a188ef2b4323", func := "vinculum/vinculumlaw38.LayoutRows", spec := "layoutRows", inPlace := ["internal/bytealg.IndexByteString", "internal/bytealg.IndexString"], unfollowed := true, recurses := true, named := ["internal/bytealg.MaxLen"], loops := true, plainKeys := false, apart := false }
def LayoutRowsSaid : Prop := layoutRowsRow.holds Tryz.pinned (OpenSpec.ofChange layoutRowsSpec)

/-- ITS FALSE NEIGHBOUR: 'it returns false'. Refute it at one input. -/
def layoutRowsWrong : ChangeSpec := { name := "layoutRows", fn := fun _ => fun
  | [d1, d2, d3] => { results := [.lit (.bool false)], args := [d1, d2, d3] }
  | _ => none }
def LayoutRowsWrongFalsely : Prop := layoutRowsRow.holds Tryz.pinned (OpenSpec.ofChange layoutRowsWrong)

/-- 'vinculumlaw43.BreakpointPieces': WHATEVER THE INPUT: true; the input reads as it did. -/
def breakpointPiecesSpec : ChangeSpec := { name := "breakpointPieces", fn := fun _ => fun
  | [d1, d2, d3] => { results := [.lit (.bool true)], args := [d1, d2, d3] }
  | _ => none }
def breakpointPiecesRow : OpenClaim := { program := "ytpodcjcajanldaagreat", sum := "4d7c476537fcd83a26f24c4286b9cc79b78bcbc72162546e8c72a188ef2b4323", func := "vinculum/vinculumlaw43.BreakpointPieces", spec := "breakpointPieces", inPlace := ["internal/bytealg.IndexByteString", "internal/bytealg.IndexString"], unfollowed := true, recurses := true, named := ["internal/bytealg.MaxLen"], loops := true, plainKeys := false, apart := false }
def BreakpointPiecesSaid : Prop := breakpointPiecesRow.holds Tryz.pinned (OpenSpec.ofChange breakpointPiecesSpec)

/-- ITS FALSE NEIGHBOUR: 'it returns false'. Refute it at one input. -/
def breakpointPiecesWrong : ChangeSpec := { name := "breakpointPieces", fn := fun _ => fun
  | [d1, d2, d3] => { results := [.lit (.bool false)], args := [d1, d2, d3] }
  | _ => none }
def BreakpointPiecesWrongFalsely : Prop := breakpointPiecesRow.holds Tryz.pinned (OpenSpec.ofChange breakpointPiecesWrong)

/-- 'vinculumlaw43.BreakpointLength': WHATEVER THE INPUT: true; the input reads as it did. -/
def breakpointLengthSpec : ChangeSpec := { name := "breakpointLength", fn := fun _ => fun
  | [d1, d2, d3] => { results := [.lit (.bool true)], args := [d1, d2, d3] }
  | _ => none }
def breakpointLengthRow : OpenClaim := { program := "ytpodcjcajanldaagreat", sum := "4d7c476537fcd83a26f24c4286b9cc79b78bcbc72162546e8c72a188ef2b4323", func := "vinculum/vinculumlaw43.BreakpointLength", spec := "breakpointLength", inPlace := ["internal/bytealg.IndexByteString", "internal/bytealg.IndexString"], unfollowed := true, recurses := true, named := ["internal/bytealg.MaxLen"], loops := true, plainKeys := false, apart := false }
def BreakpointLengthSaid : Prop := breakpointLengthRow.holds Tryz.pinned (OpenSpec.ofChange breakpointLengthSpec)

/-- ITS FALSE NEIGHBOUR: 'it returns false'. Refute it at one input. -/
def breakpointLengthWrong : ChangeSpec := { name := "breakpointLength", fn := fun _ => fun
  | [d1, d2, d3] => { results := [.lit (.bool false)], args := [d1, d2, d3] }
  | _ => none }
def BreakpointLengthWrongFalsely : Prop := breakpointLengthRow.holds Tryz.pinned (OpenSpec.ofChange breakpointLengthWrong)

/- THE SECOND FORM. 'bulk': how many values and letters a reading holds, each counted each time it is reached (what is shared counts as often as it is met; a slice's spare places count too). A statement '..UptoSaid' is the law's where the arguments, and the package variables that the reading takes, are together of bulk at most 1048576: NARROWER than '..Said'. Prove '..Said' where nothing that the law and all that it calls make is longer than what came in: it says more and counts as full. Else prove '..UptoSaid'. A law counts once. -/
mutual
def uptoBulk {H : Type} : DataW H → Nat
  | .lit (.string bytes) => bytes.length + 1
  | .lit _ => 1
  | .nil => 1
  | .ptr d => uptoBulk d + 1
  | .slice elems spare => uptoBulkAll elems + uptoBulkAll spare + 1
  | .agg parts => uptoBulkAll parts + 1
  | .iface _ d => uptoBulk d + 1
  | .map entries => uptoBulkEntries entries + 1
  | .held _ => 1
def uptoBulkAll {H : Type} : List (DataW H) → Nat
  | [] => 0
  | d :: r => uptoBulk d + uptoBulkAll r
def uptoBulkEntries {H : Type} : List (Lit × DataW H) → Nat
  | [] => 0
  | x :: r => uptoBulkEntry x + uptoBulkEntries r
def uptoBulkEntry {H : Type} : Lit × DataW H → Nat
  | (.string bytes, d) => bytes.length + uptoBulk d + 1
  | (_, d) => uptoBulk d + 1
 end
def uptoSmall : (H : Type) → List (DataW H) → Bool := fun _ ds => decide (uptoBulkAll ds ≤ 1048576)
def OpenSpec.upto (s : _root_.Go.ChangeSpec) : _root_.Go.OpenSpec := { _root_.Go.OpenSpec.ofChange s with cond := some uptoSmall }

/-- 'vinculumlaw38.LayoutTree', WHERE WHAT IT READS IS OF BULK AT MOST 1048576: true; the input reads as it did. -/
def layoutTreeUptoRow : OpenClaim := { program := "ytpodcjcajanldaagreat", sum := "4d7c476537fcd83a26f24c4286b9cc79b78bcbc72162546e8c72a188ef2b4323", func := "vinculum/vinculumlaw38.LayoutTree", spec := "layoutTree", inPlace := ["internal/bytealg.IndexByteString", "internal/bytealg.IndexString"], unfollowed := true, recurses := true, named := ["internal/bytealg.MaxLen"], loops := true, plainKeys := false, apart := false, narrowed := true }
def LayoutTreeUptoSaid : Prop := layoutTreeUptoRow.holds Tryz.pinned (OpenSpec.upto layoutTreeSpec)

/-- 'vinculumlaw38.LayoutBoxes', WHERE WHAT IT READS IS OF BULK AT MOST 1048576: true; the input reads as it did. -/
def layoutBoxesUptoRow : OpenClaim := { program := "ytpodcjcajanldaagreat", sum := "4d7c476537fcd83a26f24c4286b9cc79b78bcbc72162546e8c72a188ef2b4323", func := "vinculum/vinculumlaw38.LayoutBoxes", spec := "layoutBoxes", inPlace := ["internal/bytealg.IndexByteString", "internal/bytealg.IndexString"], unfollowed := true, recurses := true, named := ["internal/bytealg.MaxLen"], loops := true, plainKeys := false, apart := false, narrowed := true }
def LayoutBoxesUptoSaid : Prop := layoutBoxesUptoRow.holds Tryz.pinned (OpenSpec.upto layoutBoxesSpec)

/-- 'vinculumlaw38.LayoutAdvance', WHERE WHAT IT READS IS OF BULK AT MOST 1048576: true; the input reads as it did. -/
def layoutAdvanceUptoRow : OpenClaim := { program := "ytpodcjcajanldaagreat", sum := "4d7c476537fcd83a26f24c4286b9cc79b78bcbc72162546e8c72a188ef2b4323", func := "vinculum/vinculumlaw38.LayoutAdvance", spec := "layoutAdvance", inPlace := ["internal/bytealg.IndexByteString", "internal/bytealg.IndexString"], unfollowed := true, recurses := true, named := ["internal/bytealg.MaxLen"], loops := true, plainKeys := false, apart := false, narrowed := true }
def LayoutAdvanceUptoSaid : Prop := layoutAdvanceUptoRow.holds Tryz.pinned (OpenSpec.upto layoutAdvanceSpec)

/-- 'vinculumlaw38.LayoutSources', WHERE WHAT IT READS IS OF BULK AT MOST 1048576: true; the input reads as it did. -/
def layoutSourcesUptoRow : OpenClaim := { program := "ytpodcjcajanldaagreat", sum := "4d7c476537fcd83a26f24c4286b9cc79b78bcbc72162546e8c72a188ef2b4323", func := "vinculum/vinculumlaw38.LayoutSources", spec := "layoutSources", inPlace := ["internal/bytealg.IndexByteString", "internal/bytealg.IndexString"], unfollowed := true, recurses := true, named := ["internal/bytealg.MaxLen"], loops := true, plainKeys := false, apart := false, narrowed := true }
def LayoutSourcesUptoSaid : Prop := layoutSourcesUptoRow.holds Tryz.pinned (OpenSpec.upto layoutSourcesSpec)

/-- 'vinculumlaw38.LayoutBuiltIn', WHERE WHAT IT READS IS OF BULK AT MOST 1048576: true; the input reads as it did. -/
def layoutBuiltInUptoRow : OpenClaim := { program := "ytpodcjcajanldaagreat", sum := "4d7c476537fcd83a26f24c4286b9cc79b78bcbc72162546e8c72a188ef2b4323", func := "vinculum/vinculumlaw38.LayoutBuiltIn", spec := "layoutBuiltIn", inPlace := ["internal/bytealg.IndexByteString", "internal/bytealg.IndexString"], unfollowed := true, recurses := true, named := ["internal/bytealg.MaxLen"], loops := true, plainKeys := false, apart := false, narrowed := true }
def LayoutBuiltInUptoSaid : Prop := layoutBuiltInUptoRow.holds Tryz.pinned (OpenSpec.upto layoutBuiltInSpec)

/-- 'vinculumlaw38.LayoutParts', WHERE WHAT IT READS IS OF BULK AT MOST 1048576: true; the input reads as it did. -/
def layoutPartsUptoRow : OpenClaim := { program := "ytpodcjcajanldaagreat", sum := "4d7c476537fcd83a26f24c4286b9cc79b78bcbc72162546e8c72a188ef2b4323", func := "vinculum/vinculumlaw38.LayoutParts", spec := "layoutParts", inPlace := ["internal/bytealg.IndexByteString", "internal/bytealg.IndexString"], unfollowed := true, recurses := true, named := ["internal/bytealg.MaxLen"], loops := true, plainKeys := false, apart := false, narrowed := true }
def LayoutPartsUptoSaid : Prop := layoutPartsUptoRow.holds Tryz.pinned (OpenSpec.upto layoutPartsSpec)

/-- 'vinculumlaw38.LayoutStyle', WHERE WHAT IT READS IS OF BULK AT MOST 1048576: true; the input reads as it did. -/
def layoutStyleUptoRow : OpenClaim := { program := "ytpodcjcajanldaagreat", sum := "4d7c476537fcd83a26f24c4286b9cc79b78bcbc72162546e8c72a188ef2b4323", func := "vinculum/vinculumlaw38.LayoutStyle", spec := "layoutStyle", inPlace := ["internal/bytealg.IndexByteString", "internal/bytealg.IndexString"], unfollowed := true, recurses := true, named := ["internal/bytealg.MaxLen"], loops := true, plainKeys := false, apart := false, narrowed := true }
def LayoutStyleUptoSaid : Prop := layoutStyleUptoRow.holds Tryz.pinned (OpenSpec.upto layoutStyleSpec)

/-- 'vinculumlaw38.LayoutRows', WHERE WHAT IT READS IS OF BULK AT MOST 1048576: true; the input reads as it did. -/
def layoutRowsUptoRow : OpenClaim := { program := "ytpodcjcajanldaagreat", sum := "4d7c476537fcd83a26f24c4286b9cc79b78bcbc72162546e8c72a188ef2b4323", func := "vinculum/vinculumlaw38.LayoutRows", spec := "layoutRows", inPlace := ["internal/bytealg.IndexByteString", "internal/bytealg.IndexString"], unfollowed := true, recurses := true, named := ["internal/bytealg.MaxLen"], loops := true, plainKeys := false, apart := false, narrowed := true }
def LayoutRowsUptoSaid : Prop := layoutRowsUptoRow.holds Tryz.pinned (OpenSpec.upto layoutRowsSpec)

/-- 'vinculumlaw43.BreakpointPieces', WHERE WHAT IT READS IS OF BULK AT MOST 1048576: true; the input reads as it did. -/
def breakpointPiecesUptoRow : OpenClaim := { program := "ytpodcjcajanldaagreat", sum := "4d7c476537fcd83a26f24c4286b9cc79b78bcbc72162546e8c72a188ef2b4323", func := "vinculum/vinculumlaw43.BreakpointPieces", spec := "breakpointPieces", inPlace := ["internal/bytealg.IndexByteString", "internal/bytealg.IndexString"], unfollowed := true, recurses := true, named := ["internal/bytealg.MaxLen"], loops := true, plainKeys := false, apart := false, narrowed := true }
def BreakpointPiecesUptoSaid : Prop := breakpointPiecesUptoRow.holds Tryz.pinned (OpenSpec.upto breakpointPiecesSpec)

/-- 'vinculumlaw43.BreakpointLength', WHERE WHAT IT READS IS OF BULK AT MOST 1048576: true; the input reads as it did. -/
def breakpointLengthUptoRow : OpenClaim := { program := "ytpodcjcajanldaagreat", sum := "4d7c476537fcd83a26f24c4286b9cc79b78bcbc72162546e8c72a188ef2b4323", func := "vinculum/vinculumlaw43.BreakpointLength", spec := "breakpointLength", inPlace := ["internal/bytealg.IndexByteString", "internal/bytealg.IndexString"], unfollowed := true, recurses := true, named := ["internal/bytealg.MaxLen"], loops := true, plainKeys := false, apart := false, narrowed := true }
def BreakpointLengthUptoSaid : Prop := breakpointLengthUptoRow.holds Tryz.pinned (OpenSpec.upto breakpointLengthSpec)

end Rows
end Go.Proofs.YtpodcjcajanldaaGreat
