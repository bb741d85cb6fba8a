/-
  NARROWER THAN 'FOR EVERY INPUT', by the rows' own cells (each row's printed sentence says how): RadicalMakes: loops · RadicalGap: loops · RadicalJoins: loops · RadicalDegree: loops · RadicalInside: loops · RadicalSign: loops · DelimiterNeed: loops · DelimiterCovers: loops · DelimiterEncloses: loops.
  DERIVED. THE GIVEN ROWS OF THIS SEAT. 18 by the template 'for every input the law returns true; each argument reads behind the call as it read before'; 0 by the template 'total and deterministic' (their statements: YthbcljjpmdfflaaTotals.lean).
  GIVEN WITH THE SEED: the statements are not yours to turn. If you find one false, say at which input.
  Laid BY PROGRAM, IN A SANDBOX (cutbox-rows.mjs): the forced cells as the released guide's own fill.sh prints them over the translation 6e9d9b27f707e505… (all of the seat's roots in one cut). By AI agents, Wed Nov 11 2026. No macro, syntax, notation, axiom, sorry.
-/
import Derived.Test.YthbcljjpmdfflaaChecked
import GoSem.Claim
import GoSem.ClaimJoined
import GoSem.ClaimMapViews
import Derived.JoinedTies
import Derived.KernelRfl
namespace Go.Proofs.Ythbcljjpmdfflaa
/- THE CELL 'sum', in the pinned program and in every row, IS THE sha256 OF THE DUMP (.gsa) THAT YthbcljjpmdfflaaProg.lean LOADS. Nothing in Lean hashes anything: it is a label: what it is worth is what the hold of that sum in a sandbox is worth. -/
noncomputable def Try.pinned : Pinned := { name := "ythbcljjpmdfflaa", sum := "6e9d9b27f707e5051ea4dd036e237000d1dc70f5adf65e9302f8c05dcd5928e3", checked := Try.checked }
namespace Rows
def none {H : Type} : Left H := { results := [], args := [] }

/-- 'vinculumlaw06.VariantChoose': WHATEVER THE INPUT: true; the input reads as it did. -/
def variantChooseSpec : ChangeSpec := { name := "variantChoose", fn := fun _ => fun
  | [d1, d2, d3] => { results := [.lit (.bool true)], args := [d1, d2, d3] }
  | _ => none }
def variantChooseRow : OpenClaim := { program := "ythbcljjpmdfflaa", sum := "6e9d9b27f707e5051ea4dd036e237000d1dc70f5adf65e9302f8c05dcd5928e3", func := "vinculum/vinculumlaw06.VariantChoose", spec := "variantChoose", unfollowed := true, recurses := true, apart := false }
def VariantChooseSaid : Prop := variantChooseRow.holds Try.pinned (OpenSpec.ofChange variantChooseSpec)

/-- ITS FALSE NEIGHBOUR: 'it returns false'. Refute it at one input. -/
def variantChooseWrong : ChangeSpec := { name := "variantChoose", fn := fun _ => fun
  | [d1, d2, d3] => { results := [.lit (.bool false)], args := [d1, d2, d3] }
  | _ => none }
def VariantChooseWrongFalsely : Prop := variantChooseRow.holds Try.pinned (OpenSpec.ofChange variantChooseWrong)

/-- 'vinculumlaw06.VariantBox': WHATEVER THE INPUT: true; the input reads as it did. -/
def variantBoxSpec : ChangeSpec := { name := "variantBox", fn := fun _ => fun
  | [d1, d2] => { results := [.lit (.bool true)], args := [d1, d2] }
  | _ => none }
def variantBoxRow : OpenClaim := { program := "ythbcljjpmdfflaa", sum := "6e9d9b27f707e5051ea4dd036e237000d1dc70f5adf65e9302f8c05dcd5928e3", func := "vinculum/vinculumlaw06.VariantBox", spec := "variantBox", unfollowed := true, recurses := true, apart := false }
def VariantBoxSaid : Prop := variantBoxRow.holds Try.pinned (OpenSpec.ofChange variantBoxSpec)

/-- ITS FALSE NEIGHBOUR: 'it returns false'. Refute it at one input. -/
def variantBoxWrong : ChangeSpec := { name := "variantBox", fn := fun _ => fun
  | [d1, d2] => { results := [.lit (.bool false)], args := [d1, d2] }
  | _ => none }
def VariantBoxWrongFalsely : Prop := variantBoxRow.holds Try.pinned (OpenSpec.ofChange variantBoxWrong)

/-- 'vinculumlaw06.VariantFind': WHATEVER THE INPUT: true; the input reads as it did. -/
def variantFindSpec : ChangeSpec := { name := "variantFind", fn := fun _ => fun
  | [d1, d2, d3] => { results := [.lit (.bool true)], args := [d1, d2, d3] }
  | _ => none }
def variantFindRow : OpenClaim := { program := "ythbcljjpmdfflaa", sum := "6e9d9b27f707e5051ea4dd036e237000d1dc70f5adf65e9302f8c05dcd5928e3", func := "vinculum/vinculumlaw06.VariantFind", spec := "variantFind", unfollowed := true, recurses := true, apart := false }
def VariantFindSaid : Prop := variantFindRow.holds Try.pinned (OpenSpec.ofChange variantFindSpec)

/-- ITS FALSE NEIGHBOUR: 'it returns false'. Refute it at one input. -/
def variantFindWrong : ChangeSpec := { name := "variantFind", fn := fun _ => fun
  | [d1, d2, d3] => { results := [.lit (.bool false)], args := [d1, d2, d3] }
  | _ => none }
def VariantFindWrongFalsely : Prop := variantFindRow.holds Try.pinned (OpenSpec.ofChange variantFindWrong)

/-- 'vinculumlaw06.VariantCovers': WHATEVER THE INPUT: true; the input reads as it did. -/
def variantCoversSpec : ChangeSpec := { name := "variantCovers", fn := fun _ => fun
  | [d1, d2, d3] => { results := [.lit (.bool true)], args := [d1, d2, d3] }
  | _ => none }
def variantCoversRow : OpenClaim := { program := "ythbcljjpmdfflaa", sum := "6e9d9b27f707e5051ea4dd036e237000d1dc70f5adf65e9302f8c05dcd5928e3", func := "vinculum/vinculumlaw06.VariantCovers", spec := "variantCovers", unfollowed := true, recurses := true, apart := false }
def VariantCoversSaid : Prop := variantCoversRow.holds Try.pinned (OpenSpec.ofChange variantCoversSpec)

/-- ITS FALSE NEIGHBOUR: 'it returns false'. Refute it at one input. -/
def variantCoversWrong : ChangeSpec := { name := "variantCovers", fn := fun _ => fun
  | [d1, d2, d3] => { results := [.lit (.bool false)], args := [d1, d2, d3] }
  | _ => none }
def VariantCoversWrongFalsely : Prop := variantCoversRow.holds Try.pinned (OpenSpec.ofChange variantCoversWrong)

/-- 'vinculumlaw06.VariantLeast': WHATEVER THE INPUT: true; the input reads as it did. -/
def variantLeastSpec : ChangeSpec := { name := "variantLeast", fn := fun _ => fun
  | [d1, d2, d3] => { results := [.lit (.bool true)], args := [d1, d2, d3] }
  | _ => none }
def variantLeastRow : OpenClaim := { program := "ythbcljjpmdfflaa", sum := "6e9d9b27f707e5051ea4dd036e237000d1dc70f5adf65e9302f8c05dcd5928e3", func := "vinculum/vinculumlaw06.VariantLeast", spec := "variantLeast", unfollowed := true, recurses := true, apart := false }
def VariantLeastSaid : Prop := variantLeastRow.holds Try.pinned (OpenSpec.ofChange variantLeastSpec)

/-- ITS FALSE NEIGHBOUR: 'it returns false'. Refute it at one input. -/
def variantLeastWrong : ChangeSpec := { name := "variantLeast", fn := fun _ => fun
  | [d1, d2, d3] => { results := [.lit (.bool false)], args := [d1, d2, d3] }
  | _ => none }
def VariantLeastWrongFalsely : Prop := variantLeastRow.holds Try.pinned (OpenSpec.ofChange variantLeastWrong)

/-- 'vinculumlaw06.VariantGrows': WHATEVER THE INPUT: true; the input reads as it did. -/
def variantGrowsSpec : ChangeSpec := { name := "variantGrows", fn := fun _ => fun
  | [d1, d2, d3] => { results := [.lit (.bool true)], args := [d1, d2, d3] }
  | _ => none }
def variantGrowsRow : OpenClaim := { program := "ythbcljjpmdfflaa", sum := "6e9d9b27f707e5051ea4dd036e237000d1dc70f5adf65e9302f8c05dcd5928e3", func := "vinculum/vinculumlaw06.VariantGrows", spec := "variantGrows", unfollowed := true, recurses := true, apart := false }
def VariantGrowsSaid : Prop := variantGrowsRow.holds Try.pinned (OpenSpec.ofChange variantGrowsSpec)

/-- ITS FALSE NEIGHBOUR: 'it returns false'. Refute it at one input. -/
def variantGrowsWrong : ChangeSpec := { name := "variantGrows", fn := fun _ => fun
  | [d1, d2, d3] => { results := [.lit (.bool false)], args := [d1, d2, d3] }
  | _ => none }
def VariantGrowsWrongFalsely : Prop := variantGrowsRow.holds Try.pinned (OpenSpec.ofChange variantGrowsWrong)

/-- 'vinculumlaw06.VariantPieces': WHATEVER THE INPUT: true; the input reads as it did. -/
def variantPiecesSpec : ChangeSpec := { name := "variantPieces", fn := fun _ => fun
  | [d1, d2] => { results := [.lit (.bool true)], args := [d1, d2] }
  | _ => none }
def variantPiecesRow : OpenClaim := { program := "ythbcljjpmdfflaa", sum := "6e9d9b27f707e5051ea4dd036e237000d1dc70f5adf65e9302f8c05dcd5928e3", func := "vinculum/vinculumlaw06.VariantPieces", spec := "variantPieces", unfollowed := true, recurses := true, apart := false }
def VariantPiecesSaid : Prop := variantPiecesRow.holds Try.pinned (OpenSpec.ofChange variantPiecesSpec)

/-- ITS FALSE NEIGHBOUR: 'it returns false'. Refute it at one input. -/
def variantPiecesWrong : ChangeSpec := { name := "variantPieces", fn := fun _ => fun
  | [d1, d2] => { results := [.lit (.bool false)], args := [d1, d2] }
  | _ => none }
def VariantPiecesWrongFalsely : Prop := variantPiecesRow.holds Try.pinned (OpenSpec.ofChange variantPiecesWrong)

/-- 'vinculumlaw33.RadicalMakes': WHATEVER THE INPUT: true; the input reads as it did. -/
def radicalMakesSpec : ChangeSpec := { name := "radicalMakes", fn := fun _ => fun
  | [d] => { results := [.lit (.bool true)], args := [d] }
  | _ => none }
def radicalMakesRow : OpenClaim := { program := "ythbcljjpmdfflaa", sum := "6e9d9b27f707e5051ea4dd036e237000d1dc70f5adf65e9302f8c05dcd5928e3", func := "vinculum/vinculumlaw33.RadicalMakes", spec := "radicalMakes", unfollowed := true, recurses := true, loops := true, apart := false }
def RadicalMakesSaid : Prop := radicalMakesRow.holds Try.pinned (OpenSpec.ofChange radicalMakesSpec)

/-- ITS FALSE NEIGHBOUR: 'it returns false'. Refute it at one input. -/
def radicalMakesWrong : ChangeSpec := { name := "radicalMakes", fn := fun _ => fun
  | [d] => { results := [.lit (.bool false)], args := [d] }
  | _ => none }
def RadicalMakesWrongFalsely : Prop := radicalMakesRow.holds Try.pinned (OpenSpec.ofChange radicalMakesWrong)

/-- 'vinculumlaw33.RadicalGap': WHATEVER THE INPUT: true; the input reads as it did. -/
def radicalGapSpec : ChangeSpec := { name := "radicalGap", fn := fun _ => fun
  | [d] => { results := [.lit (.bool true)], args := [d] }
  | _ => none }
def radicalGapRow : OpenClaim := { program := "ythbcljjpmdfflaa", sum := "6e9d9b27f707e5051ea4dd036e237000d1dc70f5adf65e9302f8c05dcd5928e3", func := "vinculum/vinculumlaw33.RadicalGap", spec := "radicalGap", unfollowed := true, recurses := true, loops := true, apart := false }
def RadicalGapSaid : Prop := radicalGapRow.holds Try.pinned (OpenSpec.ofChange radicalGapSpec)

/-- ITS FALSE NEIGHBOUR: 'it returns false'. Refute it at one input. -/
def radicalGapWrong : ChangeSpec := { name := "radicalGap", fn := fun _ => fun
  | [d] => { results := [.lit (.bool false)], args := [d] }
  | _ => none }
def RadicalGapWrongFalsely : Prop := radicalGapRow.holds Try.pinned (OpenSpec.ofChange radicalGapWrong)

/-- 'vinculumlaw33.RadicalJoins': WHATEVER THE INPUT: true; the input reads as it did. -/
def radicalJoinsSpec : ChangeSpec := { name := "radicalJoins", fn := fun _ => fun
  | [d] => { results := [.lit (.bool true)], args := [d] }
  | _ => none }
def radicalJoinsRow : OpenClaim := { program := "ythbcljjpmdfflaa", sum := "6e9d9b27f707e5051ea4dd036e237000d1dc70f5adf65e9302f8c05dcd5928e3", func := "vinculum/vinculumlaw33.RadicalJoins", spec := "radicalJoins", unfollowed := true, recurses := true, loops := true, apart := false }
def RadicalJoinsSaid : Prop := radicalJoinsRow.holds Try.pinned (OpenSpec.ofChange radicalJoinsSpec)

/-- ITS FALSE NEIGHBOUR: 'it returns false'. Refute it at one input. -/
def radicalJoinsWrong : ChangeSpec := { name := "radicalJoins", fn := fun _ => fun
  | [d] => { results := [.lit (.bool false)], args := [d] }
  | _ => none }
def RadicalJoinsWrongFalsely : Prop := radicalJoinsRow.holds Try.pinned (OpenSpec.ofChange radicalJoinsWrong)

/-- 'vinculumlaw33.RadicalDegree': WHATEVER THE INPUT: true; the input reads as it did. -/
def radicalDegreeSpec : ChangeSpec := { name := "radicalDegree", fn := fun _ => fun
  | [d] => { results := [.lit (.bool true)], args := [d] }
  | _ => none }
def radicalDegreeRow : OpenClaim := { program := "ythbcljjpmdfflaa", sum := "6e9d9b27f707e5051ea4dd036e237000d1dc70f5adf65e9302f8c05dcd5928e3", func := "vinculum/vinculumlaw33.RadicalDegree", spec := "radicalDegree", unfollowed := true, recurses := true, loops := true, apart := false }
def RadicalDegreeSaid : Prop := radicalDegreeRow.holds Try.pinned (OpenSpec.ofChange radicalDegreeSpec)

/-- ITS FALSE NEIGHBOUR: 'it returns false'. Refute it at one input. -/
def radicalDegreeWrong : ChangeSpec := { name := "radicalDegree", fn := fun _ => fun
  | [d] => { results := [.lit (.bool false)], args := [d] }
  | _ => none }
def RadicalDegreeWrongFalsely : Prop := radicalDegreeRow.holds Try.pinned (OpenSpec.ofChange radicalDegreeWrong)

/-- 'vinculumlaw33.RadicalInside': WHATEVER THE INPUT: true; the input reads as it did. -/
def radicalInsideSpec : ChangeSpec := { name := "radicalInside", fn := fun _ => fun
  | [d] => { results := [.lit (.bool true)], args := [d] }
  | _ => none }
def radicalInsideRow : OpenClaim := { program := "ythbcljjpmdfflaa", sum := "6e9d9b27f707e5051ea4dd036e237000d1dc70f5adf65e9302f8c05dcd5928e3", func := "vinculum/vinculumlaw33.RadicalInside", spec := "radicalInside", unfollowed := true, recurses := true, loops := true, apart := false }
def RadicalInsideSaid : Prop := radicalInsideRow.holds Try.pinned (OpenSpec.ofChange radicalInsideSpec)

/-- ITS FALSE NEIGHBOUR: 'it returns false'. Refute it at one input. -/
def radicalInsideWrong : ChangeSpec := { name := "radicalInside", fn := fun _ => fun
  | [d] => { results := [.lit (.bool false)], args := [d] }
  | _ => none }
def RadicalInsideWrongFalsely : Prop := radicalInsideRow.holds Try.pinned (OpenSpec.ofChange radicalInsideWrong)

/-- 'vinculumlaw33.RadicalSign': WHATEVER THE INPUT: true; the input reads as it did. -/
def radicalSignSpec : ChangeSpec := { name := "radicalSign", fn := fun _ => fun
  | [d] => { results := [.lit (.bool true)], args := [d] }
  | _ => none }
def radicalSignRow : OpenClaim := { program := "ythbcljjpmdfflaa", sum := "6e9d9b27f707e5051ea4dd036e237000d1dc70f5adf65e9302f8c05dcd5928e3", func := "vinculum/vinculumlaw33.RadicalSign", spec := "radicalSign", unfollowed := true, recurses := true, loops := true, apart := false }
def RadicalSignSaid : Prop := radicalSignRow.holds Try.pinned (OpenSpec.ofChange radicalSignSpec)

/-- ITS FALSE NEIGHBOUR: 'it returns false'. Refute it at one input. -/
def radicalSignWrong : ChangeSpec := { name := "radicalSign", fn := fun _ => fun
  | [d] => { results := [.lit (.bool false)], args := [d] }
  | _ => none }
def RadicalSignWrongFalsely : Prop := radicalSignRow.holds Try.pinned (OpenSpec.ofChange radicalSignWrong)

/-- 'vinculumlaw31.DelimiterNeed': WHATEVER THE INPUT: true; the input reads as it did. -/
def delimiterNeedSpec : ChangeSpec := { name := "delimiterNeed", fn := fun _ => fun
  | [d1, d2] => { results := [.lit (.bool true)], args := [d1, d2] }
  | _ => none }
def delimiterNeedRow : OpenClaim := { program := "ythbcljjpmdfflaa", sum := "6e9d9b27f707e5051ea4dd036e237000d1dc70f5adf65e9302f8c05dcd5928e3", func := "vinculum/vinculumlaw31.DelimiterNeed", spec := "delimiterNeed", inPlace := ["internal/bytealg.IndexByteString", "internal/bytealg.IndexString"], unfollowed := true, recurses := true, named := ["internal/bytealg.MaxLen"], loops := true, apart := false }
def DelimiterNeedSaid : Prop := delimiterNeedRow.holds Try.pinned (OpenSpec.ofChange delimiterNeedSpec)

/-- ITS FALSE NEIGHBOUR: 'it returns false'. Refute it at one input. -/
def delimiterNeedWrong : ChangeSpec := { name := "delimiterNeed", fn := fun _ => fun
  | [d1, d2] => { results := [.lit (.bool false)], args := [d1, d2] }
  | _ => none }
def DelimiterNeedWrongFalsely : Prop := delimiterNeedRow.holds Try.pinned (OpenSpec.ofChange delimiterNeedWrong)

/-- 'vinculumlaw31.DelimiterMake': WHATEVER THE INPUT: true; the input reads as it did. -/
def delimiterMakeSpec : ChangeSpec := { name := "delimiterMake", fn := fun _ => fun
  | [d1, d2, d3] => { results := [.lit (.bool true)], args := [d1, d2, d3] }
  | _ => none }
def delimiterMakeRow : OpenClaim := { program := "ythbcljjpmdfflaa", sum := "6e9d9b27f707e5051ea4dd036e237000d1dc70f5adf65e9302f8c05dcd5928e3", func := "vinculum/vinculumlaw31.DelimiterMake", spec := "delimiterMake", inPlace := ["internal/bytealg.IndexByteString", "internal/bytealg.IndexString"], unfollowed := true, recurses := true, named := ["internal/bytealg.MaxLen"], apart := false }
def DelimiterMakeSaid : Prop := delimiterMakeRow.holds Try.pinned (OpenSpec.ofChange delimiterMakeSpec)

/-- ITS FALSE NEIGHBOUR: 'it returns false'. Refute it at one input. -/
def delimiterMakeWrong : ChangeSpec := { name := "delimiterMake", fn := fun _ => fun
  | [d1, d2, d3] => { results := [.lit (.bool false)], args := [d1, d2, d3] }
  | _ => none }
def DelimiterMakeWrongFalsely : Prop := delimiterMakeRow.holds Try.pinned (OpenSpec.ofChange delimiterMakeWrong)

/-- 'vinculumlaw31.DelimiterMiddle': WHATEVER THE INPUT: true; the input reads as it did. -/
def delimiterMiddleSpec : ChangeSpec := { name := "delimiterMiddle", fn := fun _ => fun
  | [d1, d2, d3] => { results := [.lit (.bool true)], args := [d1, d2, d3] }
  | _ => none }
def delimiterMiddleRow : OpenClaim := { program := "ythbcljjpmdfflaa", sum := "6e9d9b27f707e5051ea4dd036e237000d1dc70f5adf65e9302f8c05dcd5928e3", func := "vinculum/vinculumlaw31.DelimiterMiddle", spec := "delimiterMiddle", inPlace := ["internal/bytealg.IndexByteString", "internal/bytealg.IndexString"], unfollowed := true, recurses := true, named := ["internal/bytealg.MaxLen"], apart := false }
def DelimiterMiddleSaid : Prop := delimiterMiddleRow.holds Try.pinned (OpenSpec.ofChange delimiterMiddleSpec)

/-- ITS FALSE NEIGHBOUR: 'it returns false'. Refute it at one input. -/
def delimiterMiddleWrong : ChangeSpec := { name := "delimiterMiddle", fn := fun _ => fun
  | [d1, d2, d3] => { results := [.lit (.bool false)], args := [d1, d2, d3] }
  | _ => none }
def DelimiterMiddleWrongFalsely : Prop := delimiterMiddleRow.holds Try.pinned (OpenSpec.ofChange delimiterMiddleWrong)

/-- 'vinculumlaw31.DelimiterCovers': WHATEVER THE INPUT: true; the input reads as it did. -/
def delimiterCoversSpec : ChangeSpec := { name := "delimiterCovers", fn := fun _ => fun
  | [d1, d2, d3] => { results := [.lit (.bool true)], args := [d1, d2, d3] }
  | _ => none }
def delimiterCoversRow : OpenClaim := { program := "ythbcljjpmdfflaa", sum := "6e9d9b27f707e5051ea4dd036e237000d1dc70f5adf65e9302f8c05dcd5928e3", func := "vinculum/vinculumlaw31.DelimiterCovers", spec := "delimiterCovers", inPlace := ["internal/bytealg.IndexByteString", "internal/bytealg.IndexString"], unfollowed := true, recurses := true, named := ["internal/bytealg.MaxLen"], loops := true, apart := false }
def DelimiterCoversSaid : Prop := delimiterCoversRow.holds Try.pinned (OpenSpec.ofChange delimiterCoversSpec)

/-- ITS FALSE NEIGHBOUR: 'it returns false'. Refute it at one input. -/
def delimiterCoversWrong : ChangeSpec := { name := "delimiterCovers", fn := fun _ => fun
  | [d1, d2, d3] => { results := [.lit (.bool false)], args := [d1, d2, d3] }
  | _ => none }
def DelimiterCoversWrongFalsely : Prop := delimiterCoversRow.holds Try.pinned (OpenSpec.ofChange delimiterCoversWrong)

/-- 'vinculumlaw31.DelimiterEncloses': WHATEVER THE INPUT: true; the input reads as it did. -/
def delimiterEnclosesSpec : ChangeSpec := { name := "delimiterEncloses", fn := fun _ => fun
  | [d1, d2, d3] => { results := [.lit (.bool true)], args := [d1, d2, d3] }
  | _ => none }
def delimiterEnclosesRow : OpenClaim := { program := "ythbcljjpmdfflaa", sum := "6e9d9b27f707e5051ea4dd036e237000d1dc70f5adf65e9302f8c05dcd5928e3", func := "vinculum/vinculumlaw31.DelimiterEncloses", spec := "delimiterEncloses", inPlace := ["internal/bytealg.IndexByteString", "internal/bytealg.IndexString"], unfollowed := true, recurses := true, named := ["internal/bytealg.MaxLen"], loops := true, apart := false }
def DelimiterEnclosesSaid : Prop := delimiterEnclosesRow.holds Try.pinned (OpenSpec.ofChange delimiterEnclosesSpec)

/-- ITS FALSE NEIGHBOUR: 'it returns false'. Refute it at one input. -/
def delimiterEnclosesWrong : ChangeSpec := { name := "delimiterEncloses", fn := fun _ => fun
  | [d1, d2, d3] => { results := [.lit (.bool false)], args := [d1, d2, d3] }
  | _ => none }
def DelimiterEnclosesWrongFalsely : Prop := delimiterEnclosesRow.holds Try.pinned (OpenSpec.ofChange delimiterEnclosesWrong)

/- THE SECOND FORM. 'bulk': how many values and letters a reading holds, each counted each time it is reached (what is shared counts as often as it is met; a slice's spare places count too). A statement '..UptoSaid' is the law's where the arguments, and the package variables that the reading takes, are together of bulk at most 1048576: NARROWER than '..Said'. Prove '..Said' where nothing that the law and all that it calls make is longer than what came in: it says more and counts as full. Else prove '..UptoSaid'. A law counts once. -/
mutual
def uptoBulk {H : Type} : DataW H → Nat
  | .lit (.string bytes) => bytes.length + 1
  | .lit _ => 1
  | .nil => 1
  | .ptr d => uptoBulk d + 1
  | .slice elems spare => uptoBulkAll elems + uptoBulkAll spare + 1
  | .agg parts => uptoBulkAll parts + 1
  | .iface _ d => uptoBulk d + 1
  | .map entries => uptoBulkEntries entries + 1
  | .held _ => 1
def uptoBulkAll {H : Type} : List (DataW H) → Nat
  | [] => 0
  | d :: r => uptoBulk d + uptoBulkAll r
def uptoBulkEntries {H : Type} : List (Lit × DataW H) → Nat
  | [] => 0
  | x :: r => uptoBulkEntry x + uptoBulkEntries r
def uptoBulkEntry {H : Type} : Lit × DataW H → Nat
  | (.string bytes, d) => bytes.length + uptoBulk d + 1
  | (_, d) => uptoBulk d + 1
 end
def uptoSmall : (H : Type) → List (DataW H) → Bool := fun _ ds => decide (uptoBulkAll ds ≤ 1048576)
def OpenSpec.upto (s : _root_.Go.ChangeSpec) : _root_.Go.OpenSpec := { _root_.Go.OpenSpec.ofChange s with cond := some uptoSmall }

/-- 'vinculumlaw06.VariantChoose', WHERE WHAT IT READS IS OF BULK AT MOST 1048576: true; the input reads as it did. -/
def variantChooseUptoRow : OpenClaim := { program := "ythbcljjpmdfflaa", sum := "6e9d9b27f707e5051ea4dd036e237000d1dc70f5adf65e9302f8c05dcd5928e3", func := "vinculum/vinculumlaw06.VariantChoose", spec := "variantChoose", unfollowed := true, recurses := true, apart := false, narrowed := true }
def VariantChooseUptoSaid : Prop := variantChooseUptoRow.holds Try.pinned (OpenSpec.upto variantChooseSpec)

/-- 'vinculumlaw06.VariantBox', WHERE WHAT IT READS IS OF BULK AT MOST 1048576: true; the input reads as it did. -/
def variantBoxUptoRow : OpenClaim := { program := "ythbcljjpmdfflaa", sum := "6e9d9b27f707e5051ea4dd036e237000d1dc70f5adf65e9302f8c05dcd5928e3", func := "vinculum/vinculumlaw06.VariantBox", spec := "variantBox", unfollowed := true, recurses := true, apart := false, narrowed := true }
def VariantBoxUptoSaid : Prop := variantBoxUptoRow.holds Try.pinned (OpenSpec.upto variantBoxSpec)

/-- 'vinculumlaw06.VariantFind', WHERE WHAT IT READS IS OF BULK AT MOST 1048576: true; the input reads as it did. -/
def variantFindUptoRow : OpenClaim := { program := "ythbcljjpmdfflaa", sum := "6e9d9b27f707e5051ea4dd036e237000d1dc70f5adf65e9302f8c05dcd5928e3", func := "vinculum/vinculumlaw06.VariantFind", spec := "variantFind", unfollowed := true, recurses := true, apart := false, narrowed := true }
def VariantFindUptoSaid : Prop := variantFindUptoRow.holds Try.pinned (OpenSpec.upto variantFindSpec)

/-- 'vinculumlaw06.VariantCovers', WHERE WHAT IT READS IS OF BULK AT MOST 1048576: true; the input reads as it did. -/
def variantCoversUptoRow : OpenClaim := { program := "ythbcljjpmdfflaa", sum := "6e9d9b27f707e5051ea4dd036e237000d1dc70f5adf65e9302f8c05dcd5928e3", func := "vinculum/vinculumlaw06.VariantCovers", spec := "variantCovers", unfollowed := true, recurses := true, apart := false, narrowed := true }
def VariantCoversUptoSaid : Prop := variantCoversUptoRow.holds Try.pinned (OpenSpec.upto variantCoversSpec)

/-- 'vinculumlaw06.VariantLeast', WHERE WHAT IT READS IS OF BULK AT MOST 1048576: true; the input reads as it did. -/
def variantLeastUptoRow : OpenClaim := { program := "ythbcljjpmdfflaa", sum := "6e9d9b27f707e5051ea4dd036e237000d1dc70f5adf65e9302f8c05dcd5928e3", func := "vinculum/vinculumlaw06.VariantLeast", spec := "variantLeast", unfollowed := true, recurses := true, apart := false, narrowed := true }
def VariantLeastUptoSaid : Prop := variantLeastUptoRow.holds Try.pinned (OpenSpec.upto variantLeastSpec)

/-- 'vinculumlaw06.VariantGrows', WHERE WHAT IT READS IS OF BULK AT MOST 1048576: true; the input reads as it did. -/
def variantGrowsUptoRow : OpenClaim := { program := "ythbcljjpmdfflaa", sum := "6e9d9b27f707e5051ea4dd036e237000d1dc70f5adf65e9302f8c05dcd5928e3", func := "vinculum/vinculumlaw06.VariantGrows", spec := "variantGrows", unfollowed := true, recurses := true, apart := false, narrowed := true }
def VariantGrowsUptoSaid : Prop := variantGrowsUptoRow.holds Try.pinned (OpenSpec.upto variantGrowsSpec)

/-- 'vinculumlaw06.VariantPieces', WHERE WHAT IT READS IS OF BULK AT MOST 1048576: true; the input reads as it did. -/
def variantPiecesUptoRow : OpenClaim := { program := "ythbcljjpmdfflaa", sum := "6e9d9b27f707e5051ea4dd036e237000d1dc70f5adf65e9302f8c05dcd5928e3", func := "vinculum/vinculumlaw06.VariantPieces", spec := "variantPieces", unfollowed := true, recurses := true, apart := false, narrowed := true }
def VariantPiecesUptoSaid : Prop := variantPiecesUptoRow.holds Try.pinned (OpenSpec.upto variantPiecesSpec)

/-- 'vinculumlaw33.RadicalMakes', WHERE WHAT IT READS IS OF BULK AT MOST 1048576: true; the input reads as it did. -/
def radicalMakesUptoRow : OpenClaim := { program := "ythbcljjpmdfflaa", sum := "6e9d9b27f707e5051ea4dd036e237000d1dc70f5adf65e9302f8c05dcd5928e3", func := "vinculum/vinculumlaw33.RadicalMakes", spec := "radicalMakes", unfollowed := true, recurses := true, loops := true, apart := false, narrowed := true }
def RadicalMakesUptoSaid : Prop := radicalMakesUptoRow.holds Try.pinned (OpenSpec.upto radicalMakesSpec)

/-- 'vinculumlaw33.RadicalGap', WHERE WHAT IT READS IS OF BULK AT MOST 1048576: true; the input reads as it did. -/
def radicalGapUptoRow : OpenClaim := { program := "ythbcljjpmdfflaa", sum := "6e9d9b27f707e5051ea4dd036e237000d1dc70f5adf65e9302f8c05dcd5928e3", func := "vinculum/vinculumlaw33.RadicalGap", spec := "radicalGap", unfollowed := true, recurses := true, loops := true, apart := false, narrowed := true }
def RadicalGapUptoSaid : Prop := radicalGapUptoRow.holds Try.pinned (OpenSpec.upto radicalGapSpec)

/-- 'vinculumlaw33.RadicalJoins', WHERE WHAT IT READS IS OF BULK AT MOST 1048576: true; the input reads as it did. -/
def radicalJoinsUptoRow : OpenClaim := { program := "ythbcljjpmdfflaa", sum := "6e9d9b27f707e5051ea4dd036e237000d1dc70f5adf65e9302f8c05dcd5928e3", func := "vinculum/vinculumlaw33.RadicalJoins", spec := "radicalJoins", unfollowed := true, recurses := true, loops := true, apart := false, narrowed := true }
def RadicalJoinsUptoSaid : Prop := radicalJoinsUptoRow.holds Try.pinned (OpenSpec.upto radicalJoinsSpec)

/-- 'vinculumlaw33.RadicalDegree', WHERE WHAT IT READS IS OF BULK AT MOST 1048576: true; the input reads as it did. -/
def radicalDegreeUptoRow : OpenClaim := { program := "ythbcljjpmdfflaa", sum := "6e9d9b27f707e5051ea4dd036e237000d1dc70f5adf65e9302f8c05dcd5928e3", func := "vinculum/vinculumlaw33.RadicalDegree", spec := "radicalDegree", unfollowed := true, recurses := true, loops := true, apart := false, narrowed := true }
def RadicalDegreeUptoSaid : Prop := radicalDegreeUptoRow.holds Try.pinned (OpenSpec.upto radicalDegreeSpec)

/-- 'vinculumlaw33.RadicalInside', WHERE WHAT IT READS IS OF BULK AT MOST 1048576: true; the input reads as it did. -/
def radicalInsideUptoRow : OpenClaim := { program := "ythbcljjpmdfflaa", sum := "6e9d9b27f707e5051ea4dd036e237000d1dc70f5adf65e9302f8c05dcd5928e3", func := "vinculum/vinculumlaw33.RadicalInside", spec := "radicalInside", unfollowed := true, recurses := true, loops := true, apart := false, narrowed := true }
def RadicalInsideUptoSaid : Prop := radicalInsideUptoRow.holds Try.pinned (OpenSpec.upto radicalInsideSpec)

/-- 'vinculumlaw33.RadicalSign', WHERE WHAT IT READS IS OF BULK AT MOST 1048576: true; the input reads as it did. -/
def radicalSignUptoRow : OpenClaim := { program := "ythbcljjpmdfflaa", sum := "6e9d9b27f707e5051ea4dd036e237000d1dc70f5adf65e9302f8c05dcd5928e3", func := "vinculum/vinculumlaw33.RadicalSign", spec := "radicalSign", unfollowed := true, recurses := true, loops := true, apart := false, narrowed := true }
def RadicalSignUptoSaid : Prop := radicalSignUptoRow.holds Try.pinned (OpenSpec.upto radicalSignSpec)

/-- 'vinculumlaw31.DelimiterNeed', WHERE WHAT IT READS IS OF BULK AT MOST 1048576: true; the input reads as it did. -/
def delimiterNeedUptoRow : OpenClaim := { program := "ythbcljjpmdfflaa", sum := "6e9d9b27f707e5051ea4dd036e237000d1dc70f5adf65e9302f8c05dcd5928e3", func := "vinculum/vinculumlaw31.DelimiterNeed", spec := "delimiterNeed", inPlace := ["internal/bytealg.IndexByteString", "internal/bytealg.IndexString"], unfollowed := true, recurses := true, named := ["internal/bytealg.MaxLen"], loops := true, apart := false, narrowed := true }
def DelimiterNeedUptoSaid : Prop := delimiterNeedUptoRow.holds Try.pinned (OpenSpec.upto delimiterNeedSpec)

/-- 'vinculumlaw31.DelimiterMake', WHERE WHAT IT READS IS OF BULK AT MOST 1048576: true; the input reads as it did. -/
def delimiterMakeUptoRow : OpenClaim := { program := "ythbcljjpmdfflaa", sum := "6e9d9b27f707e5051ea4dd036e237000d1dc70f5adf65e9302f8c05dcd5928e3", func := "vinculum/vinculumlaw31.DelimiterMake", spec := "delimiterMake", inPlace := ["internal/bytealg.IndexByteString", "internal/bytealg.IndexString"], unfollowed := true, recurses := true, named := ["internal/bytealg.MaxLen"], apart := false, narrowed := true }
def DelimiterMakeUptoSaid : Prop := delimiterMakeUptoRow.holds Try.pinned (OpenSpec.upto delimiterMakeSpec)

/-- 'vinculumlaw31.DelimiterMiddle', WHERE WHAT IT READS IS OF BULK AT MOST 1048576: true; the input reads as it did. -/
def delimiterMiddleUptoRow : OpenClaim := { program := "ythbcljjpmdfflaa", sum := "6e9d9b27f707e5051ea4dd036e237000d1dc70f5adf65e9302f8c05dcd5928e3", func := "vinculum/vinculumlaw31.DelimiterMiddle", spec := "delimiterMiddle", inPlace := ["internal/bytealg.IndexByteString", "internal/bytealg.IndexString"], unfollowed := true, recurses := true, named := ["internal/bytealg.MaxLen"], apart := false, narrowed := true }
def DelimiterMiddleUptoSaid : Prop := delimiterMiddleUptoRow.holds Try.pinned (OpenSpec.upto delimiterMiddleSpec)

/-- 'vinculumlaw31.DelimiterCovers', WHERE WHAT IT READS IS OF BULK AT MOST 1048576: true; the input reads as it did. -/
def delimiterCoversUptoRow : OpenClaim := { program := "ythbcljjpmdfflaa", sum := "6e9d9b27f707e5051ea4dd036e237000d1dc70f5adf65e9302f8c05dcd5928e3", func := "vinculum/vinculumlaw31.DelimiterCovers", spec := "delimiterCovers", inPlace := ["internal/bytealg.IndexByteString", "internal/bytealg.IndexString"], unfollowed := true, recurses := true, named := ["internal/bytealg.MaxLen"], loops := true, apart := false, narrowed := true }
def DelimiterCoversUptoSaid : Prop := delimiterCoversUptoRow.holds Try.pinned (OpenSpec.upto delimiterCoversSpec)

/-- 'vinculumlaw31.DelimiterEncloses', WHERE WHAT IT READS IS OF BULK AT MOST 1048576: true; the input reads as it did. -/
def delimiterEnclosesUptoRow : OpenClaim := { program := "ythbcljjpmdfflaa", sum := "6e9d9b27f707e5051ea4dd036e237000d1dc70f5adf65e9302f8c05dcd5928e3", func := "vinculum/vinculumlaw31.DelimiterEncloses", spec := "delimiterEncloses", inPlace := ["internal/bytealg.IndexByteString", "internal/bytealg.IndexString"], unfollowed := true, recurses := true, named := ["internal/bytealg.MaxLen"], loops := true, apart := false, narrowed := true }
def DelimiterEnclosesUptoSaid : Prop := delimiterEnclosesUptoRow.holds Try.pinned (OpenSpec.upto delimiterEnclosesSpec)

end Rows
end Go.Proofs.Ythbcljjpmdfflaa
