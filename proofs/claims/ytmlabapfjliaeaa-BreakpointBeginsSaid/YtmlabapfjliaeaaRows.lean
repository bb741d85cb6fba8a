/-
  NARROWER THAN 'FOR EVERY INPUT', by the rows' own cells (each row's printed sentence says how): BreakpointPlaces: loops · BreakpointClasses: loops · BreakpointBegins: loops.
  DERIVED. THE GIVEN ROWS OF THIS SEAT. 3 by the template 'for every input the law returns true; each argument reads behind the call as it read before'; 0 by the template 'total and deterministic' (their statements: YtmlabapfjliaeaaTotals.lean).
  GIVEN WITH THE SEED: the statements are not yours to turn. If you find one false, say at which input.
  Laid BY PROGRAM, IN A SANDBOX (cutbox-rows.mjs): the forced cells as the released guide's own fill.sh prints them over the translation 138a408b1a704d16… (all of the seat's roots in one cut). By AI agents, Wed Nov 11 2026. No macro, syntax, notation, axiom, sorry.
-/
import Derived.Test.YtmlabapfjliaeaaChecked
import GoSem.Claim
import GoSem.ClaimJoined
import GoSem.ClaimMapViews
import Derived.JoinedTies
import Derived.KernelRfl
namespace Go.Proofs.Ytmlabapfjliaeaa
/- THE CELL 'sum', in the pinned program and in every row, IS THE sha256 OF THE DUMP (.gsa) THAT YtmlabapfjliaeaaProg.lean LOADS. Nothing in Lean hashes anything: it is a label: what it is worth is what the hold of that sum in a sandbox is worth. -/
noncomputable def Try.pinned : Pinned := { name := "ytmlabapfjliaeaa", sum := "138a408b1a704d167ae38806d427ed35d854b2d8bf0ac463fc4ab3367033ecd7", checked := Try.checked }
namespace Rows
def none {H : Type} : Left H := { results := [], args := [] }

/-- 'vinculumlaw43.BreakpointPlaces': WHATEVER THE INPUT: true; the input reads as it did. -/
def breakpointPlacesSpec : ChangeSpec := { name := "breakpointPlaces", fn := fun _ => fun
  | [d1, d2] => { results := [.lit (.bool true)], args := [d1, d2] }
  | _ => none }
def breakpointPlacesRow : OpenClaim := { program := "ytmlabapfjliaeaa", sum := "138a408b1a704d167ae38806d427ed35d854b2d8bf0ac463fc4ab3367033ecd7", func := "vinculum/vinculumlaw43.BreakpointPlaces", spec := "breakpointPlaces", inPlace := ["internal/bytealg.IndexByteString", "internal/bytealg.IndexString"], unfollowed := true, recurses := true, named := ["internal/bytealg.MaxLen"], loops := true, apart := false }
def BreakpointPlacesSaid : Prop := breakpointPlacesRow.holds Try.pinned (OpenSpec.ofChange breakpointPlacesSpec)

/-- ITS FALSE NEIGHBOUR: 'it returns false'. Refute it at one input. -/
def breakpointPlacesWrong : ChangeSpec := { name := "breakpointPlaces", fn := fun _ => fun
  | [d1, d2] => { results := [.lit (.bool false)], args := [d1, d2] }
  | _ => none }
def BreakpointPlacesWrongFalsely : Prop := breakpointPlacesRow.holds Try.pinned (OpenSpec.ofChange breakpointPlacesWrong)

/-- 'vinculumlaw43.BreakpointClasses': WHATEVER THE INPUT: true; the input reads as it did. -/
def breakpointClassesSpec : ChangeSpec := { name := "breakpointClasses", fn := fun _ => fun
  | [d1, d2] => { results := [.lit (.bool true)], args := [d1, d2] }
  | _ => none }
def breakpointClassesRow : OpenClaim := { program := "ytmlabapfjliaeaa", sum := "138a408b1a704d167ae38806d427ed35d854b2d8bf0ac463fc4ab3367033ecd7", func := "vinculum/vinculumlaw43.BreakpointClasses", spec := "breakpointClasses", inPlace := ["internal/bytealg.IndexByteString", "internal/bytealg.IndexString"], unfollowed := true, recurses := true, named := ["internal/bytealg.MaxLen"], loops := true, apart := false }
def BreakpointClassesSaid : Prop := breakpointClassesRow.holds Try.pinned (OpenSpec.ofChange breakpointClassesSpec)

/-- ITS FALSE NEIGHBOUR: 'it returns false'. Refute it at one input. -/
def breakpointClassesWrong : ChangeSpec := { name := "breakpointClasses", fn := fun _ => fun
  | [d1, d2] => { results := [.lit (.bool false)], args := [d1, d2] }
  | _ => none }
def BreakpointClassesWrongFalsely : Prop := breakpointClassesRow.holds Try.pinned (OpenSpec.ofChange breakpointClassesWrong)

/-- 'vinculumlaw43.BreakpointBegins': WHATEVER THE INPUT: true; the input reads as it did. -/
def breakpointBeginsSpec : ChangeSpec := { name := "breakpointBegins", fn := fun _ => fun
  | [d1, d2, d3] => { results := [.lit (.bool true)], args := [d1, d2, d3] }
  | _ => none }
def breakpointBeginsRow : OpenClaim := { program := "ytmlabapfjliaeaa", sum := "138a408b1a704d167ae38806d427ed35d854b2d8bf0ac463fc4ab3367033ecd7", func := "vinculum/vinculumlaw43.BreakpointBegins", spec := "breakpointBegins", inPlace := ["internal/bytealg.IndexByteString", "internal/bytealg.IndexString"], unfollowed := true, recurses := true, named := ["internal/bytealg.MaxLen"], loops := true, apart := false }
def BreakpointBeginsSaid : Prop := breakpointBeginsRow.holds Try.pinned (OpenSpec.ofChange breakpointBeginsSpec)

/-- ITS FALSE NEIGHBOUR: 'it returns false'. Refute it at one input. -/
def breakpointBeginsWrong : ChangeSpec := { name := "breakpointBegins", fn := fun _ => fun
  | [d1, d2, d3] => { results := [.lit (.bool false)], args := [d1, d2, d3] }
  | _ => none }
def BreakpointBeginsWrongFalsely : Prop := breakpointBeginsRow.holds Try.pinned (OpenSpec.ofChange breakpointBeginsWrong)

/- THE SECOND FORM. 'bulk': how many values and letters a reading holds, each counted each time it is reached (what is shared counts as often as it is met; a slice's spare places count too). A statement '..UptoSaid' is the law's where the arguments, and the package variables that the reading takes, are together of bulk at most 1048576: NARROWER than '..Said'. Prove '..Said' where nothing that the law and all that it calls make is longer than what came in: it says more and counts as full. Else prove '..UptoSaid'. A law counts once. -/
mutual
def uptoBulk {H : Type} : DataW H → Nat
  | .lit (.string bytes) => bytes.length + 1
  | .lit _ => 1
  | .nil => 1
  | .ptr d => uptoBulk d + 1
  | .slice elems spare => uptoBulkAll elems + uptoBulkAll spare + 1
  | .agg parts => uptoBulkAll parts + 1
  | .iface _ d => uptoBulk d + 1
  | .map entries => uptoBulkEntries entries + 1
  | .held _ => 1
def uptoBulkAll {H : Type} : List (DataW H) → Nat
  | [] => 0
  | d :: r => uptoBulk d + uptoBulkAll r
def uptoBulkEntries {H : Type} : List (Lit × DataW H) → Nat
  | [] => 0
  | x :: r => uptoBulkEntry x + uptoBulkEntries r
def uptoBulkEntry {H : Type} : Lit × DataW H → Nat
  | (.string bytes, d) => bytes.length + uptoBulk d + 1
  | (_, d) => uptoBulk d + 1
 end
def uptoSmall : (H : Type) → List (DataW H) → Bool := fun _ ds => decide (uptoBulkAll ds ≤ 1048576)
def OpenSpec.upto (s : _root_.Go.ChangeSpec) : _root_.Go.OpenSpec := { _root_.Go.OpenSpec.ofChange s with cond := some uptoSmall }

/-- 'vinculumlaw43.BreakpointPlaces', WHERE WHAT IT READS IS OF BULK AT MOST 1048576: true; the input reads as it did. -/
def breakpointPlacesUptoRow : OpenClaim := { program := "ytmlabapfjliaeaa", sum := "138a408b1a704d167ae38806d427ed35d854b2d8bf0ac463fc4ab3367033ecd7", func := "vinculum/vinculumlaw43.BreakpointPlaces", spec := "breakpointPlaces", inPlace := ["internal/bytealg.IndexByteString", "internal/bytealg.IndexString"], unfollowed := true, recurses := true, named := ["internal/bytealg.MaxLen"], loops := true, apart := false, narrowed := true }
def BreakpointPlacesUptoSaid : Prop := breakpointPlacesUptoRow.holds Try.pinned (OpenSpec.upto breakpointPlacesSpec)

/-- 'vinculumlaw43.BreakpointClasses', WHERE WHAT IT READS IS OF BULK AT MOST 1048576: true; the input reads as it did. -/
def breakpointClassesUptoRow : OpenClaim := { program := "ytmlabapfjliaeaa", sum := "138a408b1a704d167ae38806d427ed35d854b2d8bf0ac463fc4ab3367033ecd7", func := "vinculum/vinculumlaw43.BreakpointClasses", spec := "breakpointClasses", inPlace := ["internal/bytealg.IndexByteString", "internal/bytealg.IndexString"], unfollowed := true, recurses := true, named := ["internal/bytealg.MaxLen"], loops := true, apart := false, narrowed := true }
def BreakpointClassesUptoSaid : Prop := breakpointClassesUptoRow.holds Try.pinned (OpenSpec.upto breakpointClassesSpec)

/-- 'vinculumlaw43.BreakpointBegins', WHERE WHAT IT READS IS OF BULK AT MOST 1048576: true; the input reads as it did. -/
def breakpointBeginsUptoRow : OpenClaim := { program := "ytmlabapfjliaeaa", sum := "138a408b1a704d167ae38806d427ed35d854b2d8bf0ac463fc4ab3367033ecd7", func := "vinculum/vinculumlaw43.BreakpointBegins", spec := "breakpointBegins", inPlace := ["internal/bytealg.IndexByteString", "internal/bytealg.IndexString"], unfollowed := true, recurses := true, named := ["internal/bytealg.MaxLen"], loops := true, apart := false, narrowed := true }
def BreakpointBeginsUptoSaid : Prop := breakpointBeginsUptoRow.holds Try.pinned (OpenSpec.upto breakpointBeginsSpec)

end Rows
end Go.Proofs.Ytmlabapfjliaeaa
