/-
  NARROWER THAN 'FOR EVERY INPUT', by the rows' own cells (each row's printed sentence says how): DisplayMake: loops · DisplayLines: loops · DisplayItems: loops · DisplayFits: loops · DisplayApart: loops · DisplayNumber: loops · DisplayBest: loops.
  DERIVED. THE GIVEN ROWS OF THIS SEAT. 7 by the template 'for every input the law returns true; each argument reads behind the call as it read before'; 0 by the template 'total and deterministic' (their statements: YtlpomcliejmedaaGreatTotals.lean).
  GIVEN WITH THE SEED: the statements are not yours to turn. If you find one false, say at which input.
  Laid BY PROGRAM, IN A SANDBOX (cutbox-rows.mjs): the forced cells as the released guide's own fill.sh prints them over the translation e872f34ecb6987a1… (all of the seat's roots in one cut). By AI agents, Wed Nov 11 2026. No macro, syntax, notation, axiom, sorry.
-/
import Derived.Test.YtlpomcliejmedaaGreatChecked
import GoSem.Claim
import GoSem.ClaimJoined
import GoSem.ClaimMapViews
import Derived.JoinedTies
import Derived.KernelRfl
namespace Go.Proofs.YtlpomcliejmedaaGreat
/- THE CELL 'sum', in the pinned program and in every row, IS THE sha256 OF THE DUMP (.gsa) THAT YtlpomcliejmedaaGreatProg.lean LOADS. Nothing in Lean hashes anything: it is a label: what it is worth is what the hold of that sum in a sandbox is worth. -/
noncomputable def Tryz.pinned : Pinned := { name := "ytlpomcliejmedaagreat", sum := "e872f34ecb6987a16c4d92948cc1fc97af197ffad4db18efea0c48906066945a", checked := Tryz.checked }
namespace Rows
def none {H : Type} : Left H := { results := [], args := [] }

/-- 'vinculumlaw47.DisplayMake': WHATEVER THE INPUT: true; the input reads as it did. -/
def displayMakeSpec : ChangeSpec := { name := "displayMake", fn := fun _ => fun
  | [d1, d2, d3] => { results := [.lit (.bool true)], args := [d1, d2, d3] }
  | _ => none }
def displayMakeRow : OpenClaim := { program := "ytlpomcliejmedaagreat", sum := "e872f34ecb6987a16c4d92948cc1fc97af197ffad4db18efea0c48906066945a", func := "vinculum/vinculumlaw47.DisplayMake", spec := "displayMake", inPlace := ["internal/bytealg.IndexByteString", "internal/bytealg.IndexString"], unfollowed := true, recurses := true, named := ["internal/bytealg.MaxLen"], loops := true, plainKeys := false, apart := false }
def DisplayMakeSaid : Prop := displayMakeRow.holds Tryz.pinned (OpenSpec.ofChange displayMakeSpec)

/-- ITS FALSE NEIGHBOUR: 'it returns false'. Refute it at one input. -/
def displayMakeWrong : ChangeSpec := { name := "displayMake", fn := fun _ => fun
  | [d1, d2, d3] => { results := [.lit (.bool false)], args := [d1, d2, d3] }
  | _ => none }
def DisplayMakeWrongFalsely : Prop := displayMakeRow.holds Tryz.pinned (OpenSpec.ofChange displayMakeWrong)

/-- 'vinculumlaw47.DisplayLines': WHATEVER THE INPUT: true; the input reads as it did. -/
def displayLinesSpec : ChangeSpec := { name := "displayLines", fn := fun _ => fun
  | [d1, d2, d3] => { results := [.lit (.bool true)], args := [d1, d2, d3] }
  | _ => none }
def displayLinesRow : OpenClaim := { program := "ytlpomcliejmedaagreat", sum := "e872f34ecb6987a16c4d92948cc1fc97af197ffad4db18efea0c48906066945a", func := "vinculum/vinculumlaw47.DisplayLines", spec := "displayLines", inPlace := ["internal/bytealg.IndexByteString", "internal/bytealg.IndexString"], unfollowed := true, recurses := true, named := ["internal/bytealg.MaxLen"], loops := true, plainKeys := false, apart := false }
def DisplayLinesSaid : Prop := displayLinesRow.holds Tryz.pinned (OpenSpec.ofChange displayLinesSpec)

/-- ITS FALSE NEIGHBOUR: 'it returns false'. Refute it at one input. -/
def displayLinesWrong : ChangeSpec := { name := "displayLines", fn := fun _ => fun
  | [d1, d2, d3] => { results := [.lit (.bool false)], args := [d1, d2, d3] }
  | _ => none }
def DisplayLinesWrongFalsely : Prop := displayLinesRow.holds Tryz.pinned (OpenSpec.ofChange displayLinesWrong)

/-- 'vinculumlaw47.DisplayItems': WHATEVER THE INPUT: true; the input reads as it did. -/
def displayItemsSpec : ChangeSpec := { name := "displayItems", fn := fun _ => fun
  | [d1, d2, d3] => { results := [.lit (.bool true)], args := [d1, d2, d3] }
  | _ => none }
def displayItemsRow : OpenClaim := { program := "ytlpomcliejmedaagreat", sum := "e872f34ecb6987a16c4d92948cc1fc97af197ffad4db18efea0c48906066945a", func := "vinculum/vinculumlaw47.DisplayItems", spec := "displayItems", inPlace := ["internal/bytealg.IndexByteString", "internal/bytealg.IndexString"], unfollowed := true, recurses := true, named := ["internal/bytealg.MaxLen"], loops := true, plainKeys := false, apart := false }
def DisplayItemsSaid : Prop := displayItemsRow.holds Tryz.pinned (OpenSpec.ofChange displayItemsSpec)

/-- ITS FALSE NEIGHBOUR: 'it returns false'. Refute it at one input. -/
def displayItemsWrong : ChangeSpec := { name := "displayItems", fn := fun _ => fun
  | [d1, d2, d3] => { results := [.lit (.bool false)], args := [d1, d2, d3] }
  | _ => none }
def DisplayItemsWrongFalsely : Prop := displayItemsRow.holds Tryz.pinned (OpenSpec.ofChange displayItemsWrong)

/-- 'vinculumlaw47.DisplayFits': WHATEVER THE INPUT: true; the input reads as it did. -/
def displayFitsSpec : ChangeSpec := { name := "displayFits", fn := fun _ => fun
  | [d1, d2, d3] => { results := [.lit (.bool true)], args := [d1, d2, d3] }
  | _ => none }
def displayFitsRow : OpenClaim := { program := "ytlpomcliejmedaagreat", sum := "e872f34ecb6987a16c4d92948cc1fc97af197ffad4db18efea0c48906066945a", func := "vinculum/vinculumlaw47.DisplayFits", spec := "displayFits", inPlace := ["internal/bytealg.IndexByteString", "internal/bytealg.IndexString"], unfollowed := true, recurses := true, named := ["internal/bytealg.MaxLen"], loops := true, plainKeys := false, apart := false }
def DisplayFitsSaid : Prop := displayFitsRow.holds Tryz.pinned (OpenSpec.ofChange displayFitsSpec)

/-- ITS FALSE NEIGHBOUR: 'it returns false'. Refute it at one input. -/
def displayFitsWrong : ChangeSpec := { name := "displayFits", fn := fun _ => fun
  | [d1, d2, d3] => { results := [.lit (.bool false)], args := [d1, d2, d3] }
  | _ => none }
def DisplayFitsWrongFalsely : Prop := displayFitsRow.holds Tryz.pinned (OpenSpec.ofChange displayFitsWrong)

/-- 'vinculumlaw47.DisplayApart': WHATEVER THE INPUT: true; the input reads as it did. -/
def displayApartSpec : ChangeSpec := { name := "displayApart", fn := fun _ => fun
  | [d1, d2, d3] => { results := [.lit (.bool true)], args := [d1, d2, d3] }
  | _ => none }
def displayApartRow : OpenClaim := { program := "ytlpomcliejmedaagreat", sum := "e872f34ecb6987a16c4d92948cc1fc97af197ffad4db18efea0c48906066945a", func := "vinculum/vinculumlaw47.DisplayApart", spec := "displayApart", inPlace := ["internal/bytealg.IndexByteString", "internal/bytealg.IndexString"], unfollowed := true, recurses := true, named := ["internal/bytealg.MaxLen"], loops := true, plainKeys := false, apart := false }
def DisplayApartSaid : Prop := displayApartRow.holds Tryz.pinned (OpenSpec.ofChange displayApartSpec)

/-- ITS FALSE NEIGHBOUR: 'it returns false'. Refute it at one input. -/
def displayApartWrong : ChangeSpec := { name := "displayApart", fn := fun _ => fun
  | [d1, d2, d3] => { results := [.lit (.bool false)], args := [d1, d2, d3] }
  | _ => none }
def DisplayApartWrongFalsely : Prop := displayApartRow.holds Tryz.pinned (OpenSpec.ofChange displayApartWrong)

/-- 'vinculumlaw47.DisplayNumber': WHATEVER THE INPUT: true; the input reads as it did. -/
def displayNumberSpec : ChangeSpec := { name := "displayNumber", fn := fun _ => fun
  | [d1, d2, d3] => { results := [.lit (.bool true)], args := [d1, d2, d3] }
  | _ => none }
def displayNumberRow : OpenClaim := { program := "ytlpomcliejmedaagreat", sum := "e872f34ecb6987a16c4d92948cc1fc97af197ffad4db18efea0c48906066945a", func := "vinculum/vinculumlaw47.DisplayNumber", spec := "displayNumber", inPlace := ["internal/bytealg.IndexByteString", "internal/bytealg.IndexString"], unfollowed := true, recurses := true, named := ["internal/bytealg.MaxLen"], loops := true, plainKeys := false, apart := false }
def DisplayNumberSaid : Prop := displayNumberRow.holds Tryz.pinned (OpenSpec.ofChange displayNumberSpec)

/-- ITS FALSE NEIGHBOUR: 'it returns false'. Refute it at one input. -/
def displayNumberWrong : ChangeSpec := { name := "displayNumber", fn := fun _ => fun
  | [d1, d2, d3] => { results := [.lit (.bool false)], args := [d1, d2, d3] }
  | _ => none }
def DisplayNumberWrongFalsely : Prop := displayNumberRow.holds Tryz.pinned (OpenSpec.ofChange displayNumberWrong)

/-- 'vinculumlaw47.DisplayBest': WHATEVER THE INPUT: true; the input reads as it did. -/
def displayBestSpec : ChangeSpec := { name := "displayBest", fn := fun _ => fun
  | [d1, d2, d3] => { results := [.lit (.bool true)], args := [d1, d2, d3] }
  | _ => none }
def displayBestRow : OpenClaim := { program := "ytlpomcliejmedaagreat", sum := "e872f34ecb6987a16c4d92948cc1fc97af197ffad4db18efea0c48906066945a", func := "vinculum/vinculumlaw47.DisplayBest", spec := "displayBest", inPlace := ["internal/bytealg.IndexByteString", "internal/bytealg.IndexString"], unfollowed := true, recurses := true, named := ["internal/bytealg.MaxLen"], loops := true, plainKeys := false, apart := false }
def DisplayBestSaid : Prop := displayBestRow.holds Tryz.pinned (OpenSpec.ofChange displayBestSpec)

/-- ITS FALSE NEIGHBOUR: 'it returns false'. Refute it at one input. -/
def displayBestWrong : ChangeSpec := { name := "displayBest", fn := fun _ => fun
  | [d1, d2, d3] => { results := [.lit (.bool false)], args := [d1, d2, d3] }
  | _ => none }
def DisplayBestWrongFalsely : Prop := displayBestRow.holds Tryz.pinned (OpenSpec.ofChange displayBestWrong)

/- THE SECOND FORM. 'bulk': how many values and letters a reading holds, each counted each time it is reached (what is shared counts as often as it is met; a slice's spare places count too). A statement '..UptoSaid' is the law's where the arguments, and the package variables that the reading takes, are together of bulk at most 1048576: NARROWER than '..Said'. Prove '..Said' where nothing that the law and all that it calls make is longer than what came in: it says more and counts as full. Else prove '..UptoSaid'. A law counts once. -/
mutual
def uptoBulk {H : Type} : DataW H → Nat
  | .lit (.string bytes) => bytes.length + 1
  | .lit _ => 1
  | .nil => 1
  | .ptr d => uptoBulk d + 1
  | .slice elems spare => uptoBulkAll elems + uptoBulkAll spare + 1
  | .agg parts => uptoBulkAll parts + 1
  | .iface _ d => uptoBulk d + 1
  | .map entries => uptoBulkEntries entries + 1
  | .held _ => 1
def uptoBulkAll {H : Type} : List (DataW H) → Nat
  | [] => 0
  | d :: r => uptoBulk d + uptoBulkAll r
def uptoBulkEntries {H : Type} : List (Lit × DataW H) → Nat
  | [] => 0
  | x :: r => uptoBulkEntry x + uptoBulkEntries r
def uptoBulkEntry {H : Type} : Lit × DataW H → Nat
  | (.string bytes, d) => bytes.length + uptoBulk d + 1
  | (_, d) => uptoBulk d + 1
 end
def uptoSmall : (H : Type) → List (DataW H) → Bool := fun _ ds => decide (uptoBulkAll ds ≤ 1048576)
def OpenSpec.upto (s : _root_.Go.ChangeSpec) : _root_.Go.OpenSpec := { _root_.Go.OpenSpec.ofChange s with cond := some uptoSmall }

/-- 'vinculumlaw47.DisplayMake', WHERE WHAT IT READS IS OF BULK AT MOST 1048576: true; the input reads as it did. -/
def displayMakeUptoRow : OpenClaim := { program := "ytlpomcliejmedaagreat", sum := "e872f34ecb6987a16c4d92948cc1fc97af197ffad4db18efea0c48906066945a", func := "vinculum/vinculumlaw47.DisplayMake", spec := "displayMake", inPlace := ["internal/bytealg.IndexByteString", "internal/bytealg.IndexString"], unfollowed := true, recurses := true, named := ["internal/bytealg.MaxLen"], loops := true, plainKeys := false, apart := false, narrowed := true }
def DisplayMakeUptoSaid : Prop := displayMakeUptoRow.holds Tryz.pinned (OpenSpec.upto displayMakeSpec)

/-- 'vinculumlaw47.DisplayLines', WHERE WHAT IT READS IS OF BULK AT MOST 1048576: true; the input reads as it did. -/
def displayLinesUptoRow : OpenClaim := { program := "ytlpomcliejmedaagreat", sum := "e872f34ecb6987a16c4d92948cc1fc97af197ffad4db18efea0c48906066945a", func := "vinculum/vinculumlaw47.DisplayLines", spec := "displayLines", inPlace := ["internal/bytealg.IndexByteString", "internal/bytealg.IndexString"], unfollowed := true, recurses := true, named := ["internal/bytealg.MaxLen"], loops := true, plainKeys := false, apart := false, narrowed := true }
def DisplayLinesUptoSaid : Prop := displayLinesUptoRow.holds Tryz.pinned (OpenSpec.upto displayLinesSpec)

/-- 'vinculumlaw47.DisplayItems', WHERE WHAT IT READS IS OF BULK AT MOST 1048576: true; the input reads as it did. -/
def displayItemsUptoRow : OpenClaim := { program := "ytlpomcliejmedaagreat", sum := "e872f34ecb6987a16c4d92948cc1fc97af197ffad4db18efea0c48906066945a", func := "vinculum/vinculumlaw47.DisplayItems", spec := "displayItems", inPlace := ["internal/bytealg.IndexByteString", "internal/bytealg.IndexString"], unfollowed := true, recurses := true, named := ["internal/bytealg.MaxLen"], loops := true, plainKeys := false, apart := false, narrowed := true }
def DisplayItemsUptoSaid : Prop := displayItemsUptoRow.holds Tryz.pinned (OpenSpec.upto displayItemsSpec)

/-- 'vinculumlaw47.DisplayFits', WHERE WHAT IT READS IS OF BULK AT MOST 1048576: true; the input reads as it did. -/
def displayFitsUptoRow : OpenClaim := { program := "ytlpomcliejmedaagreat", sum := "e872f34ecb6987a16c4d92948cc1fc97af197ffad4db18efea0c48906066945a", func := "vinculum/vinculumlaw47.DisplayFits", spec := "displayFits", inPlace := ["internal/bytealg.IndexByteString", "internal/bytealg.IndexString"], unfollowed := true, recurses := true, named := ["internal/bytealg.MaxLen"], loops := true, plainKeys := false, apart := false, narrowed := true }
def DisplayFitsUptoSaid : Prop := displayFitsUptoRow.holds Tryz.pinned (OpenSpec.upto displayFitsSpec)

/-- 'vinculumlaw47.DisplayApart', WHERE WHAT IT READS IS OF BULK AT MOST 1048576: true; the input reads as it did. -/
def displayApartUptoRow : OpenClaim := { program := "ytlpomcliejmedaagreat", sum := "e872f34ecb6987a16c4d92948cc1fc97af197ffad4db18efea0c48906066945a", func := "vinculum/vinculumlaw47.DisplayApart", spec := "displayApart", inPlace := ["internal/bytealg.IndexByteString", "internal/bytealg.IndexString"], unfollowed := true, recurses := true, named := ["internal/bytealg.MaxLen"], loops := true, plainKeys := false, apart := false, narrowed := true }
def DisplayApartUptoSaid : Prop := displayApartUptoRow.holds Tryz.pinned (OpenSpec.upto displayApartSpec)

/-- 'vinculumlaw47.DisplayNumber', WHERE WHAT IT READS IS OF BULK AT MOST 1048576: true; the input reads as it did. -/
def displayNumberUptoRow : OpenClaim := { program := "ytlpomcliejmedaagreat", sum := "e872f34ecb6987a16c4d92948cc1fc97af197ffad4db18efea0c48906066945a", func := "vinculum/vinculumlaw47.DisplayNumber", spec := "displayNumber", inPlace := ["internal/bytealg.IndexByteString", "internal/bytealg.IndexString"], unfollowed := true, recurses := true, named := ["internal/bytealg.MaxLen"], loops := true, plainKeys := false, apart := false, narrowed := true }
def DisplayNumberUptoSaid : Prop := displayNumberUptoRow.holds Tryz.pinned (OpenSpec.upto displayNumberSpec)

/-- 'vinculumlaw47.DisplayBest', WHERE WHAT IT READS IS OF BULK AT MOST 1048576: true; the input reads as it did. -/
def displayBestUptoRow : OpenClaim := { program := "ytlpomcliejmedaagreat", sum := "e872f34ecb6987a16c4d92948cc1fc97af197ffad4db18efea0c48906066945a", func := "vinculum/vinculumlaw47.DisplayBest", spec := "displayBest", inPlace := ["internal/bytealg.IndexByteString", "internal/bytealg.IndexString"], unfollowed := true, recurses := true, named := ["internal/bytealg.MaxLen"], loops := true, plainKeys := false, apart := false, narrowed := true }
def DisplayBestUptoSaid : Prop := displayBestUptoRow.holds Tryz.pinned (OpenSpec.upto displayBestSpec)

end Rows
end Go.Proofs.YtlpomcliejmedaaGreat
