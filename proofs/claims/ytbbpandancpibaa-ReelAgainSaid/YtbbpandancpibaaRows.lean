/-
  No cell of these rows narrows 'for every input' (looked for: loops, veiled, ifaces, maps, wideKeys, modest, calm, conditions, laid).
  DERIVED. THE GIVEN ROWS OF THIS SEAT. 9 by the template 'for every input the law returns true; each argument reads behind the call as it read before'; 0 by the template 'total and deterministic' (their statements: YtbbpandancpibaaTotals.lean).
  GIVEN WITH THE SEED: the statements are not yours to turn. If you find one false, say at which input.
  Laid BY PROGRAM, IN A SANDBOX (cutbox-rows.mjs): the forced cells as the released guide's own fill.sh prints them over the translation 2092158c3c6a4361… (all of the seat's roots in one cut). By AI agents, Wed Nov 11 2026. No macro, syntax, notation, axiom, sorry.
-/
import Derived.Test.YtbbpandancpibaaChecked
import GoSem.Claim
import GoSem.ClaimJoined
import GoSem.ClaimMapViews
import Derived.JoinedTies
import Derived.KernelRfl
namespace Go.Proofs.Ytbbpandancpibaa
/- THE CELL 'sum', in the pinned program and in every row, IS THE sha256 OF THE DUMP (.gsa) THAT YtbbpandancpibaaProg.lean LOADS. Nothing in Lean hashes anything: it is a label: what it is worth is what the hold of that sum in a sandbox is worth. -/
noncomputable def Try.pinned : Pinned := { name := "ytbbpandancpibaa", sum := "2092158c3c6a43615bc8aa2bd443c1782373152df34a6eee04693bd122adc40b", checked := Try.checked }
namespace Rows
def none {H : Type} : Left H := { results := [], args := [] }

/-- 'packhorselaw08.MarksNames': WHATEVER THE INPUT: true; the input reads as it did. -/
def marksNamesSpec : ChangeSpec := { name := "marksNames", fn := fun _ => fun
  | [] => { results := [.lit (.bool true)], args := [] }
  | _ => none }
def marksNamesRow : OpenClaim := { program := "ytbbpandancpibaa", sum := "2092158c3c6a43615bc8aa2bd443c1782373152df34a6eee04693bd122adc40b", func := "packhorse/packhorselaw08.MarksNames", spec := "marksNames", unfollowed := true, recurses := true, apart := false }
def MarksNamesSaid : Prop := marksNamesRow.holds Try.pinned (OpenSpec.ofChange marksNamesSpec)

/-- ITS FALSE NEIGHBOUR: 'it returns false'. Refute it at one input. -/
def marksNamesWrong : ChangeSpec := { name := "marksNames", fn := fun _ => fun
  | [] => { results := [.lit (.bool false)], args := [] }
  | _ => none }
def MarksNamesWrongFalsely : Prop := marksNamesRow.holds Try.pinned (OpenSpec.ofChange marksNamesWrong)

/-- 'packhorselaw08.MarksRise': WHATEVER THE INPUT: true; the input reads as it did. -/
def marksRiseSpec : ChangeSpec := { name := "marksRise", fn := fun _ => fun
  | [d1, d2] => { results := [.lit (.bool true)], args := [d1, d2] }
  | _ => none }
def marksRiseRow : OpenClaim := { program := "ytbbpandancpibaa", sum := "2092158c3c6a43615bc8aa2bd443c1782373152df34a6eee04693bd122adc40b", func := "packhorse/packhorselaw08.MarksRise", spec := "marksRise", unfollowed := true, recurses := true, apart := false }
def MarksRiseSaid : Prop := marksRiseRow.holds Try.pinned (OpenSpec.ofChange marksRiseSpec)

/-- ITS FALSE NEIGHBOUR: 'it returns false'. Refute it at one input. -/
def marksRiseWrong : ChangeSpec := { name := "marksRise", fn := fun _ => fun
  | [d1, d2] => { results := [.lit (.bool false)], args := [d1, d2] }
  | _ => none }
def MarksRiseWrongFalsely : Prop := marksRiseRow.holds Try.pinned (OpenSpec.ofChange marksRiseWrong)

/-- 'packhorselaw08.MarksRun': WHATEVER THE INPUT: true; the input reads as it did. -/
def marksRunSpec : ChangeSpec := { name := "marksRun", fn := fun _ => fun
  | [d1, d2] => { results := [.lit (.bool true)], args := [d1, d2] }
  | _ => none }
def marksRunRow : OpenClaim := { program := "ytbbpandancpibaa", sum := "2092158c3c6a43615bc8aa2bd443c1782373152df34a6eee04693bd122adc40b", func := "packhorse/packhorselaw08.MarksRun", spec := "marksRun", unfollowed := true, recurses := true, apart := false }
def MarksRunSaid : Prop := marksRunRow.holds Try.pinned (OpenSpec.ofChange marksRunSpec)

/-- ITS FALSE NEIGHBOUR: 'it returns false'. Refute it at one input. -/
def marksRunWrong : ChangeSpec := { name := "marksRun", fn := fun _ => fun
  | [d1, d2] => { results := [.lit (.bool false)], args := [d1, d2] }
  | _ => none }
def MarksRunWrongFalsely : Prop := marksRunRow.holds Try.pinned (OpenSpec.ofChange marksRunWrong)

/-- 'packhorselaw09.ReelAgain': WHATEVER THE INPUT: true; the input reads as it did. -/
def reelAgainSpec : ChangeSpec := { name := "reelAgain", fn := fun _ => fun
  | [d1, d2] => { results := [.lit (.bool true)], args := [d1, d2] }
  | _ => none }
def reelAgainRow : OpenClaim := { program := "ytbbpandancpibaa", sum := "2092158c3c6a43615bc8aa2bd443c1782373152df34a6eee04693bd122adc40b", func := "packhorse/packhorselaw09.ReelAgain", spec := "reelAgain", unfollowed := true, recurses := true, apart := false }
def ReelAgainSaid : Prop := reelAgainRow.holds Try.pinned (OpenSpec.ofChange reelAgainSpec)

/-- ITS FALSE NEIGHBOUR: 'it returns false'. Refute it at one input. -/
def reelAgainWrong : ChangeSpec := { name := "reelAgain", fn := fun _ => fun
  | [d1, d2] => { results := [.lit (.bool false)], args := [d1, d2] }
  | _ => none }
def ReelAgainWrongFalsely : Prop := reelAgainRow.holds Try.pinned (OpenSpec.ofChange reelAgainWrong)

/-- 'packhorselaw09.ReelNames': WHATEVER THE INPUT: true; the input reads as it did. -/
def reelNamesSpec : ChangeSpec := { name := "reelNames", fn := fun _ => fun
  | [] => { results := [.lit (.bool true)], args := [] }
  | _ => none }
def reelNamesRow : OpenClaim := { program := "ytbbpandancpibaa", sum := "2092158c3c6a43615bc8aa2bd443c1782373152df34a6eee04693bd122adc40b", func := "packhorse/packhorselaw09.ReelNames", spec := "reelNames", unfollowed := true, recurses := true, apart := false }
def ReelNamesSaid : Prop := reelNamesRow.holds Try.pinned (OpenSpec.ofChange reelNamesSpec)

/-- ITS FALSE NEIGHBOUR: 'it returns false'. Refute it at one input. -/
def reelNamesWrong : ChangeSpec := { name := "reelNames", fn := fun _ => fun
  | [] => { results := [.lit (.bool false)], args := [] }
  | _ => none }
def ReelNamesWrongFalsely : Prop := reelNamesRow.holds Try.pinned (OpenSpec.ofChange reelNamesWrong)

/-- 'packhorselaw09.ReelCells': WHATEVER THE INPUT: true; the input reads as it did. -/
def reelCellsSpec : ChangeSpec := { name := "reelCells", fn := fun _ => fun
  | [d] => { results := [.lit (.bool true)], args := [d] }
  | _ => none }
def reelCellsRow : OpenClaim := { program := "ytbbpandancpibaa", sum := "2092158c3c6a43615bc8aa2bd443c1782373152df34a6eee04693bd122adc40b", func := "packhorse/packhorselaw09.ReelCells", spec := "reelCells", unfollowed := true, recurses := true, apart := false }
def ReelCellsSaid : Prop := reelCellsRow.holds Try.pinned (OpenSpec.ofChange reelCellsSpec)

/-- ITS FALSE NEIGHBOUR: 'it returns false'. Refute it at one input. -/
def reelCellsWrong : ChangeSpec := { name := "reelCells", fn := fun _ => fun
  | [d] => { results := [.lit (.bool false)], args := [d] }
  | _ => none }
def ReelCellsWrongFalsely : Prop := reelCellsRow.holds Try.pinned (OpenSpec.ofChange reelCellsWrong)

/-- 'packhorselaw09.ReelRoom': WHATEVER THE INPUT: true; the input reads as it did. -/
def reelRoomSpec : ChangeSpec := { name := "reelRoom", fn := fun _ => fun
  | [d1, d2] => { results := [.lit (.bool true)], args := [d1, d2] }
  | _ => none }
def reelRoomRow : OpenClaim := { program := "ytbbpandancpibaa", sum := "2092158c3c6a43615bc8aa2bd443c1782373152df34a6eee04693bd122adc40b", func := "packhorse/packhorselaw09.ReelRoom", spec := "reelRoom", unfollowed := true, recurses := true, apart := false }
def ReelRoomSaid : Prop := reelRoomRow.holds Try.pinned (OpenSpec.ofChange reelRoomSpec)

/-- ITS FALSE NEIGHBOUR: 'it returns false'. Refute it at one input. -/
def reelRoomWrong : ChangeSpec := { name := "reelRoom", fn := fun _ => fun
  | [d1, d2] => { results := [.lit (.bool false)], args := [d1, d2] }
  | _ => none }
def ReelRoomWrongFalsely : Prop := reelRoomRow.holds Try.pinned (OpenSpec.ofChange reelRoomWrong)

/-- 'packhorselaw09.ReelRuns': WHATEVER THE INPUT: true; the input reads as it did. -/
def reelRunsSpec : ChangeSpec := { name := "reelRuns", fn := fun _ => fun
  | [d1, d2] => { results := [.lit (.bool true)], args := [d1, d2] }
  | _ => none }
def reelRunsRow : OpenClaim := { program := "ytbbpandancpibaa", sum := "2092158c3c6a43615bc8aa2bd443c1782373152df34a6eee04693bd122adc40b", func := "packhorse/packhorselaw09.ReelRuns", spec := "reelRuns", unfollowed := true, recurses := true, apart := false }
def ReelRunsSaid : Prop := reelRunsRow.holds Try.pinned (OpenSpec.ofChange reelRunsSpec)

/-- ITS FALSE NEIGHBOUR: 'it returns false'. Refute it at one input. -/
def reelRunsWrong : ChangeSpec := { name := "reelRuns", fn := fun _ => fun
  | [d1, d2] => { results := [.lit (.bool false)], args := [d1, d2] }
  | _ => none }
def ReelRunsWrongFalsely : Prop := reelRunsRow.holds Try.pinned (OpenSpec.ofChange reelRunsWrong)

/-- 'packhorselaw09.ReelHolds': WHATEVER THE INPUT: true; the input reads as it did. -/
def reelHoldsSpec : ChangeSpec := { name := "reelHolds", fn := fun _ => fun
  | [d1, d2] => { results := [.lit (.bool true)], args := [d1, d2] }
  | _ => none }
def reelHoldsRow : OpenClaim := { program := "ytbbpandancpibaa", sum := "2092158c3c6a43615bc8aa2bd443c1782373152df34a6eee04693bd122adc40b", func := "packhorse/packhorselaw09.ReelHolds", spec := "reelHolds", unfollowed := true, recurses := true, apart := false }
def ReelHoldsSaid : Prop := reelHoldsRow.holds Try.pinned (OpenSpec.ofChange reelHoldsSpec)

/-- ITS FALSE NEIGHBOUR: 'it returns false'. Refute it at one input. -/
def reelHoldsWrong : ChangeSpec := { name := "reelHolds", fn := fun _ => fun
  | [d1, d2] => { results := [.lit (.bool false)], args := [d1, d2] }
  | _ => none }
def ReelHoldsWrongFalsely : Prop := reelHoldsRow.holds Try.pinned (OpenSpec.ofChange reelHoldsWrong)

/- THE SECOND FORM. 'bulk': how many values and letters a reading holds, each counted each time it is reached (what is shared counts as often as it is met; a slice's spare places count too). A statement '..UptoSaid' is the law's where the arguments, and the package variables that the reading takes, are together of bulk at most 1048576: NARROWER than '..Said'. Prove '..Said' where nothing that the law and all that it calls make is longer than what came in: it says more and counts as full. Else prove '..UptoSaid'. A law counts once. -/
mutual
def uptoBulk {H : Type} : DataW H → Nat
  | .lit (.string bytes) => bytes.length + 1
  | .lit _ => 1
  | .nil => 1
  | .ptr d => uptoBulk d + 1
  | .slice elems spare => uptoBulkAll elems + uptoBulkAll spare + 1
  | .agg parts => uptoBulkAll parts + 1
  | .iface _ d => uptoBulk d + 1
  | .map entries => uptoBulkEntries entries + 1
  | .held _ => 1
def uptoBulkAll {H : Type} : List (DataW H) → Nat
  | [] => 0
  | d :: r => uptoBulk d + uptoBulkAll r
def uptoBulkEntries {H : Type} : List (Lit × DataW H) → Nat
  | [] => 0
  | x :: r => uptoBulkEntry x + uptoBulkEntries r
def uptoBulkEntry {H : Type} : Lit × DataW H → Nat
  | (.string bytes, d) => bytes.length + uptoBulk d + 1
  | (_, d) => uptoBulk d + 1
 end
def uptoSmall : (H : Type) → List (DataW H) → Bool := fun _ ds => decide (uptoBulkAll ds ≤ 1048576)
def OpenSpec.upto (s : _root_.Go.ChangeSpec) : _root_.Go.OpenSpec := { _root_.Go.OpenSpec.ofChange s with cond := some uptoSmall }

/-- 'packhorselaw08.MarksNames', WHERE WHAT IT READS IS OF BULK AT MOST 1048576: true; the input reads as it did. -/
def marksNamesUptoRow : OpenClaim := { program := "ytbbpandancpibaa", sum := "2092158c3c6a43615bc8aa2bd443c1782373152df34a6eee04693bd122adc40b", func := "packhorse/packhorselaw08.MarksNames", spec := "marksNames", unfollowed := true, recurses := true, apart := false, narrowed := true }
def MarksNamesUptoSaid : Prop := marksNamesUptoRow.holds Try.pinned (OpenSpec.upto marksNamesSpec)

/-- 'packhorselaw08.MarksRise', WHERE WHAT IT READS IS OF BULK AT MOST 1048576: true; the input reads as it did. -/
def marksRiseUptoRow : OpenClaim := { program := "ytbbpandancpibaa", sum := "2092158c3c6a43615bc8aa2bd443c1782373152df34a6eee04693bd122adc40b", func := "packhorse/packhorselaw08.MarksRise", spec := "marksRise", unfollowed := true, recurses := true, apart := false, narrowed := true }
def MarksRiseUptoSaid : Prop := marksRiseUptoRow.holds Try.pinned (OpenSpec.upto marksRiseSpec)

/-- 'packhorselaw08.MarksRun', WHERE WHAT IT READS IS OF BULK AT MOST 1048576: true; the input reads as it did. -/
def marksRunUptoRow : OpenClaim := { program := "ytbbpandancpibaa", sum := "2092158c3c6a43615bc8aa2bd443c1782373152df34a6eee04693bd122adc40b", func := "packhorse/packhorselaw08.MarksRun", spec := "marksRun", unfollowed := true, recurses := true, apart := false, narrowed := true }
def MarksRunUptoSaid : Prop := marksRunUptoRow.holds Try.pinned (OpenSpec.upto marksRunSpec)

/-- 'packhorselaw09.ReelAgain', WHERE WHAT IT READS IS OF BULK AT MOST 1048576: true; the input reads as it did. -/
def reelAgainUptoRow : OpenClaim := { program := "ytbbpandancpibaa", sum := "2092158c3c6a43615bc8aa2bd443c1782373152df34a6eee04693bd122adc40b", func := "packhorse/packhorselaw09.ReelAgain", spec := "reelAgain", unfollowed := true, recurses := true, apart := false, narrowed := true }
def ReelAgainUptoSaid : Prop := reelAgainUptoRow.holds Try.pinned (OpenSpec.upto reelAgainSpec)

/-- 'packhorselaw09.ReelNames', WHERE WHAT IT READS IS OF BULK AT MOST 1048576: true; the input reads as it did. -/
def reelNamesUptoRow : OpenClaim := { program := "ytbbpandancpibaa", sum := "2092158c3c6a43615bc8aa2bd443c1782373152df34a6eee04693bd122adc40b", func := "packhorse/packhorselaw09.ReelNames", spec := "reelNames", unfollowed := true, recurses := true, apart := false, narrowed := true }
def ReelNamesUptoSaid : Prop := reelNamesUptoRow.holds Try.pinned (OpenSpec.upto reelNamesSpec)

/-- 'packhorselaw09.ReelCells', WHERE WHAT IT READS IS OF BULK AT MOST 1048576: true; the input reads as it did. -/
def reelCellsUptoRow : OpenClaim := { program := "ytbbpandancpibaa", sum := "2092158c3c6a43615bc8aa2bd443c1782373152df34a6eee04693bd122adc40b", func := "packhorse/packhorselaw09.ReelCells", spec := "reelCells", unfollowed := true, recurses := true, apart := false, narrowed := true }
def ReelCellsUptoSaid : Prop := reelCellsUptoRow.holds Try.pinned (OpenSpec.upto reelCellsSpec)

/-- 'packhorselaw09.ReelRoom', WHERE WHAT IT READS IS OF BULK AT MOST 1048576: true; the input reads as it did. -/
def reelRoomUptoRow : OpenClaim := { program := "ytbbpandancpibaa", sum := "2092158c3c6a43615bc8aa2bd443c1782373152df34a6eee04693bd122adc40b", func := "packhorse/packhorselaw09.ReelRoom", spec := "reelRoom", unfollowed := true, recurses := true, apart := false, narrowed := true }
def ReelRoomUptoSaid : Prop := reelRoomUptoRow.holds Try.pinned (OpenSpec.upto reelRoomSpec)

/-- 'packhorselaw09.ReelRuns', WHERE WHAT IT READS IS OF BULK AT MOST 1048576: true; the input reads as it did. -/
def reelRunsUptoRow : OpenClaim := { program := "ytbbpandancpibaa", sum := "2092158c3c6a43615bc8aa2bd443c1782373152df34a6eee04693bd122adc40b", func := "packhorse/packhorselaw09.ReelRuns", spec := "reelRuns", unfollowed := true, recurses := true, apart := false, narrowed := true }
def ReelRunsUptoSaid : Prop := reelRunsUptoRow.holds Try.pinned (OpenSpec.upto reelRunsSpec)

/-- 'packhorselaw09.ReelHolds', WHERE WHAT IT READS IS OF BULK AT MOST 1048576: true; the input reads as it did. -/
def reelHoldsUptoRow : OpenClaim := { program := "ytbbpandancpibaa", sum := "2092158c3c6a43615bc8aa2bd443c1782373152df34a6eee04693bd122adc40b", func := "packhorse/packhorselaw09.ReelHolds", spec := "reelHolds", unfollowed := true, recurses := true, apart := false, narrowed := true }
def ReelHoldsUptoSaid : Prop := reelHoldsUptoRow.holds Try.pinned (OpenSpec.upto reelHoldsSpec)

end Rows
end Go.Proofs.Ytbbpandancpibaa
