/-
  No cell of these rows narrows 'for every input' (looked for: loops, veiled, ifaces, maps, wideKeys, modest, calm, conditions, laid).
  DERIVED. THE GIVEN ROWS OF THIS SEAT. 11 by the template 'for every input the law returns true; each argument reads behind the call as it read before'; 0 by the template 'total and deterministic' (their statements: YtigbpkocmklbpaaTotals.lean).
  GIVEN WITH THE SEED: the statements are not yours to turn. If you find one false, say at which input.
  Laid BY PROGRAM, IN A SANDBOX (cutbox-rows.mjs): the forced cells as the released guide's own fill.sh prints them over the translation 6114fd44deaade77… (all of the seat's roots in one cut). By AI agents, Wed Nov 11 2026. No macro, syntax, notation, axiom, sorry.
-/
import Derived.Test.YtigbpkocmklbpaaChecked
import GoSem.Claim
import GoSem.ClaimJoined
import GoSem.ClaimMapViews
import Derived.JoinedTies
import Derived.KernelRfl
namespace Go.Proofs.Ytigbpkocmklbpaa
/- THE CELL 'sum', in the pinned program and in every row, IS THE sha256 OF THE DUMP (.gsa) THAT YtigbpkocmklbpaaProg.lean LOADS. Nothing in Lean hashes anything: it is a label: what it is worth is what the hold of that sum in a sandbox is worth. -/
noncomputable def Try.pinned : Pinned := { name := "ytigbpkocmklbpaa", sum := "6114fd44deaade771262a3c46ef2e6cc343432a45de58974b2df34ce0a85ff34", checked := Try.checked }
namespace Rows
def none {H : Type} : Left H := { results := [], args := [] }

/-- 'packhorselaw07.PlateKeeps': WHATEVER THE INPUT: true; the input reads as it did. -/
def plateKeepsSpec : ChangeSpec := { name := "plateKeeps", fn := fun _ => fun
  | [d1, d2, d3] => { results := [.lit (.bool true)], args := [d1, d2, d3] }
  | _ => none }
def plateKeepsRow : OpenClaim := { program := "ytigbpkocmklbpaa", sum := "6114fd44deaade771262a3c46ef2e6cc343432a45de58974b2df34ce0a85ff34", func := "packhorse/packhorselaw07.PlateKeeps", spec := "plateKeeps", unfollowed := true, recurses := true, apart := false }
def PlateKeepsSaid : Prop := plateKeepsRow.holds Try.pinned (OpenSpec.ofChange plateKeepsSpec)

/-- ITS FALSE NEIGHBOUR: 'it returns false'. Refute it at one input. -/
def plateKeepsWrong : ChangeSpec := { name := "plateKeeps", fn := fun _ => fun
  | [d1, d2, d3] => { results := [.lit (.bool false)], args := [d1, d2, d3] }
  | _ => none }
def PlateKeepsWrongFalsely : Prop := plateKeepsRow.holds Try.pinned (OpenSpec.ofChange plateKeepsWrong)

/-- 'packhorselaw07.PlateTears': WHATEVER THE INPUT: true; the input reads as it did. -/
def plateTearsSpec : ChangeSpec := { name := "plateTears", fn := fun _ => fun
  | [d1, d2, d3] => { results := [.lit (.bool true)], args := [d1, d2, d3] }
  | _ => none }
def plateTearsRow : OpenClaim := { program := "ytigbpkocmklbpaa", sum := "6114fd44deaade771262a3c46ef2e6cc343432a45de58974b2df34ce0a85ff34", func := "packhorse/packhorselaw07.PlateTears", spec := "plateTears", unfollowed := true, recurses := true, apart := false }
def PlateTearsSaid : Prop := plateTearsRow.holds Try.pinned (OpenSpec.ofChange plateTearsSpec)

/-- ITS FALSE NEIGHBOUR: 'it returns false'. Refute it at one input. -/
def plateTearsWrong : ChangeSpec := { name := "plateTears", fn := fun _ => fun
  | [d1, d2, d3] => { results := [.lit (.bool false)], args := [d1, d2, d3] }
  | _ => none }
def PlateTearsWrongFalsely : Prop := plateTearsRow.holds Try.pinned (OpenSpec.ofChange plateTearsWrong)

/-- 'packhorselaw07.PlateNames': WHATEVER THE INPUT: true; the input reads as it did. -/
def plateNamesSpec : ChangeSpec := { name := "plateNames", fn := fun _ => fun
  | [] => { results := [.lit (.bool true)], args := [] }
  | _ => none }
def plateNamesRow : OpenClaim := { program := "ytigbpkocmklbpaa", sum := "6114fd44deaade771262a3c46ef2e6cc343432a45de58974b2df34ce0a85ff34", func := "packhorse/packhorselaw07.PlateNames", spec := "plateNames", unfollowed := true, recurses := true, apart := false }
def PlateNamesSaid : Prop := plateNamesRow.holds Try.pinned (OpenSpec.ofChange plateNamesSpec)

/-- ITS FALSE NEIGHBOUR: 'it returns false'. Refute it at one input. -/
def plateNamesWrong : ChangeSpec := { name := "plateNames", fn := fun _ => fun
  | [] => { results := [.lit (.bool false)], args := [] }
  | _ => none }
def PlateNamesWrongFalsely : Prop := plateNamesRow.holds Try.pinned (OpenSpec.ofChange plateNamesWrong)

/-- 'packhorselaw07.PlateRuns': WHATEVER THE INPUT: true; the input reads as it did. -/
def plateRunsSpec : ChangeSpec := { name := "plateRuns", fn := fun _ => fun
  | [d1, d2] => { results := [.lit (.bool true)], args := [d1, d2] }
  | _ => none }
def plateRunsRow : OpenClaim := { program := "ytigbpkocmklbpaa", sum := "6114fd44deaade771262a3c46ef2e6cc343432a45de58974b2df34ce0a85ff34", func := "packhorse/packhorselaw07.PlateRuns", spec := "plateRuns", unfollowed := true, recurses := true, apart := false }
def PlateRunsSaid : Prop := plateRunsRow.holds Try.pinned (OpenSpec.ofChange plateRunsSpec)

/-- ITS FALSE NEIGHBOUR: 'it returns false'. Refute it at one input. -/
def plateRunsWrong : ChangeSpec := { name := "plateRuns", fn := fun _ => fun
  | [d1, d2] => { results := [.lit (.bool false)], args := [d1, d2] }
  | _ => none }
def PlateRunsWrongFalsely : Prop := plateRunsRow.holds Try.pinned (OpenSpec.ofChange plateRunsWrong)

/-- 'packhorselaw07.PlateLimits': WHATEVER THE INPUT: true; the input reads as it did. -/
def plateLimitsSpec : ChangeSpec := { name := "plateLimits", fn := fun _ => fun
  | [d1, d2] => { results := [.lit (.bool true)], args := [d1, d2] }
  | _ => none }
def plateLimitsRow : OpenClaim := { program := "ytigbpkocmklbpaa", sum := "6114fd44deaade771262a3c46ef2e6cc343432a45de58974b2df34ce0a85ff34", func := "packhorse/packhorselaw07.PlateLimits", spec := "plateLimits", unfollowed := true, recurses := true, apart := false }
def PlateLimitsSaid : Prop := plateLimitsRow.holds Try.pinned (OpenSpec.ofChange plateLimitsSpec)

/-- ITS FALSE NEIGHBOUR: 'it returns false'. Refute it at one input. -/
def plateLimitsWrong : ChangeSpec := { name := "plateLimits", fn := fun _ => fun
  | [d1, d2] => { results := [.lit (.bool false)], args := [d1, d2] }
  | _ => none }
def PlateLimitsWrongFalsely : Prop := plateLimitsRow.holds Try.pinned (OpenSpec.ofChange plateLimitsWrong)

/-- 'packhorselaw06.PacketFrames': WHATEVER THE INPUT: true; the input reads as it did. -/
def packetFramesSpec : ChangeSpec := { name := "packetFrames", fn := fun _ => fun
  | [d1, d2] => { results := [.lit (.bool true)], args := [d1, d2] }
  | _ => none }
def packetFramesRow : OpenClaim := { program := "ytigbpkocmklbpaa", sum := "6114fd44deaade771262a3c46ef2e6cc343432a45de58974b2df34ce0a85ff34", func := "packhorse/packhorselaw06.PacketFrames", spec := "packetFrames", apart := false }
def PacketFramesSaid : Prop := packetFramesRow.holds Try.pinned (OpenSpec.ofChange packetFramesSpec)

/-- ITS FALSE NEIGHBOUR: 'it returns false'. Refute it at one input. -/
def packetFramesWrong : ChangeSpec := { name := "packetFrames", fn := fun _ => fun
  | [d1, d2] => { results := [.lit (.bool false)], args := [d1, d2] }
  | _ => none }
def PacketFramesWrongFalsely : Prop := packetFramesRow.holds Try.pinned (OpenSpec.ofChange packetFramesWrong)

/-- 'packhorselaw06.PacketAlone': WHATEVER THE INPUT: true; the input reads as it did. -/
def packetAloneSpec : ChangeSpec := { name := "packetAlone", fn := fun _ => fun
  | [d1, d2] => { results := [.lit (.bool true)], args := [d1, d2] }
  | _ => none }
def packetAloneRow : OpenClaim := { program := "ytigbpkocmklbpaa", sum := "6114fd44deaade771262a3c46ef2e6cc343432a45de58974b2df34ce0a85ff34", func := "packhorse/packhorselaw06.PacketAlone", spec := "packetAlone", apart := false }
def PacketAloneSaid : Prop := packetAloneRow.holds Try.pinned (OpenSpec.ofChange packetAloneSpec)

/-- ITS FALSE NEIGHBOUR: 'it returns false'. Refute it at one input. -/
def packetAloneWrong : ChangeSpec := { name := "packetAlone", fn := fun _ => fun
  | [d1, d2] => { results := [.lit (.bool false)], args := [d1, d2] }
  | _ => none }
def PacketAloneWrongFalsely : Prop := packetAloneRow.holds Try.pinned (OpenSpec.ofChange packetAloneWrong)

/-- 'packhorselaw06.PacketShort': WHATEVER THE INPUT: true; the input reads as it did. -/
def packetShortSpec : ChangeSpec := { name := "packetShort", fn := fun _ => fun
  | [d1, d2] => { results := [.lit (.bool true)], args := [d1, d2] }
  | _ => none }
def packetShortRow : OpenClaim := { program := "ytigbpkocmklbpaa", sum := "6114fd44deaade771262a3c46ef2e6cc343432a45de58974b2df34ce0a85ff34", func := "packhorse/packhorselaw06.PacketShort", spec := "packetShort", apart := false }
def PacketShortSaid : Prop := packetShortRow.holds Try.pinned (OpenSpec.ofChange packetShortSpec)

/-- ITS FALSE NEIGHBOUR: 'it returns false'. Refute it at one input. -/
def packetShortWrong : ChangeSpec := { name := "packetShort", fn := fun _ => fun
  | [d1, d2] => { results := [.lit (.bool false)], args := [d1, d2] }
  | _ => none }
def PacketShortWrongFalsely : Prop := packetShortRow.holds Try.pinned (OpenSpec.ofChange packetShortWrong)

/-- 'packhorselaw06.PacketWrites': WHATEVER THE INPUT: true; the input reads as it did. -/
def packetWritesSpec : ChangeSpec := { name := "packetWrites", fn := fun _ => fun
  | [d1, d2, d3] => { results := [.lit (.bool true)], args := [d1, d2, d3] }
  | _ => none }
def packetWritesRow : OpenClaim := { program := "ytigbpkocmklbpaa", sum := "6114fd44deaade771262a3c46ef2e6cc343432a45de58974b2df34ce0a85ff34", func := "packhorse/packhorselaw06.PacketWrites", spec := "packetWrites", apart := false }
def PacketWritesSaid : Prop := packetWritesRow.holds Try.pinned (OpenSpec.ofChange packetWritesSpec)

/-- ITS FALSE NEIGHBOUR: 'it returns false'. Refute it at one input. -/
def packetWritesWrong : ChangeSpec := { name := "packetWrites", fn := fun _ => fun
  | [d1, d2, d3] => { results := [.lit (.bool false)], args := [d1, d2, d3] }
  | _ => none }
def PacketWritesWrongFalsely : Prop := packetWritesRow.holds Try.pinned (OpenSpec.ofChange packetWritesWrong)

/-- 'packhorselaw06.PacketNames': WHATEVER THE INPUT: true; the input reads as it did. -/
def packetNamesSpec : ChangeSpec := { name := "packetNames", fn := fun _ => fun
  | [] => { results := [.lit (.bool true)], args := [] }
  | _ => none }
def packetNamesRow : OpenClaim := { program := "ytigbpkocmklbpaa", sum := "6114fd44deaade771262a3c46ef2e6cc343432a45de58974b2df34ce0a85ff34", func := "packhorse/packhorselaw06.PacketNames", spec := "packetNames", apart := false }
def PacketNamesSaid : Prop := packetNamesRow.holds Try.pinned (OpenSpec.ofChange packetNamesSpec)

/-- ITS FALSE NEIGHBOUR: 'it returns false'. Refute it at one input. -/
def packetNamesWrong : ChangeSpec := { name := "packetNames", fn := fun _ => fun
  | [] => { results := [.lit (.bool false)], args := [] }
  | _ => none }
def PacketNamesWrongFalsely : Prop := packetNamesRow.holds Try.pinned (OpenSpec.ofChange packetNamesWrong)

/-- 'packhorselaw06.PacketReads': WHATEVER THE INPUT: true; the input reads as it did. -/
def packetReadsSpec : ChangeSpec := { name := "packetReads", fn := fun _ => fun
  | [d1, d2] => { results := [.lit (.bool true)], args := [d1, d2] }
  | _ => none }
def packetReadsRow : OpenClaim := { program := "ytigbpkocmklbpaa", sum := "6114fd44deaade771262a3c46ef2e6cc343432a45de58974b2df34ce0a85ff34", func := "packhorse/packhorselaw06.PacketReads", spec := "packetReads", apart := false }
def PacketReadsSaid : Prop := packetReadsRow.holds Try.pinned (OpenSpec.ofChange packetReadsSpec)

/-- ITS FALSE NEIGHBOUR: 'it returns false'. Refute it at one input. -/
def packetReadsWrong : ChangeSpec := { name := "packetReads", fn := fun _ => fun
  | [d1, d2] => { results := [.lit (.bool false)], args := [d1, d2] }
  | _ => none }
def PacketReadsWrongFalsely : Prop := packetReadsRow.holds Try.pinned (OpenSpec.ofChange packetReadsWrong)

/- THE SECOND FORM. 'bulk': how many values and letters a reading holds, each counted each time it is reached (what is shared counts as often as it is met; a slice's spare places count too). A statement '..UptoSaid' is the law's where the arguments, and the package variables that the reading takes, are together of bulk at most 1048576: NARROWER than '..Said'. Prove '..Said' where nothing that the law and all that it calls make is longer than what came in: it says more and counts as full. Else prove '..UptoSaid'. A law counts once. -/
mutual
def uptoBulk {H : Type} : DataW H → Nat
  | .lit (.string bytes) => bytes.length + 1
  | .lit _ => 1
  | .nil => 1
  | .ptr d => uptoBulk d + 1
  | .slice elems spare => uptoBulkAll elems + uptoBulkAll spare + 1
  | .agg parts => uptoBulkAll parts + 1
  | .iface _ d => uptoBulk d + 1
  | .map entries => uptoBulkEntries entries + 1
  | .held _ => 1
def uptoBulkAll {H : Type} : List (DataW H) → Nat
  | [] => 0
  | d :: r => uptoBulk d + uptoBulkAll r
def uptoBulkEntries {H : Type} : List (Lit × DataW H) → Nat
  | [] => 0
  | x :: r => uptoBulkEntry x + uptoBulkEntries r
def uptoBulkEntry {H : Type} : Lit × DataW H → Nat
  | (.string bytes, d) => bytes.length + uptoBulk d + 1
  | (_, d) => uptoBulk d + 1
 end
def uptoSmall : (H : Type) → List (DataW H) → Bool := fun _ ds => decide (uptoBulkAll ds ≤ 1048576)
def OpenSpec.upto (s : _root_.Go.ChangeSpec) : _root_.Go.OpenSpec := { _root_.Go.OpenSpec.ofChange s with cond := some uptoSmall }

/-- 'packhorselaw07.PlateKeeps', WHERE WHAT IT READS IS OF BULK AT MOST 1048576: true; the input reads as it did. -/
def plateKeepsUptoRow : OpenClaim := { program := "ytigbpkocmklbpaa", sum := "6114fd44deaade771262a3c46ef2e6cc343432a45de58974b2df34ce0a85ff34", func := "packhorse/packhorselaw07.PlateKeeps", spec := "plateKeeps", unfollowed := true, recurses := true, apart := false, narrowed := true }
def PlateKeepsUptoSaid : Prop := plateKeepsUptoRow.holds Try.pinned (OpenSpec.upto plateKeepsSpec)

/-- 'packhorselaw07.PlateTears', WHERE WHAT IT READS IS OF BULK AT MOST 1048576: true; the input reads as it did. -/
def plateTearsUptoRow : OpenClaim := { program := "ytigbpkocmklbpaa", sum := "6114fd44deaade771262a3c46ef2e6cc343432a45de58974b2df34ce0a85ff34", func := "packhorse/packhorselaw07.PlateTears", spec := "plateTears", unfollowed := true, recurses := true, apart := false, narrowed := true }
def PlateTearsUptoSaid : Prop := plateTearsUptoRow.holds Try.pinned (OpenSpec.upto plateTearsSpec)

/-- 'packhorselaw07.PlateNames', WHERE WHAT IT READS IS OF BULK AT MOST 1048576: true; the input reads as it did. -/
def plateNamesUptoRow : OpenClaim := { program := "ytigbpkocmklbpaa", sum := "6114fd44deaade771262a3c46ef2e6cc343432a45de58974b2df34ce0a85ff34", func := "packhorse/packhorselaw07.PlateNames", spec := "plateNames", unfollowed := true, recurses := true, apart := false, narrowed := true }
def PlateNamesUptoSaid : Prop := plateNamesUptoRow.holds Try.pinned (OpenSpec.upto plateNamesSpec)

/-- 'packhorselaw07.PlateRuns', WHERE WHAT IT READS IS OF BULK AT MOST 1048576: true; the input reads as it did. -/
def plateRunsUptoRow : OpenClaim := { program := "ytigbpkocmklbpaa", sum := "6114fd44deaade771262a3c46ef2e6cc343432a45de58974b2df34ce0a85ff34", func := "packhorse/packhorselaw07.PlateRuns", spec := "plateRuns", unfollowed := true, recurses := true, apart := false, narrowed := true }
def PlateRunsUptoSaid : Prop := plateRunsUptoRow.holds Try.pinned (OpenSpec.upto plateRunsSpec)

/-- 'packhorselaw07.PlateLimits', WHERE WHAT IT READS IS OF BULK AT MOST 1048576: true; the input reads as it did. -/
def plateLimitsUptoRow : OpenClaim := { program := "ytigbpkocmklbpaa", sum := "6114fd44deaade771262a3c46ef2e6cc343432a45de58974b2df34ce0a85ff34", func := "packhorse/packhorselaw07.PlateLimits", spec := "plateLimits", unfollowed := true, recurses := true, apart := false, narrowed := true }
def PlateLimitsUptoSaid : Prop := plateLimitsUptoRow.holds Try.pinned (OpenSpec.upto plateLimitsSpec)

/-- 'packhorselaw06.PacketFrames', WHERE WHAT IT READS IS OF BULK AT MOST 1048576: true; the input reads as it did. -/
def packetFramesUptoRow : OpenClaim := { program := "ytigbpkocmklbpaa", sum := "6114fd44deaade771262a3c46ef2e6cc343432a45de58974b2df34ce0a85ff34", func := "packhorse/packhorselaw06.PacketFrames", spec := "packetFrames", apart := false, narrowed := true }
def PacketFramesUptoSaid : Prop := packetFramesUptoRow.holds Try.pinned (OpenSpec.upto packetFramesSpec)

/-- 'packhorselaw06.PacketAlone', WHERE WHAT IT READS IS OF BULK AT MOST 1048576: true; the input reads as it did. -/
def packetAloneUptoRow : OpenClaim := { program := "ytigbpkocmklbpaa", sum := "6114fd44deaade771262a3c46ef2e6cc343432a45de58974b2df34ce0a85ff34", func := "packhorse/packhorselaw06.PacketAlone", spec := "packetAlone", apart := false, narrowed := true }
def PacketAloneUptoSaid : Prop := packetAloneUptoRow.holds Try.pinned (OpenSpec.upto packetAloneSpec)

/-- 'packhorselaw06.PacketShort', WHERE WHAT IT READS IS OF BULK AT MOST 1048576: true; the input reads as it did. -/
def packetShortUptoRow : OpenClaim := { program := "ytigbpkocmklbpaa", sum := "6114fd44deaade771262a3c46ef2e6cc343432a45de58974b2df34ce0a85ff34", func := "packhorse/packhorselaw06.PacketShort", spec := "packetShort", apart := false, narrowed := true }
def PacketShortUptoSaid : Prop := packetShortUptoRow.holds Try.pinned (OpenSpec.upto packetShortSpec)

/-- 'packhorselaw06.PacketWrites', WHERE WHAT IT READS IS OF BULK AT MOST 1048576: true; the input reads as it did. -/
def packetWritesUptoRow : OpenClaim := { program := "ytigbpkocmklbpaa", sum := "6114fd44deaade771262a3c46ef2e6cc343432a45de58974b2df34ce0a85ff34", func := "packhorse/packhorselaw06.PacketWrites", spec := "packetWrites", apart := false, narrowed := true }
def PacketWritesUptoSaid : Prop := packetWritesUptoRow.holds Try.pinned (OpenSpec.upto packetWritesSpec)

/-- 'packhorselaw06.PacketNames', WHERE WHAT IT READS IS OF BULK AT MOST 1048576: true; the input reads as it did. -/
def packetNamesUptoRow : OpenClaim := { program := "ytigbpkocmklbpaa", sum := "6114fd44deaade771262a3c46ef2e6cc343432a45de58974b2df34ce0a85ff34", func := "packhorse/packhorselaw06.PacketNames", spec := "packetNames", apart := false, narrowed := true }
def PacketNamesUptoSaid : Prop := packetNamesUptoRow.holds Try.pinned (OpenSpec.upto packetNamesSpec)

/-- 'packhorselaw06.PacketReads', WHERE WHAT IT READS IS OF BULK AT MOST 1048576: true; the input reads as it did. -/
def packetReadsUptoRow : OpenClaim := { program := "ytigbpkocmklbpaa", sum := "6114fd44deaade771262a3c46ef2e6cc343432a45de58974b2df34ce0a85ff34", func := "packhorse/packhorselaw06.PacketReads", spec := "packetReads", apart := false, narrowed := true }
def PacketReadsUptoSaid : Prop := packetReadsUptoRow.holds Try.pinned (OpenSpec.upto packetReadsSpec)

end Rows
end Go.Proofs.Ytigbpkocmklbpaa
