/-
  No cell of these rows narrows 'for every input' (looked for: loops, veiled, ifaces, maps, wideKeys, modest, calm, conditions, laid).
  DERIVED. THE GIVEN ROWS OF THIS SEAT. 5 by the template 'for every input the law returns true; each argument reads behind the call as it read before'; 0 by the template 'total and deterministic' (their statements: YtnifppgodgcoaaaTotals.lean).
  GIVEN WITH THE SEED: the statements are not yours to turn. If you find one false, say at which input.
  Laid BY PROGRAM, IN A SANDBOX (cutbox-rows.mjs): the forced cells as the released guide's own fill.sh prints them over the translation 14d7d46556f3628d… (all of the seat's roots in one cut). By AI agents, Wed Nov 11 2026. No macro, syntax, notation, axiom, sorry.
-/
import Derived.Test.YtnifppgodgcoaaaChecked
import GoSem.Claim
import GoSem.ClaimJoined
import GoSem.ClaimMapViews
import Derived.JoinedTies
import Derived.KernelRfl
namespace Go.Proofs.Ytnifppgodgcoaaa
/- THE CELL 'sum', in the pinned program and in every row, IS THE sha256 OF THE DUMP (.gsa) THAT YtnifppgodgcoaaaProg.lean LOADS. Nothing in Lean hashes anything: it is a label: what it is worth is what the hold of that sum in a sandbox is worth. -/
noncomputable def Try.pinned : Pinned := { name := "ytnifppgodgcoaaa", sum := "14d7d46556f3628d2eec4f4756df17d7fe30bb53e6ffce00f2c4c7728453c758", checked := Try.checked }
namespace Rows
def none {H : Type} : Left H := { results := [], args := [] }

/-- 'pluginhostlaw23.MachineFuel': WHATEVER THE INPUT: true; the input reads as it did. -/
def machineFuelSpec : ChangeSpec := { name := "machineFuel", fn := fun _ => fun
  | [d1, d2, d3, d4] => { results := [.lit (.bool true)], args := [d1, d2, d3, d4] }
  | _ => none }
def machineFuelRow : OpenClaim := { program := "ytnifppgodgcoaaa", sum := "14d7d46556f3628d2eec4f4756df17d7fe30bb53e6ffce00f2c4c7728453c758", func := "pluginhost/pluginhostlaw23.MachineFuel", spec := "machineFuel", recurses := true, apart := false }
def MachineFuelSaid : Prop := machineFuelRow.holds Try.pinned (OpenSpec.ofChange machineFuelSpec)

/-- ITS FALSE NEIGHBOUR: 'it returns false'. Refute it at one input. -/
def machineFuelWrong : ChangeSpec := { name := "machineFuel", fn := fun _ => fun
  | [d1, d2, d3, d4] => { results := [.lit (.bool false)], args := [d1, d2, d3, d4] }
  | _ => none }
def MachineFuelWrongFalsely : Prop := machineFuelRow.holds Try.pinned (OpenSpec.ofChange machineFuelWrong)

/-- 'pluginhostlaw23.MachineSplit': WHATEVER THE INPUT: true; the input reads as it did. -/
def machineSplitSpec : ChangeSpec := { name := "machineSplit", fn := fun _ => fun
  | [d1, d2, d3, d4, d5] => { results := [.lit (.bool true)], args := [d1, d2, d3, d4, d5] }
  | _ => none }
def machineSplitRow : OpenClaim := { program := "ytnifppgodgcoaaa", sum := "14d7d46556f3628d2eec4f4756df17d7fe30bb53e6ffce00f2c4c7728453c758", func := "pluginhost/pluginhostlaw23.MachineSplit", spec := "machineSplit", recurses := true, apart := false }
def MachineSplitSaid : Prop := machineSplitRow.holds Try.pinned (OpenSpec.ofChange machineSplitSpec)

/-- ITS FALSE NEIGHBOUR: 'it returns false'. Refute it at one input. -/
def machineSplitWrong : ChangeSpec := { name := "machineSplit", fn := fun _ => fun
  | [d1, d2, d3, d4, d5] => { results := [.lit (.bool false)], args := [d1, d2, d3, d4, d5] }
  | _ => none }
def MachineSplitWrongFalsely : Prop := machineSplitRow.holds Try.pinned (OpenSpec.ofChange machineSplitWrong)

/-- 'pluginhostlaw23.MachineCalculates': WHATEVER THE INPUT: true; the input reads as it did. -/
def machineCalculatesSpec : ChangeSpec := { name := "machineCalculates", fn := fun _ => fun
  | [d1, d2, d3, d4] => { results := [.lit (.bool true)], args := [d1, d2, d3, d4] }
  | _ => none }
def machineCalculatesRow : OpenClaim := { program := "ytnifppgodgcoaaa", sum := "14d7d46556f3628d2eec4f4756df17d7fe30bb53e6ffce00f2c4c7728453c758", func := "pluginhost/pluginhostlaw23.MachineCalculates", spec := "machineCalculates", recurses := true, apart := false }
def MachineCalculatesSaid : Prop := machineCalculatesRow.holds Try.pinned (OpenSpec.ofChange machineCalculatesSpec)

/-- ITS FALSE NEIGHBOUR: 'it returns false'. Refute it at one input. -/
def machineCalculatesWrong : ChangeSpec := { name := "machineCalculates", fn := fun _ => fun
  | [d1, d2, d3, d4] => { results := [.lit (.bool false)], args := [d1, d2, d3, d4] }
  | _ => none }
def MachineCalculatesWrongFalsely : Prop := machineCalculatesRow.holds Try.pinned (OpenSpec.ofChange machineCalculatesWrong)

/-- 'pluginhostlaw23.MachineDeep': WHATEVER THE INPUT: true; the input reads as it did. -/
def machineDeepSpec : ChangeSpec := { name := "machineDeep", fn := fun _ => fun
  | [d1, d2] => { results := [.lit (.bool true)], args := [d1, d2] }
  | _ => none }
def machineDeepRow : OpenClaim := { program := "ytnifppgodgcoaaa", sum := "14d7d46556f3628d2eec4f4756df17d7fe30bb53e6ffce00f2c4c7728453c758", func := "pluginhost/pluginhostlaw23.MachineDeep", spec := "machineDeep", recurses := true, apart := false }
def MachineDeepSaid : Prop := machineDeepRow.holds Try.pinned (OpenSpec.ofChange machineDeepSpec)

/-- ITS FALSE NEIGHBOUR: 'it returns false'. Refute it at one input. -/
def machineDeepWrong : ChangeSpec := { name := "machineDeep", fn := fun _ => fun
  | [d1, d2] => { results := [.lit (.bool false)], args := [d1, d2] }
  | _ => none }
def MachineDeepWrongFalsely : Prop := machineDeepRow.holds Try.pinned (OpenSpec.ofChange machineDeepWrong)

/-- 'pluginhostlaw23.MachineNone': WHATEVER THE INPUT: true; the input reads as it did. -/
def machineNoneSpec : ChangeSpec := { name := "machineNone", fn := fun _ => fun
  | [d1, d2, d3] => { results := [.lit (.bool true)], args := [d1, d2, d3] }
  | _ => none }
def machineNoneRow : OpenClaim := { program := "ytnifppgodgcoaaa", sum := "14d7d46556f3628d2eec4f4756df17d7fe30bb53e6ffce00f2c4c7728453c758", func := "pluginhost/pluginhostlaw23.MachineNone", spec := "machineNone", recurses := true, apart := false }
def MachineNoneSaid : Prop := machineNoneRow.holds Try.pinned (OpenSpec.ofChange machineNoneSpec)

/-- ITS FALSE NEIGHBOUR: 'it returns false'. Refute it at one input. -/
def machineNoneWrong : ChangeSpec := { name := "machineNone", fn := fun _ => fun
  | [d1, d2, d3] => { results := [.lit (.bool false)], args := [d1, d2, d3] }
  | _ => none }
def MachineNoneWrongFalsely : Prop := machineNoneRow.holds Try.pinned (OpenSpec.ofChange machineNoneWrong)

/- THE SECOND FORM. 'bulk': how many values and letters a reading holds, each counted each time it is reached (what is shared counts as often as it is met; a slice's spare places count too). A statement '..UptoSaid' is the law's where the arguments, and the package variables that the reading takes, are together of bulk at most 1048576: NARROWER than '..Said'. Prove '..Said' where nothing that the law and all that it calls make is longer than what came in: it says more and counts as full. Else prove '..UptoSaid'. A law counts once. -/
mutual
def uptoBulk {H : Type} : DataW H → Nat
  | .lit (.string bytes) => bytes.length + 1
  | .lit _ => 1
  | .nil => 1
  | .ptr d => uptoBulk d + 1
  | .slice elems spare => uptoBulkAll elems + uptoBulkAll spare + 1
  | .agg parts => uptoBulkAll parts + 1
  | .iface _ d => uptoBulk d + 1
  | .map entries => uptoBulkEntries entries + 1
  | .held _ => 1
def uptoBulkAll {H : Type} : List (DataW H) → Nat
  | [] => 0
  | d :: r => uptoBulk d + uptoBulkAll r
def uptoBulkEntries {H : Type} : List (Lit × DataW H) → Nat
  | [] => 0
  | x :: r => uptoBulkEntry x + uptoBulkEntries r
def uptoBulkEntry {H : Type} : Lit × DataW H → Nat
  | (.string bytes, d) => bytes.length + uptoBulk d + 1
  | (_, d) => uptoBulk d + 1
 end
def uptoSmall : (H : Type) → List (DataW H) → Bool := fun _ ds => decide (uptoBulkAll ds ≤ 1048576)
def OpenSpec.upto (s : _root_.Go.ChangeSpec) : _root_.Go.OpenSpec := { _root_.Go.OpenSpec.ofChange s with cond := some uptoSmall }

/-- 'pluginhostlaw23.MachineFuel', WHERE WHAT IT READS IS OF BULK AT MOST 1048576: true; the input reads as it did. -/
def machineFuelUptoRow : OpenClaim := { program := "ytnifppgodgcoaaa", sum := "14d7d46556f3628d2eec4f4756df17d7fe30bb53e6ffce00f2c4c7728453c758", func := "pluginhost/pluginhostlaw23.MachineFuel", spec := "machineFuel", recurses := true, apart := false, narrowed := true }
def MachineFuelUptoSaid : Prop := machineFuelUptoRow.holds Try.pinned (OpenSpec.upto machineFuelSpec)

/-- 'pluginhostlaw23.MachineSplit', WHERE WHAT IT READS IS OF BULK AT MOST 1048576: true; the input reads as it did. -/
def machineSplitUptoRow : OpenClaim := { program := "ytnifppgodgcoaaa", sum := "14d7d46556f3628d2eec4f4756df17d7fe30bb53e6ffce00f2c4c7728453c758", func := "pluginhost/pluginhostlaw23.MachineSplit", spec := "machineSplit", recurses := true, apart := false, narrowed := true }
def MachineSplitUptoSaid : Prop := machineSplitUptoRow.holds Try.pinned (OpenSpec.upto machineSplitSpec)

/-- 'pluginhostlaw23.MachineCalculates', WHERE WHAT IT READS IS OF BULK AT MOST 1048576: true; the input reads as it did. -/
def machineCalculatesUptoRow : OpenClaim := { program := "ytnifppgodgcoaaa", sum := "14d7d46556f3628d2eec4f4756df17d7fe30bb53e6ffce00f2c4c7728453c758", func := "pluginhost/pluginhostlaw23.MachineCalculates", spec := "machineCalculates", recurses := true, apart := false, narrowed := true }
def MachineCalculatesUptoSaid : Prop := machineCalculatesUptoRow.holds Try.pinned (OpenSpec.upto machineCalculatesSpec)

/-- 'pluginhostlaw23.MachineDeep', WHERE WHAT IT READS IS OF BULK AT MOST 1048576: true; the input reads as it did. -/
def machineDeepUptoRow : OpenClaim := { program := "ytnifppgodgcoaaa", sum := "14d7d46556f3628d2eec4f4756df17d7fe30bb53e6ffce00f2c4c7728453c758", func := "pluginhost/pluginhostlaw23.MachineDeep", spec := "machineDeep", recurses := true, apart := false, narrowed := true }
def MachineDeepUptoSaid : Prop := machineDeepUptoRow.holds Try.pinned (OpenSpec.upto machineDeepSpec)

/-- 'pluginhostlaw23.MachineNone', WHERE WHAT IT READS IS OF BULK AT MOST 1048576: true; the input reads as it did. -/
def machineNoneUptoRow : OpenClaim := { program := "ytnifppgodgcoaaa", sum := "14d7d46556f3628d2eec4f4756df17d7fe30bb53e6ffce00f2c4c7728453c758", func := "pluginhost/pluginhostlaw23.MachineNone", spec := "machineNone", recurses := true, apart := false, narrowed := true }
def MachineNoneUptoSaid : Prop := machineNoneUptoRow.holds Try.pinned (OpenSpec.upto machineNoneSpec)

end Rows
end Go.Proofs.Ytnifppgodgcoaaa
