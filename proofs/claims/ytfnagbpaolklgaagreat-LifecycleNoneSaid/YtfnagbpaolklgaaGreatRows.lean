/-
  No cell of these rows narrows 'for every input' (looked for: loops, veiled, ifaces, maps, wideKeys, modest, calm, conditions, laid).
  DERIVED. THE GIVEN ROWS OF THIS SEAT. 3 by the template 'for every input the law returns true; each argument reads behind the call as it read before'; 0 by the template 'total and deterministic' (their statements: YtfnagbpaolklgaaGreatTotals.lean).
  GIVEN WITH THE SEED: the statements are not yours to turn. If you find one false, say at which input.
  Laid BY PROGRAM, IN A SANDBOX (cutbox-rows.mjs): the forced cells as the released guide's own fill.sh prints them over the translation 924c5bf313143dca… (all of the seat's roots in one cut). By AI agents, Wed Nov 11 2026. No macro, syntax, notation, axiom, sorry.
-/
import Derived.Test.YtfnagbpaolklgaaGreatChecked
import GoSem.Claim
import GoSem.ClaimJoined
import GoSem.ClaimMapViews
import Derived.JoinedTies
import Derived.KernelRfl
namespace Go.Proofs.YtfnagbpaolklgaaGreat
/- THE CELL 'sum', in the pinned program and in every row, IS THE sha256 OF THE DUMP (.gsa) THAT YtfnagbpaolklgaaGreatProg.lean LOADS. Nothing in Lean hashes anything: it is a label: what it is worth is what the hold of that sum in a sandbox is worth. -/
noncomputable def Tryz.pinned : Pinned := { name := "ytfnagbpaolklgaagreat", sum := "924c5bf313143dca95cc1a225c5cadc588ab9ded68bdc4a3fde06ca2f35d6d6c", checked := Tryz.checked }
namespace Rows
def none {H : Type} : Left H := { results := [], args := [] }

/-- 'pluginhostlaw25.LifecycleNone': WHATEVER THE INPUT: true; the input reads as it did. -/
def lifecycleNoneSpec : ChangeSpec := { name := "lifecycleNone", fn := fun _ => fun
  | [d1, d2, d3] => { results := [.lit (.bool true)], args := [d1, d2, d3] }
  | _ => none }
def lifecycleNoneRow : OpenClaim := { program := "ytfnagbpaolklgaagreat", sum := "924c5bf313143dca95cc1a225c5cadc588ab9ded68bdc4a3fde06ca2f35d6d6c", func := "pluginhost/pluginhostlaw25.LifecycleNone", spec := "lifecycleNone", unfollowed := true, recurses := true, plainKeys := false, apart := false }
def LifecycleNoneSaid : Prop := lifecycleNoneRow.holds Tryz.pinned (OpenSpec.ofChange lifecycleNoneSpec)

/-- ITS FALSE NEIGHBOUR: 'it returns false'. Refute it at one input. -/
def lifecycleNoneWrong : ChangeSpec := { name := "lifecycleNone", fn := fun _ => fun
  | [d1, d2, d3] => { results := [.lit (.bool false)], args := [d1, d2, d3] }
  | _ => none }
def LifecycleNoneWrongFalsely : Prop := lifecycleNoneRow.holds Tryz.pinned (OpenSpec.ofChange lifecycleNoneWrong)

/-- 'pluginhostlaw27.HostNone': WHATEVER THE INPUT: true; the input reads as it did. -/
def hostNoneSpec : ChangeSpec := { name := "hostNone", fn := fun _ => fun
  | [d1, d2, d3, d4, d5] => { results := [.lit (.bool true)], args := [d1, d2, d3, d4, d5] }
  | _ => none }
def hostNoneRow : OpenClaim := { program := "ytfnagbpaolklgaagreat", sum := "924c5bf313143dca95cc1a225c5cadc588ab9ded68bdc4a3fde06ca2f35d6d6c", func := "pluginhost/pluginhostlaw27.HostNone", spec := "hostNone", unfollowed := true, recurses := true, plainKeys := false, apart := false }
def HostNoneSaid : Prop := hostNoneRow.holds Tryz.pinned (OpenSpec.ofChange hostNoneSpec)

/-- ITS FALSE NEIGHBOUR: 'it returns false'. Refute it at one input. -/
def hostNoneWrong : ChangeSpec := { name := "hostNone", fn := fun _ => fun
  | [d1, d2, d3, d4, d5] => { results := [.lit (.bool false)], args := [d1, d2, d3, d4, d5] }
  | _ => none }
def HostNoneWrongFalsely : Prop := hostNoneRow.holds Tryz.pinned (OpenSpec.ofChange hostNoneWrong)

/-- 'pluginhostlaw27.HostConfig': WHATEVER THE INPUT: true; the input reads as it did. -/
def hostConfigSpec : ChangeSpec := { name := "hostConfig", fn := fun _ => fun
  | [d] => { results := [.lit (.bool true)], args := [d] }
  | _ => none }
def hostConfigRow : OpenClaim := { program := "ytfnagbpaolklgaagreat", sum := "924c5bf313143dca95cc1a225c5cadc588ab9ded68bdc4a3fde06ca2f35d6d6c", func := "pluginhost/pluginhostlaw27.HostConfig", spec := "hostConfig", unfollowed := true, recurses := true, plainKeys := false, apart := false }
def HostConfigSaid : Prop := hostConfigRow.holds Tryz.pinned (OpenSpec.ofChange hostConfigSpec)

/-- ITS FALSE NEIGHBOUR: 'it returns false'. Refute it at one input. -/
def hostConfigWrong : ChangeSpec := { name := "hostConfig", fn := fun _ => fun
  | [d] => { results := [.lit (.bool false)], args := [d] }
  | _ => none }
def HostConfigWrongFalsely : Prop := hostConfigRow.holds Tryz.pinned (OpenSpec.ofChange hostConfigWrong)

/- THE SECOND FORM. 'bulk': how many values and letters a reading holds, each counted each time it is reached (what is shared counts as often as it is met; a slice's spare places count too). A statement '..UptoSaid' is the law's where the arguments, and the package variables that the reading takes, are together of bulk at most 1048576: NARROWER than '..Said'. Prove '..Said' where nothing that the law and all that it calls make is longer than what came in: it says more and counts as full. Else prove '..UptoSaid'. A law counts once. -/
mutual
def uptoBulk {H : Type} : DataW H → Nat
  | .lit (.string bytes) => bytes.length + 1
  | .lit _ => 1
  | .nil => 1
  | .ptr d => uptoBulk d + 1
  | .slice elems spare => uptoBulkAll elems + uptoBulkAll spare + 1
  | .agg parts => uptoBulkAll parts + 1
  | .iface _ d => uptoBulk d + 1
  | .map entries => uptoBulkEntries entries + 1
  | .held _ => 1
def uptoBulkAll {H : Type} : List (DataW H) → Nat
  | [] => 0
  | d :: r => uptoBulk d + uptoBulkAll r
def uptoBulkEntries {H : Type} : List (Lit × DataW H) → Nat
  | [] => 0
  | x :: r => uptoBulkEntry x + uptoBulkEntries r
def uptoBulkEntry {H : Type} : Lit × DataW H → Nat
  | (.string bytes, d) => bytes.length + uptoBulk d + 1
  | (_, d) => uptoBulk d + 1
 end
def uptoSmall : (H : Type) → List (DataW H) → Bool := fun _ ds => decide (uptoBulkAll ds ≤ 1048576)
def OpenSpec.upto (s : _root_.Go.ChangeSpec) : _root_.Go.OpenSpec := { _root_.Go.OpenSpec.ofChange s with cond := some uptoSmall }

/-- 'pluginhostlaw25.LifecycleNone', WHERE WHAT IT READS IS OF BULK AT MOST 1048576: true; the input reads as it did. -/
def lifecycleNoneUptoRow : OpenClaim := { program := "ytfnagbpaolklgaagreat", sum := "924c5bf313143dca95cc1a225c5cadc588ab9ded68bdc4a3fde06ca2f35d6d6c", func := "pluginhost/pluginhostlaw25.LifecycleNone", spec := "lifecycleNone", unfollowed := true, recurses := true, plainKeys := false, apart := false, narrowed := true }
def LifecycleNoneUptoSaid : Prop := lifecycleNoneUptoRow.holds Tryz.pinned (OpenSpec.upto lifecycleNoneSpec)

/-- 'pluginhostlaw27.HostNone', WHERE WHAT IT READS IS OF BULK AT MOST 1048576: true; the input reads as it did. -/
def hostNoneUptoRow : OpenClaim := { program := "ytfnagbpaolklgaagreat", sum := "924c5bf313143dca95cc1a225c5cadc588ab9ded68bdc4a3fde06ca2f35d6d6c", func := "pluginhost/pluginhostlaw27.HostNone", spec := "hostNone", unfollowed := true, recurses := true, plainKeys := false, apart := false, narrowed := true }
def HostNoneUptoSaid : Prop := hostNoneUptoRow.holds Tryz.pinned (OpenSpec.upto hostNoneSpec)

/-- 'pluginhostlaw27.HostConfig', WHERE WHAT IT READS IS OF BULK AT MOST 1048576: true; the input reads as it did. -/
def hostConfigUptoRow : OpenClaim := { program := "ytfnagbpaolklgaagreat", sum := "924c5bf313143dca95cc1a225c5cadc588ab9ded68bdc4a3fde06ca2f35d6d6c", func := "pluginhost/pluginhostlaw27.HostConfig", spec := "hostConfig", unfollowed := true, recurses := true, plainKeys := false, apart := false, narrowed := true }
def HostConfigUptoSaid : Prop := hostConfigUptoRow.holds Tryz.pinned (OpenSpec.upto hostConfigSpec)

end Rows
end Go.Proofs.YtfnagbpaolklgaaGreat
