/-
  No cell of these rows narrows 'for every input' (looked for: loops, veiled, ifaces, maps, wideKeys, modest, calm, conditions, laid).
  DERIVED. THE GIVEN ROWS OF THIS SEAT. 5 by the template 'for every input the law returns true; each argument reads behind the call as it read before'; 0 by the template 'total and deterministic' (their statements: YtfdcmbaoekjkgaaTotals.lean).
  GIVEN WITH THE SEED: the statements are not yours to turn. If you find one false, say at which input.
  Laid BY PROGRAM, IN A SANDBOX (cutbox-rows.mjs): the forced cells as the released guide's own fill.sh prints them over the translation a952dfbb1c3435c1… (all of the seat's roots in one cut). By AI agents, Wed Nov 11 2026. No macro, syntax, notation, axiom, sorry.
-/
import Derived.Test.YtfdcmbaoekjkgaaChecked
import GoSem.Claim
import GoSem.ClaimJoined
import GoSem.ClaimMapViews
import Derived.JoinedTies
import Derived.KernelRfl
namespace Go.Proofs.Ytfdcmbaoekjkgaa
/- THE CELL 'sum', in the pinned program and in every row, IS THE sha256 OF THE DUMP (.gsa) THAT YtfdcmbaoekjkgaaProg.lean LOADS. Nothing in Lean hashes anything: it is a label: what it is worth is what the hold of that sum in a sandbox is worth. -/
noncomputable def Try.pinned : Pinned := { name := "ytfdcmbaoekjkgaa", sum := "a952dfbb1c3435c137279549e57dd8310787fe72925969adf27ff912e1fee282", checked := Try.checked }
namespace Rows
def none {H : Type} : Left H := { results := [], args := [] }

/-- 'gatehouselaw08.WaitOrder': WHATEVER THE INPUT: true; the input reads as it did. -/
def waitOrderSpec : ChangeSpec := { name := "waitOrder", fn := fun _ => fun
  | [d1, d2, d3] => { results := [.lit (.bool true)], args := [d1, d2, d3] }
  | _ => none }
def waitOrderRow : OpenClaim := { program := "ytfdcmbaoekjkgaa", sum := "a952dfbb1c3435c137279549e57dd8310787fe72925969adf27ff912e1fee282", func := "gatehouse/gatehouselaw08.WaitOrder", spec := "waitOrder", unfollowed := true, recurses := true, apart := false }
def WaitOrderSaid : Prop := waitOrderRow.holds Try.pinned (OpenSpec.ofChange waitOrderSpec)

/-- ITS FALSE NEIGHBOUR: 'it returns false'. Refute it at one input. -/
def waitOrderWrong : ChangeSpec := { name := "waitOrder", fn := fun _ => fun
  | [d1, d2, d3] => { results := [.lit (.bool false)], args := [d1, d2, d3] }
  | _ => none }
def WaitOrderWrongFalsely : Prop := waitOrderRow.holds Try.pinned (OpenSpec.ofChange waitOrderWrong)

/-- 'gatehouselaw08.WaitAlerts': WHATEVER THE INPUT: true; the input reads as it did. -/
def waitAlertsSpec : ChangeSpec := { name := "waitAlerts", fn := fun _ => fun
  | [d1, d2] => { results := [.lit (.bool true)], args := [d1, d2] }
  | _ => none }
def waitAlertsRow : OpenClaim := { program := "ytfdcmbaoekjkgaa", sum := "a952dfbb1c3435c137279549e57dd8310787fe72925969adf27ff912e1fee282", func := "gatehouse/gatehouselaw08.WaitAlerts", spec := "waitAlerts", unfollowed := true, recurses := true, apart := false }
def WaitAlertsSaid : Prop := waitAlertsRow.holds Try.pinned (OpenSpec.ofChange waitAlertsSpec)

/-- ITS FALSE NEIGHBOUR: 'it returns false'. Refute it at one input. -/
def waitAlertsWrong : ChangeSpec := { name := "waitAlerts", fn := fun _ => fun
  | [d1, d2] => { results := [.lit (.bool false)], args := [d1, d2] }
  | _ => none }
def WaitAlertsWrongFalsely : Prop := waitAlertsRow.holds Try.pinned (OpenSpec.ofChange waitAlertsWrong)

/-- 'gatehouselaw08.WaitAnswered': WHATEVER THE INPUT: true; the input reads as it did. -/
def waitAnsweredSpec : ChangeSpec := { name := "waitAnswered", fn := fun _ => fun
  | [d] => { results := [.lit (.bool true)], args := [d] }
  | _ => none }
def waitAnsweredRow : OpenClaim := { program := "ytfdcmbaoekjkgaa", sum := "a952dfbb1c3435c137279549e57dd8310787fe72925969adf27ff912e1fee282", func := "gatehouse/gatehouselaw08.WaitAnswered", spec := "waitAnswered", unfollowed := true, recurses := true, apart := false }
def WaitAnsweredSaid : Prop := waitAnsweredRow.holds Try.pinned (OpenSpec.ofChange waitAnsweredSpec)

/-- ITS FALSE NEIGHBOUR: 'it returns false'. Refute it at one input. -/
def waitAnsweredWrong : ChangeSpec := { name := "waitAnswered", fn := fun _ => fun
  | [d] => { results := [.lit (.bool false)], args := [d] }
  | _ => none }
def WaitAnsweredWrongFalsely : Prop := waitAnsweredRow.holds Try.pinned (OpenSpec.ofChange waitAnsweredWrong)

/-- 'gatehouselaw08.WaitPlay': WHATEVER THE INPUT: true; the input reads as it did. -/
def waitPlaySpec : ChangeSpec := { name := "waitPlay", fn := fun _ => fun
  | [d] => { results := [.lit (.bool true)], args := [d] }
  | _ => none }
def waitPlayRow : OpenClaim := { program := "ytfdcmbaoekjkgaa", sum := "a952dfbb1c3435c137279549e57dd8310787fe72925969adf27ff912e1fee282", func := "gatehouse/gatehouselaw08.WaitPlay", spec := "waitPlay", inPlace := ["maps.clone"], unfollowed := true, recurses := true, apart := false }
def WaitPlaySaid : Prop := waitPlayRow.holds Try.pinned (OpenSpec.ofChange waitPlaySpec)

/-- ITS FALSE NEIGHBOUR: 'it returns false'. Refute it at one input. -/
def waitPlayWrong : ChangeSpec := { name := "waitPlay", fn := fun _ => fun
  | [d] => { results := [.lit (.bool false)], args := [d] }
  | _ => none }
def WaitPlayWrongFalsely : Prop := waitPlayRow.holds Try.pinned (OpenSpec.ofChange waitPlayWrong)

/-- 'gatehouselaw08.WaitNone': WHATEVER THE INPUT: true; the input reads as it did. -/
def waitNoneSpec : ChangeSpec := { name := "waitNone", fn := fun _ => fun
  | [d1, d2, d3] => { results := [.lit (.bool true)], args := [d1, d2, d3] }
  | _ => none }
def waitNoneRow : OpenClaim := { program := "ytfdcmbaoekjkgaa", sum := "a952dfbb1c3435c137279549e57dd8310787fe72925969adf27ff912e1fee282", func := "gatehouse/gatehouselaw08.WaitNone", spec := "waitNone", inPlace := ["maps.clone"], unfollowed := true, recurses := true, apart := false }
def WaitNoneSaid : Prop := waitNoneRow.holds Try.pinned (OpenSpec.ofChange waitNoneSpec)

/-- ITS FALSE NEIGHBOUR: 'it returns false'. Refute it at one input. -/
def waitNoneWrong : ChangeSpec := { name := "waitNone", fn := fun _ => fun
  | [d1, d2, d3] => { results := [.lit (.bool false)], args := [d1, d2, d3] }
  | _ => none }
def WaitNoneWrongFalsely : Prop := waitNoneRow.holds Try.pinned (OpenSpec.ofChange waitNoneWrong)

/- THE SECOND FORM. 'bulk': how many values and letters a reading holds, each counted each time it is reached (what is shared counts as often as it is met; a slice's spare places count too). A statement '..UptoSaid' is the law's where the arguments, and the package variables that the reading takes, are together of bulk at most 1048576: NARROWER than '..Said'. Prove '..Said' where nothing that the law and all that it calls make is longer than what came in: it says more and counts as full. Else prove '..UptoSaid'. A law counts once. -/
mutual
def uptoBulk {H : Type} : DataW H → Nat
  | .lit (.string bytes) => bytes.length + 1
  | .lit _ => 1
  | .nil => 1
  | .ptr d => uptoBulk d + 1
  | .slice elems spare => uptoBulkAll elems + uptoBulkAll spare + 1
  | .agg parts => uptoBulkAll parts + 1
  | .iface _ d => uptoBulk d + 1
  | .map entries => uptoBulkEntries entries + 1
  | .held _ => 1
def uptoBulkAll {H : Type} : List (DataW H) → Nat
  | [] => 0
  | d :: r => uptoBulk d + uptoBulkAll r
def uptoBulkEntries {H : Type} : List (Lit × DataW H) → Nat
  | [] => 0
  | x :: r => uptoBulkEntry x + uptoBulkEntries r
def uptoBulkEntry {H : Type} : Lit × DataW H → Nat
  | (.string bytes, d) => bytes.length + uptoBulk d + 1
  | (_, d) => uptoBulk d + 1
 end
def uptoSmall : (H : Type) → List (DataW H) → Bool := fun _ ds => decide (uptoBulkAll ds ≤ 1048576)
def OpenSpec.upto (s : _root_.Go.ChangeSpec) : _root_.Go.OpenSpec := { _root_.Go.OpenSpec.ofChange s with cond := some uptoSmall }

/-- 'gatehouselaw08.WaitOrder', WHERE WHAT IT READS IS OF BULK AT MOST 1048576: true; the input reads as it did. -/
def waitOrderUptoRow : OpenClaim := { program := "ytfdcmbaoekjkgaa", sum := "a952dfbb1c3435c137279549e57dd8310787fe72925969adf27ff912e1fee282", func := "gatehouse/gatehouselaw08.WaitOrder", spec := "waitOrder", unfollowed := true, recurses := true, apart := false, narrowed := true }
def WaitOrderUptoSaid : Prop := waitOrderUptoRow.holds Try.pinned (OpenSpec.upto waitOrderSpec)

/-- 'gatehouselaw08.WaitAlerts', WHERE WHAT IT READS IS OF BULK AT MOST 1048576: true; the input reads as it did. -/
def waitAlertsUptoRow : OpenClaim := { program := "ytfdcmbaoekjkgaa", sum := "a952dfbb1c3435c137279549e57dd8310787fe72925969adf27ff912e1fee282", func := "gatehouse/gatehouselaw08.WaitAlerts", spec := "waitAlerts", unfollowed := true, recurses := true, apart := false, narrowed := true }
def WaitAlertsUptoSaid : Prop := waitAlertsUptoRow.holds Try.pinned (OpenSpec.upto waitAlertsSpec)

/-- 'gatehouselaw08.WaitAnswered', WHERE WHAT IT READS IS OF BULK AT MOST 1048576: true; the input reads as it did. -/
def waitAnsweredUptoRow : OpenClaim := { program := "ytfdcmbaoekjkgaa", sum := "a952dfbb1c3435c137279549e57dd8310787fe72925969adf27ff912e1fee282", func := "gatehouse/gatehouselaw08.WaitAnswered", spec := "waitAnswered", unfollowed := true, recurses := true, apart := false, narrowed := true }
def WaitAnsweredUptoSaid : Prop := waitAnsweredUptoRow.holds Try.pinned (OpenSpec.upto waitAnsweredSpec)

/-- 'gatehouselaw08.WaitPlay', WHERE WHAT IT READS IS OF BULK AT MOST 1048576: true; the input reads as it did. -/
def waitPlayUptoRow : OpenClaim := { program := "ytfdcmbaoekjkgaa", sum := "a952dfbb1c3435c137279549e57dd8310787fe72925969adf27ff912e1fee282", func := "gatehouse/gatehouselaw08.WaitPlay", spec := "waitPlay", inPlace := ["maps.clone"], unfollowed := true, recurses := true, apart := false, narrowed := true }
def WaitPlayUptoSaid : Prop := waitPlayUptoRow.holds Try.pinned (OpenSpec.upto waitPlaySpec)

/-- 'gatehouselaw08.WaitNone', WHERE WHAT IT READS IS OF BULK AT MOST 1048576: true; the input reads as it did. -/
def waitNoneUptoRow : OpenClaim := { program := "ytfdcmbaoekjkgaa", sum := "a952dfbb1c3435c137279549e57dd8310787fe72925969adf27ff912e1fee282", func := "gatehouse/gatehouselaw08.WaitNone", spec := "waitNone", inPlace := ["maps.clone"], unfollowed := true, recurses := true, apart := false, narrowed := true }
def WaitNoneUptoSaid : Prop := waitNoneUptoRow.holds Try.pinned (OpenSpec.upto waitNoneSpec)

end Rows
end Go.Proofs.Ytfdcmbaoekjkgaa
