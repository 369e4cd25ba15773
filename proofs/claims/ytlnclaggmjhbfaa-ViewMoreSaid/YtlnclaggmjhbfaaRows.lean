/-
  No cell of these rows narrows 'for every input' (looked for: loops, veiled, ifaces, maps, wideKeys, modest, calm, conditions, laid).
  DERIVED. THE GIVEN ROWS OF THIS SEAT. 5 by the template 'for every input the law returns true; each argument reads behind the call as it read before'; 0 by the template 'total and deterministic' (their statements: YtlnclaggmjhbfaaTotals.lean).
  GIVEN WITH THE SEED: the statements are not yours to turn. If you find one false, say at which input.
  Laid BY PROGRAM, IN A SANDBOX (cutbox-rows.mjs): the forced cells as the released guide's own fill.sh prints them over the translation 26d2d2137fde385e… (all of the seat's roots in one cut). By AI agents, Wed Nov 11 2026. No macro, syntax, notation, axiom, sorry.
-/
import Derived.Test.YtlnclaggmjhbfaaChecked
import GoSem.Claim
import GoSem.ClaimJoined
import GoSem.ClaimMapViews
import Derived.JoinedTies
import Derived.KernelRfl
namespace Go.Proofs.Ytlnclaggmjhbfaa
/- THE CELL 'sum', in the pinned program and in every row, IS THE sha256 OF THE DUMP (.gsa) THAT YtlnclaggmjhbfaaProg.lean LOADS. Nothing in Lean hashes anything: it is a label: what it is worth is what the hold of that sum in a sandbox is worth. -/
noncomputable def Try.pinned : Pinned := { name := "ytlnclaggmjhbfaa", sum := "26d2d2137fde385e546fc2c75716e09a10f5e5452b9608431b9f18f21f8b9eb5", checked := Try.checked }
namespace Rows
def none {H : Type} : Left H := { results := [], args := [] }

/-- 'gatehouselaw11.ViewParts': WHATEVER THE INPUT: true; the input reads as it did. -/
def viewPartsSpec : ChangeSpec := { name := "viewParts", fn := fun _ => fun
  | [d1, d2, d3] => { results := [.lit (.bool true)], args := [d1, d2, d3] }
  | _ => none }
def viewPartsRow : OpenClaim := { program := "ytlnclaggmjhbfaa", sum := "26d2d2137fde385e546fc2c75716e09a10f5e5452b9608431b9f18f21f8b9eb5", func := "gatehouse/gatehouselaw11.ViewParts", spec := "viewParts", unfollowed := true, recurses := true, apart := false }
def ViewPartsSaid : Prop := viewPartsRow.holds Try.pinned (OpenSpec.ofChange viewPartsSpec)

/-- ITS FALSE NEIGHBOUR: 'it returns false'. Refute it at one input. -/
def viewPartsWrong : ChangeSpec := { name := "viewParts", fn := fun _ => fun
  | [d1, d2, d3] => { results := [.lit (.bool false)], args := [d1, d2, d3] }
  | _ => none }
def ViewPartsWrongFalsely : Prop := viewPartsRow.holds Try.pinned (OpenSpec.ofChange viewPartsWrong)

/-- 'gatehouselaw11.ViewLows': WHATEVER THE INPUT: true; the input reads as it did. -/
def viewLowsSpec : ChangeSpec := { name := "viewLows", fn := fun _ => fun
  | [d1, d2] => { results := [.lit (.bool true)], args := [d1, d2] }
  | _ => none }
def viewLowsRow : OpenClaim := { program := "ytlnclaggmjhbfaa", sum := "26d2d2137fde385e546fc2c75716e09a10f5e5452b9608431b9f18f21f8b9eb5", func := "gatehouse/gatehouselaw11.ViewLows", spec := "viewLows", unfollowed := true, recurses := true, apart := false }
def ViewLowsSaid : Prop := viewLowsRow.holds Try.pinned (OpenSpec.ofChange viewLowsSpec)

/-- ITS FALSE NEIGHBOUR: 'it returns false'. Refute it at one input. -/
def viewLowsWrong : ChangeSpec := { name := "viewLows", fn := fun _ => fun
  | [d1, d2] => { results := [.lit (.bool false)], args := [d1, d2] }
  | _ => none }
def ViewLowsWrongFalsely : Prop := viewLowsRow.holds Try.pinned (OpenSpec.ofChange viewLowsWrong)

/-- 'gatehouselaw11.ViewSees': WHATEVER THE INPUT: true; the input reads as it did. -/
def viewSeesSpec : ChangeSpec := { name := "viewSees", fn := fun _ => fun
  | [d1, d2, d3] => { results := [.lit (.bool true)], args := [d1, d2, d3] }
  | _ => none }
def viewSeesRow : OpenClaim := { program := "ytlnclaggmjhbfaa", sum := "26d2d2137fde385e546fc2c75716e09a10f5e5452b9608431b9f18f21f8b9eb5", func := "gatehouse/gatehouselaw11.ViewSees", spec := "viewSees", unfollowed := true, recurses := true, apart := false }
def ViewSeesSaid : Prop := viewSeesRow.holds Try.pinned (OpenSpec.ofChange viewSeesSpec)

/-- ITS FALSE NEIGHBOUR: 'it returns false'. Refute it at one input. -/
def viewSeesWrong : ChangeSpec := { name := "viewSees", fn := fun _ => fun
  | [d1, d2, d3] => { results := [.lit (.bool false)], args := [d1, d2, d3] }
  | _ => none }
def ViewSeesWrongFalsely : Prop := viewSeesRow.holds Try.pinned (OpenSpec.ofChange viewSeesWrong)

/-- 'gatehouselaw11.ViewMore': WHATEVER THE INPUT: true; the input reads as it did. -/
def viewMoreSpec : ChangeSpec := { name := "viewMore", fn := fun _ => fun
  | [d1, d2, d3] => { results := [.lit (.bool true)], args := [d1, d2, d3] }
  | _ => none }
def viewMoreRow : OpenClaim := { program := "ytlnclaggmjhbfaa", sum := "26d2d2137fde385e546fc2c75716e09a10f5e5452b9608431b9f18f21f8b9eb5", func := "gatehouse/gatehouselaw11.ViewMore", spec := "viewMore", unfollowed := true, recurses := true, apart := false }
def ViewMoreSaid : Prop := viewMoreRow.holds Try.pinned (OpenSpec.ofChange viewMoreSpec)

/-- ITS FALSE NEIGHBOUR: 'it returns false'. Refute it at one input. -/
def viewMoreWrong : ChangeSpec := { name := "viewMore", fn := fun _ => fun
  | [d1, d2, d3] => { results := [.lit (.bool false)], args := [d1, d2, d3] }
  | _ => none }
def ViewMoreWrongFalsely : Prop := viewMoreRow.holds Try.pinned (OpenSpec.ofChange viewMoreWrong)

/-- 'gatehouselaw11.ViewSame': WHATEVER THE INPUT: true; the input reads as it did. -/
def viewSameSpec : ChangeSpec := { name := "viewSame", fn := fun _ => fun
  | [d1, d2] => { results := [.lit (.bool true)], args := [d1, d2] }
  | _ => none }
def viewSameRow : OpenClaim := { program := "ytlnclaggmjhbfaa", sum := "26d2d2137fde385e546fc2c75716e09a10f5e5452b9608431b9f18f21f8b9eb5", func := "gatehouse/gatehouselaw11.ViewSame", spec := "viewSame", unfollowed := true, recurses := true, apart := false }
def ViewSameSaid : Prop := viewSameRow.holds Try.pinned (OpenSpec.ofChange viewSameSpec)

/-- ITS FALSE NEIGHBOUR: 'it returns false'. Refute it at one input. -/
def viewSameWrong : ChangeSpec := { name := "viewSame", fn := fun _ => fun
  | [d1, d2] => { results := [.lit (.bool false)], args := [d1, d2] }
  | _ => none }
def ViewSameWrongFalsely : Prop := viewSameRow.holds Try.pinned (OpenSpec.ofChange viewSameWrong)

/- THE SECOND FORM. 'bulk': how many values and letters a reading holds, each counted each time it is reached (what is shared counts as often as it is met; a slice's spare places count too). A statement '..UptoSaid' is the law's where the arguments, and the package variables that the reading takes, are together of bulk at most 1048576: NARROWER than '..Said'. Prove '..Said' where nothing that the law and all that it calls make is longer than what came in: it says more and counts as full. Else prove '..UptoSaid'. A law counts once. -/
mutual
def uptoBulk {H : Type} : DataW H → Nat
  | .lit (.string bytes) => bytes.length + 1
  | .lit _ => 1
  | .nil => 1
  | .ptr d => uptoBulk d + 1
  | .slice elems spare => uptoBulkAll elems + uptoBulkAll spare + 1
  | .agg parts => uptoBulkAll parts + 1
  | .iface _ d => uptoBulk d + 1
  | .map entries => uptoBulkEntries entries + 1
  | .held _ => 1
def uptoBulkAll {H : Type} : List (DataW H) → Nat
  | [] => 0
  | d :: r => uptoBulk d + uptoBulkAll r
def uptoBulkEntries {H : Type} : List (Lit × DataW H) → Nat
  | [] => 0
  | x :: r => uptoBulkEntry x + uptoBulkEntries r
def uptoBulkEntry {H : Type} : Lit × DataW H → Nat
  | (.string bytes, d) => bytes.length + uptoBulk d + 1
  | (_, d) => uptoBulk d + 1
 end
def uptoSmall : (H : Type) → List (DataW H) → Bool := fun _ ds => decide (uptoBulkAll ds ≤ 1048576)
def OpenSpec.upto (s : _root_.Go.ChangeSpec) : _root_.Go.OpenSpec := { _root_.Go.OpenSpec.ofChange s with cond := some uptoSmall }

/-- 'gatehouselaw11.ViewParts', WHERE WHAT IT READS IS OF BULK AT MOST 1048576: true; the input reads as it did. -/
def viewPartsUptoRow : OpenClaim := { program := "ytlnclaggmjhbfaa", sum := "26d2d2137fde385e546fc2c75716e09a10f5e5452b9608431b9f18f21f8b9eb5", func := "gatehouse/gatehouselaw11.ViewParts", spec := "viewParts", unfollowed := true, recurses := true, apart := false, narrowed := true }
def ViewPartsUptoSaid : Prop := viewPartsUptoRow.holds Try.pinned (OpenSpec.upto viewPartsSpec)

/-- 'gatehouselaw11.ViewLows', WHERE WHAT IT READS IS OF BULK AT MOST 1048576: true; the input reads as it did. -/
def viewLowsUptoRow : OpenClaim := { program := "ytlnclaggmjhbfaa", sum := "26d2d2137fde385e546fc2c75716e09a10f5e5452b9608431b9f18f21f8b9eb5", func := "gatehouse/gatehouselaw11.ViewLows", spec := "viewLows", unfollowed := true, recurses := true, apart := false, narrowed := true }
def ViewLowsUptoSaid : Prop := viewLowsUptoRow.holds Try.pinned (OpenSpec.upto viewLowsSpec)

/-- 'gatehouselaw11.ViewSees', WHERE WHAT IT READS IS OF BULK AT MOST 1048576: true; the input reads as it did. -/
def viewSeesUptoRow : OpenClaim := { program := "ytlnclaggmjhbfaa", sum := "26d2d2137fde385e546fc2c75716e09a10f5e5452b9608431b9f18f21f8b9eb5", func := "gatehouse/gatehouselaw11.ViewSees", spec := "viewSees", unfollowed := true, recurses := true, apart := false, narrowed := true }
def ViewSeesUptoSaid : Prop := viewSeesUptoRow.holds Try.pinned (OpenSpec.upto viewSeesSpec)

/-- 'gatehouselaw11.ViewMore', WHERE WHAT IT READS IS OF BULK AT MOST 1048576: true; the input reads as it did. -/
def viewMoreUptoRow : OpenClaim := { program := "ytlnclaggmjhbfaa", sum := "26d2d2137fde385e546fc2c75716e09a10f5e5452b9608431b9f18f21f8b9eb5", func := "gatehouse/gatehouselaw11.ViewMore", spec := "viewMore", unfollowed := true, recurses := true, apart := false, narrowed := true }
def ViewMoreUptoSaid : Prop := viewMoreUptoRow.holds Try.pinned (OpenSpec.upto viewMoreSpec)

/-- 'gatehouselaw11.ViewSame', WHERE WHAT IT READS IS OF BULK AT MOST 1048576: true; the input reads as it did. -/
def viewSameUptoRow : OpenClaim := { program := "ytlnclaggmjhbfaa", sum := "26d2d2137fde385e546fc2c75716e09a10f5e5452b9608431b9f18f21f8b9eb5", func := "gatehouse/gatehouselaw11.ViewSame", spec := "viewSame", unfollowed := true, recurses := true, apart := false, narrowed := true }
def ViewSameUptoSaid : Prop := viewSameUptoRow.holds Try.pinned (OpenSpec.upto viewSameSpec)

end Rows
end Go.Proofs.Ytlnclaggmjhbfaa
