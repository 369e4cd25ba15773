/-
  No cell of these rows narrows 'for every input' (looked for: loops, veiled, ifaces, maps, wideKeys, modest, calm, conditions, laid).
  DERIVED. THE GIVEN ROWS OF THIS SEAT. 7 by the template 'for every input the law returns true; each argument reads behind the call as it read before'; 0 by the template 'total and deterministic' (their statements: YtddbideknibckaaTotals.lean).
  GIVEN WITH THE SEED: the statements are not yours to turn. If you find one false, say at which input.
  Laid BY PROGRAM, IN A SANDBOX (cutbox-rows.mjs): the forced cells as the released guide's own fill.sh prints them over the translation b50d0e677f7cf128… (all of the seat's roots in one cut). By AI agents, Wed Nov 11 2026. No macro, syntax, notation, axiom, sorry.
-/
import Derived.Test.YtddbideknibckaaChecked
import GoSem.Claim
import GoSem.ClaimJoined
import GoSem.ClaimMapViews
import Derived.JoinedTies
import Derived.KernelRfl
namespace Go.Proofs.Ytddbideknibckaa
/- THE CELL 'sum', in the pinned program and in every row, IS THE sha256 OF THE DUMP (.gsa) THAT YtddbideknibckaaProg.lean LOADS. Nothing in Lean hashes anything: it is a label: what it is worth is what the hold of that sum in a sandbox is worth. -/
noncomputable def Try.pinned : Pinned := { name := "ytddbideknibckaa", sum := "b50d0e677f7cf1285bce58334ae5c2ea73d9c8c98de753f9a774598a220127b5", checked := Try.checked }
namespace Rows
def none {H : Type} : Left H := { results := [], args := [] }

/-- 'gatehouselaw07.PassageMakes': WHATEVER THE INPUT: true; the input reads as it did. -/
def passageMakesSpec : ChangeSpec := { name := "passageMakes", fn := fun _ => fun
  | [d1, d2, d3] => { results := [.lit (.bool true)], args := [d1, d2, d3] }
  | _ => none }
def passageMakesRow : OpenClaim := { program := "ytddbideknibckaa", sum := "b50d0e677f7cf1285bce58334ae5c2ea73d9c8c98de753f9a774598a220127b5", func := "gatehouse/gatehouselaw07.PassageMakes", spec := "passageMakes", unfollowed := true, recurses := true, apart := false }
def PassageMakesSaid : Prop := passageMakesRow.holds Try.pinned (OpenSpec.ofChange passageMakesSpec)

/-- ITS FALSE NEIGHBOUR: 'it returns false'. Refute it at one input. -/
def passageMakesWrong : ChangeSpec := { name := "passageMakes", fn := fun _ => fun
  | [d1, d2, d3] => { results := [.lit (.bool false)], args := [d1, d2, d3] }
  | _ => none }
def PassageMakesWrongFalsely : Prop := passageMakesRow.holds Try.pinned (OpenSpec.ofChange passageMakesWrong)

/-- 'gatehouselaw07.PassageEnters': WHATEVER THE INPUT: true; the input reads as it did. -/
def passageEntersSpec : ChangeSpec := { name := "passageEnters", fn := fun _ => fun
  | [d1, d2, d3] => { results := [.lit (.bool true)], args := [d1, d2, d3] }
  | _ => none }
def passageEntersRow : OpenClaim := { program := "ytddbideknibckaa", sum := "b50d0e677f7cf1285bce58334ae5c2ea73d9c8c98de753f9a774598a220127b5", func := "gatehouse/gatehouselaw07.PassageEnters", spec := "passageEnters", unfollowed := true, recurses := true, apart := false }
def PassageEntersSaid : Prop := passageEntersRow.holds Try.pinned (OpenSpec.ofChange passageEntersSpec)

/-- ITS FALSE NEIGHBOUR: 'it returns false'. Refute it at one input. -/
def passageEntersWrong : ChangeSpec := { name := "passageEnters", fn := fun _ => fun
  | [d1, d2, d3] => { results := [.lit (.bool false)], args := [d1, d2, d3] }
  | _ => none }
def PassageEntersWrongFalsely : Prop := passageEntersRow.holds Try.pinned (OpenSpec.ofChange passageEntersWrong)

/-- 'gatehouselaw07.PassageTaints': WHATEVER THE INPUT: true; the input reads as it did. -/
def passageTaintsSpec : ChangeSpec := { name := "passageTaints", fn := fun _ => fun
  | [d1, d2, d3, d4] => { results := [.lit (.bool true)], args := [d1, d2, d3, d4] }
  | _ => none }
def passageTaintsRow : OpenClaim := { program := "ytddbideknibckaa", sum := "b50d0e677f7cf1285bce58334ae5c2ea73d9c8c98de753f9a774598a220127b5", func := "gatehouse/gatehouselaw07.PassageTaints", spec := "passageTaints", unfollowed := true, recurses := true, apart := false }
def PassageTaintsSaid : Prop := passageTaintsRow.holds Try.pinned (OpenSpec.ofChange passageTaintsSpec)

/-- ITS FALSE NEIGHBOUR: 'it returns false'. Refute it at one input. -/
def passageTaintsWrong : ChangeSpec := { name := "passageTaints", fn := fun _ => fun
  | [d1, d2, d3, d4] => { results := [.lit (.bool false)], args := [d1, d2, d3, d4] }
  | _ => none }
def PassageTaintsWrongFalsely : Prop := passageTaintsRow.holds Try.pinned (OpenSpec.ofChange passageTaintsWrong)

/-- 'gatehouselaw07.PassageKeeps': WHATEVER THE INPUT: true; the input reads as it did. -/
def passageKeepsSpec : ChangeSpec := { name := "passageKeeps", fn := fun _ => fun
  | [d1, d2, d3, d4] => { results := [.lit (.bool true)], args := [d1, d2, d3, d4] }
  | _ => none }
def passageKeepsRow : OpenClaim := { program := "ytddbideknibckaa", sum := "b50d0e677f7cf1285bce58334ae5c2ea73d9c8c98de753f9a774598a220127b5", func := "gatehouse/gatehouselaw07.PassageKeeps", spec := "passageKeeps", unfollowed := true, recurses := true, apart := false }
def PassageKeepsSaid : Prop := passageKeepsRow.holds Try.pinned (OpenSpec.ofChange passageKeepsSpec)

/-- ITS FALSE NEIGHBOUR: 'it returns false'. Refute it at one input. -/
def passageKeepsWrong : ChangeSpec := { name := "passageKeeps", fn := fun _ => fun
  | [d1, d2, d3, d4] => { results := [.lit (.bool false)], args := [d1, d2, d3, d4] }
  | _ => none }
def PassageKeepsWrongFalsely : Prop := passageKeepsRow.holds Try.pinned (OpenSpec.ofChange passageKeepsWrong)

/-- 'gatehouselaw07.PassageMiddle': WHATEVER THE INPUT: true; the input reads as it did. -/
def passageMiddleSpec : ChangeSpec := { name := "passageMiddle", fn := fun _ => fun
  | [d1, d2, d3] => { results := [.lit (.bool true)], args := [d1, d2, d3] }
  | _ => none }
def passageMiddleRow : OpenClaim := { program := "ytddbideknibckaa", sum := "b50d0e677f7cf1285bce58334ae5c2ea73d9c8c98de753f9a774598a220127b5", func := "gatehouse/gatehouselaw07.PassageMiddle", spec := "passageMiddle", unfollowed := true, recurses := true, apart := false }
def PassageMiddleSaid : Prop := passageMiddleRow.holds Try.pinned (OpenSpec.ofChange passageMiddleSpec)

/-- ITS FALSE NEIGHBOUR: 'it returns false'. Refute it at one input. -/
def passageMiddleWrong : ChangeSpec := { name := "passageMiddle", fn := fun _ => fun
  | [d1, d2, d3] => { results := [.lit (.bool false)], args := [d1, d2, d3] }
  | _ => none }
def PassageMiddleWrongFalsely : Prop := passageMiddleRow.holds Try.pinned (OpenSpec.ofChange passageMiddleWrong)

/-- 'gatehouselaw07.PassageTakes': WHATEVER THE INPUT: true; the input reads as it did. -/
def passageTakesSpec : ChangeSpec := { name := "passageTakes", fn := fun _ => fun
  | [d1, d2] => { results := [.lit (.bool true)], args := [d1, d2] }
  | _ => none }
def passageTakesRow : OpenClaim := { program := "ytddbideknibckaa", sum := "b50d0e677f7cf1285bce58334ae5c2ea73d9c8c98de753f9a774598a220127b5", func := "gatehouse/gatehouselaw07.PassageTakes", spec := "passageTakes", unfollowed := true, recurses := true, apart := false }
def PassageTakesSaid : Prop := passageTakesRow.holds Try.pinned (OpenSpec.ofChange passageTakesSpec)

/-- ITS FALSE NEIGHBOUR: 'it returns false'. Refute it at one input. -/
def passageTakesWrong : ChangeSpec := { name := "passageTakes", fn := fun _ => fun
  | [d1, d2] => { results := [.lit (.bool false)], args := [d1, d2] }
  | _ => none }
def PassageTakesWrongFalsely : Prop := passageTakesRow.holds Try.pinned (OpenSpec.ofChange passageTakesWrong)

/-- 'gatehouselaw07.PassageOwns': WHATEVER THE INPUT: true; the input reads as it did. -/
def passageOwnsSpec : ChangeSpec := { name := "passageOwns", fn := fun _ => fun
  | [d1, d2, d3] => { results := [.lit (.bool true)], args := [d1, d2, d3] }
  | _ => none }
def passageOwnsRow : OpenClaim := { program := "ytddbideknibckaa", sum := "b50d0e677f7cf1285bce58334ae5c2ea73d9c8c98de753f9a774598a220127b5", func := "gatehouse/gatehouselaw07.PassageOwns", spec := "passageOwns", unfollowed := true, recurses := true, apart := false }
def PassageOwnsSaid : Prop := passageOwnsRow.holds Try.pinned (OpenSpec.ofChange passageOwnsSpec)

/-- ITS FALSE NEIGHBOUR: 'it returns false'. Refute it at one input. -/
def passageOwnsWrong : ChangeSpec := { name := "passageOwns", fn := fun _ => fun
  | [d1, d2, d3] => { results := [.lit (.bool false)], args := [d1, d2, d3] }
  | _ => none }
def PassageOwnsWrongFalsely : Prop := passageOwnsRow.holds Try.pinned (OpenSpec.ofChange passageOwnsWrong)

/- THE SECOND FORM. 'bulk': how many values and letters a reading holds, each counted each time it is reached (what is shared counts as often as it is met; a slice's spare places count too). A statement '..UptoSaid' is the law's where the arguments, and the package variables that the reading takes, are together of bulk at most 1048576: NARROWER than '..Said'. Prove '..Said' where nothing that the law and all that it calls make is longer than what came in: it says more and counts as full. Else prove '..UptoSaid'. A law counts once. -/
mutual
def uptoBulk {H : Type} : DataW H → Nat
  | .lit (.string bytes) => bytes.length + 1
  | .lit _ => 1
  | .nil => 1
  | .ptr d => uptoBulk d + 1
  | .slice elems spare => uptoBulkAll elems + uptoBulkAll spare + 1
  | .agg parts => uptoBulkAll parts + 1
  | .iface _ d => uptoBulk d + 1
  | .map entries => uptoBulkEntries entries + 1
  | .held _ => 1
def uptoBulkAll {H : Type} : List (DataW H) → Nat
  | [] => 0
  | d :: r => uptoBulk d + uptoBulkAll r
def uptoBulkEntries {H : Type} : List (Lit × DataW H) → Nat
  | [] => 0
  | x :: r => uptoBulkEntry x + uptoBulkEntries r
def uptoBulkEntry {H : Type} : Lit × DataW H → Nat
  | (.string bytes, d) => bytes.length + uptoBulk d + 1
  | (_, d) => uptoBulk d + 1
 end
def uptoSmall : (H : Type) → List (DataW H) → Bool := fun _ ds => decide (uptoBulkAll ds ≤ 1048576)
def OpenSpec.upto (s : _root_.Go.ChangeSpec) : _root_.Go.OpenSpec := { _root_.Go.OpenSpec.ofChange s with cond := some uptoSmall }

/-- 'gatehouselaw07.PassageMakes', WHERE WHAT IT READS IS OF BULK AT MOST 1048576: true; the input reads as it did. -/
def passageMakesUptoRow : OpenClaim := { program := "ytddbideknibckaa", sum := "b50d0e677f7cf1285bce58334ae5c2ea73d9c8c98de753f9a774598a220127b5", func := "gatehouse/gatehouselaw07.PassageMakes", spec := "passageMakes", unfollowed := true, recurses := true, apart := false, narrowed := true }
def PassageMakesUptoSaid : Prop := passageMakesUptoRow.holds Try.pinned (OpenSpec.upto passageMakesSpec)

/-- 'gatehouselaw07.PassageEnters', WHERE WHAT IT READS IS OF BULK AT MOST 1048576: true; the input reads as it did. -/
def passageEntersUptoRow : OpenClaim := { program := "ytddbideknibckaa", sum := "b50d0e677f7cf1285bce58334ae5c2ea73d9c8c98de753f9a774598a220127b5", func := "gatehouse/gatehouselaw07.PassageEnters", spec := "passageEnters", unfollowed := true, recurses := true, apart := false, narrowed := true }
def PassageEntersUptoSaid : Prop := passageEntersUptoRow.holds Try.pinned (OpenSpec.upto passageEntersSpec)

/-- 'gatehouselaw07.PassageTaints', WHERE WHAT IT READS IS OF BULK AT MOST 1048576: true; the input reads as it did. -/
def passageTaintsUptoRow : OpenClaim := { program := "ytddbideknibckaa", sum := "b50d0e677f7cf1285bce58334ae5c2ea73d9c8c98de753f9a774598a220127b5", func := "gatehouse/gatehouselaw07.PassageTaints", spec := "passageTaints", unfollowed := true, recurses := true, apart := false, narrowed := true }
def PassageTaintsUptoSaid : Prop := passageTaintsUptoRow.holds Try.pinned (OpenSpec.upto passageTaintsSpec)

/-- 'gatehouselaw07.PassageKeeps', WHERE WHAT IT READS IS OF BULK AT MOST 1048576: true; the input reads as it did. -/
def passageKeepsUptoRow : OpenClaim := { program := "ytddbideknibckaa", sum := "b50d0e677f7cf1285bce58334ae5c2ea73d9c8c98de753f9a774598a220127b5", func := "gatehouse/gatehouselaw07.PassageKeeps", spec := "passageKeeps", unfollowed := true, recurses := true, apart := false, narrowed := true }
def PassageKeepsUptoSaid : Prop := passageKeepsUptoRow.holds Try.pinned (OpenSpec.upto passageKeepsSpec)

/-- 'gatehouselaw07.PassageMiddle', WHERE WHAT IT READS IS OF BULK AT MOST 1048576: true; the input reads as it did. -/
def passageMiddleUptoRow : OpenClaim := { program := "ytddbideknibckaa", sum := "b50d0e677f7cf1285bce58334ae5c2ea73d9c8c98de753f9a774598a220127b5", func := "gatehouse/gatehouselaw07.PassageMiddle", spec := "passageMiddle", unfollowed := true, recurses := true, apart := false, narrowed := true }
def PassageMiddleUptoSaid : Prop := passageMiddleUptoRow.holds Try.pinned (OpenSpec.upto passageMiddleSpec)

/-- 'gatehouselaw07.PassageTakes', WHERE WHAT IT READS IS OF BULK AT MOST 1048576: true; the input reads as it did. -/
def passageTakesUptoRow : OpenClaim := { program := "ytddbideknibckaa", sum := "b50d0e677f7cf1285bce58334ae5c2ea73d9c8c98de753f9a774598a220127b5", func := "gatehouse/gatehouselaw07.PassageTakes", spec := "passageTakes", unfollowed := true, recurses := true, apart := false, narrowed := true }
def PassageTakesUptoSaid : Prop := passageTakesUptoRow.holds Try.pinned (OpenSpec.upto passageTakesSpec)

/-- 'gatehouselaw07.PassageOwns', WHERE WHAT IT READS IS OF BULK AT MOST 1048576: true; the input reads as it did. -/
def passageOwnsUptoRow : OpenClaim := { program := "ytddbideknibckaa", sum := "b50d0e677f7cf1285bce58334ae5c2ea73d9c8c98de753f9a774598a220127b5", func := "gatehouse/gatehouselaw07.PassageOwns", spec := "passageOwns", unfollowed := true, recurses := true, apart := false, narrowed := true }
def PassageOwnsUptoSaid : Prop := passageOwnsUptoRow.holds Try.pinned (OpenSpec.upto passageOwnsSpec)

end Rows
end Go.Proofs.Ytddbideknibckaa
