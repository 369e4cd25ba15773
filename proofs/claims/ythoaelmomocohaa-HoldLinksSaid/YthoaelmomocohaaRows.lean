/-
  No cell of these rows narrows 'for every input' (looked for: loops, veiled, ifaces, maps, wideKeys, modest, calm, conditions, laid).
  DERIVED. THE GIVEN ROWS OF THIS SEAT. 7 by the template 'for every input the law returns true; each argument reads behind the call as it read before'; 0 by the template 'total and deterministic' (their statements: YthoaelmomocohaaTotals.lean).
  GIVEN WITH THE SEED: the statements are not yours to turn. If you find one false, say at which input.
  Laid BY PROGRAM, IN A SANDBOX (cutbox-rows.mjs): the forced cells as the released guide's own fill.sh prints them over the translation 5df899412119a7b4… (all of the seat's roots in one cut). By AI agents, Wed Nov 11 2026. No macro, syntax, notation, axiom, sorry.
-/
import Derived.Test.YthoaelmomocohaaChecked
import GoSem.Claim
import GoSem.ClaimJoined
import GoSem.ClaimMapViews
import Derived.JoinedTies
import Derived.KernelRfl
namespace Go.Proofs.Ythoaelmomocohaa
/- THE CELL 'sum', in the pinned program and in every row, IS THE sha256 OF THE DUMP (.gsa) THAT YthoaelmomocohaaProg.lean LOADS. Nothing in Lean hashes anything: it is a label: what it is worth is what the hold of that sum in a sandbox is worth. -/
noncomputable def Try.pinned : Pinned := { name := "ythoaelmomocohaa", sum := "5df899412119a7b4ac97c53a725e52bb5104e75bc37c6ad2d15824d6ee9d8968", checked := Try.checked }
namespace Rows
def none {H : Type} : Left H := { results := [], args := [] }

/-- 'gatehouselaw04.HoldLinks': WHATEVER THE INPUT: true; the input reads as it did. -/
def holdLinksSpec : ChangeSpec := { name := "holdLinks", fn := fun _ => fun
  | [d1, d2, d3] => { results := [.lit (.bool true)], args := [d1, d2, d3] }
  | _ => none }
def holdLinksRow : OpenClaim := { program := "ythoaelmomocohaa", sum := "5df899412119a7b4ac97c53a725e52bb5104e75bc37c6ad2d15824d6ee9d8968", func := "gatehouse/gatehouselaw04.HoldLinks", spec := "holdLinks", unfollowed := true, recurses := true, apart := false }
def HoldLinksSaid : Prop := holdLinksRow.holds Try.pinned (OpenSpec.ofChange holdLinksSpec)

/-- ITS FALSE NEIGHBOUR: 'it returns false'. Refute it at one input. -/
def holdLinksWrong : ChangeSpec := { name := "holdLinks", fn := fun _ => fun
  | [d1, d2, d3] => { results := [.lit (.bool false)], args := [d1, d2, d3] }
  | _ => none }
def HoldLinksWrongFalsely : Prop := holdLinksRow.holds Try.pinned (OpenSpec.ofChange holdLinksWrong)

/-- 'gatehouselaw04.HoldShifts': WHATEVER THE INPUT: true; the input reads as it did. -/
def holdShiftsSpec : ChangeSpec := { name := "holdShifts", fn := fun _ => fun
  | [d1, d2, d3] => { results := [.lit (.bool true)], args := [d1, d2, d3] }
  | _ => none }
def holdShiftsRow : OpenClaim := { program := "ythoaelmomocohaa", sum := "5df899412119a7b4ac97c53a725e52bb5104e75bc37c6ad2d15824d6ee9d8968", func := "gatehouse/gatehouselaw04.HoldShifts", spec := "holdShifts", unfollowed := true, recurses := true, apart := false }
def HoldShiftsSaid : Prop := holdShiftsRow.holds Try.pinned (OpenSpec.ofChange holdShiftsSpec)

/-- ITS FALSE NEIGHBOUR: 'it returns false'. Refute it at one input. -/
def holdShiftsWrong : ChangeSpec := { name := "holdShifts", fn := fun _ => fun
  | [d1, d2, d3] => { results := [.lit (.bool false)], args := [d1, d2, d3] }
  | _ => none }
def HoldShiftsWrongFalsely : Prop := holdShiftsRow.holds Try.pinned (OpenSpec.ofChange holdShiftsWrong)

/-- 'gatehouselaw04.HoldGoes': WHATEVER THE INPUT: true; the input reads as it did. -/
def holdGoesSpec : ChangeSpec := { name := "holdGoes", fn := fun _ => fun
  | [d1, d2, d3] => { results := [.lit (.bool true)], args := [d1, d2, d3] }
  | _ => none }
def holdGoesRow : OpenClaim := { program := "ythoaelmomocohaa", sum := "5df899412119a7b4ac97c53a725e52bb5104e75bc37c6ad2d15824d6ee9d8968", func := "gatehouse/gatehouselaw04.HoldGoes", spec := "holdGoes", unfollowed := true, recurses := true, apart := false }
def HoldGoesSaid : Prop := holdGoesRow.holds Try.pinned (OpenSpec.ofChange holdGoesSpec)

/-- ITS FALSE NEIGHBOUR: 'it returns false'. Refute it at one input. -/
def holdGoesWrong : ChangeSpec := { name := "holdGoes", fn := fun _ => fun
  | [d1, d2, d3] => { results := [.lit (.bool false)], args := [d1, d2, d3] }
  | _ => none }
def HoldGoesWrongFalsely : Prop := holdGoesRow.holds Try.pinned (OpenSpec.ofChange holdGoesWrong)

/-- 'gatehouselaw04.HoldSums': WHATEVER THE INPUT: true; the input reads as it did. -/
def holdSumsSpec : ChangeSpec := { name := "holdSums", fn := fun _ => fun
  | [d] => { results := [.lit (.bool true)], args := [d] }
  | _ => none }
def holdSumsRow : OpenClaim := { program := "ythoaelmomocohaa", sum := "5df899412119a7b4ac97c53a725e52bb5104e75bc37c6ad2d15824d6ee9d8968", func := "gatehouse/gatehouselaw04.HoldSums", spec := "holdSums", unfollowed := true, recurses := true, apart := false }
def HoldSumsSaid : Prop := holdSumsRow.holds Try.pinned (OpenSpec.ofChange holdSumsSpec)

/-- ITS FALSE NEIGHBOUR: 'it returns false'. Refute it at one input. -/
def holdSumsWrong : ChangeSpec := { name := "holdSums", fn := fun _ => fun
  | [d] => { results := [.lit (.bool false)], args := [d] }
  | _ => none }
def HoldSumsWrongFalsely : Prop := holdSumsRow.holds Try.pinned (OpenSpec.ofChange holdSumsWrong)

/-- 'gatehouselaw04.HoldRefused': WHATEVER THE INPUT: true; the input reads as it did. -/
def holdRefusedSpec : ChangeSpec := { name := "holdRefused", fn := fun _ => fun
  | [d1, d2] => { results := [.lit (.bool true)], args := [d1, d2] }
  | _ => none }
def holdRefusedRow : OpenClaim := { program := "ythoaelmomocohaa", sum := "5df899412119a7b4ac97c53a725e52bb5104e75bc37c6ad2d15824d6ee9d8968", func := "gatehouse/gatehouselaw04.HoldRefused", spec := "holdRefused", unfollowed := true, recurses := true, apart := false }
def HoldRefusedSaid : Prop := holdRefusedRow.holds Try.pinned (OpenSpec.ofChange holdRefusedSpec)

/-- ITS FALSE NEIGHBOUR: 'it returns false'. Refute it at one input. -/
def holdRefusedWrong : ChangeSpec := { name := "holdRefused", fn := fun _ => fun
  | [d1, d2] => { results := [.lit (.bool false)], args := [d1, d2] }
  | _ => none }
def HoldRefusedWrongFalsely : Prop := holdRefusedRow.holds Try.pinned (OpenSpec.ofChange holdRefusedWrong)

/-- 'gatehouselaw04.HoldPlay': WHATEVER THE INPUT: true; the input reads as it did. -/
def holdPlaySpec : ChangeSpec := { name := "holdPlay", fn := fun _ => fun
  | [d1, d2, d3] => { results := [.lit (.bool true)], args := [d1, d2, d3] }
  | _ => none }
def holdPlayRow : OpenClaim := { program := "ythoaelmomocohaa", sum := "5df899412119a7b4ac97c53a725e52bb5104e75bc37c6ad2d15824d6ee9d8968", func := "gatehouse/gatehouselaw04.HoldPlay", spec := "holdPlay", unfollowed := true, recurses := true, apart := false }
def HoldPlaySaid : Prop := holdPlayRow.holds Try.pinned (OpenSpec.ofChange holdPlaySpec)

/-- ITS FALSE NEIGHBOUR: 'it returns false'. Refute it at one input. -/
def holdPlayWrong : ChangeSpec := { name := "holdPlay", fn := fun _ => fun
  | [d1, d2, d3] => { results := [.lit (.bool false)], args := [d1, d2, d3] }
  | _ => none }
def HoldPlayWrongFalsely : Prop := holdPlayRow.holds Try.pinned (OpenSpec.ofChange holdPlayWrong)

/-- 'gatehouselaw04.HoldNone': WHATEVER THE INPUT: true; the input reads as it did. -/
def holdNoneSpec : ChangeSpec := { name := "holdNone", fn := fun _ => fun
  | [d1, d2, d3, d4] => { results := [.lit (.bool true)], args := [d1, d2, d3, d4] }
  | _ => none }
def holdNoneRow : OpenClaim := { program := "ythoaelmomocohaa", sum := "5df899412119a7b4ac97c53a725e52bb5104e75bc37c6ad2d15824d6ee9d8968", func := "gatehouse/gatehouselaw04.HoldNone", spec := "holdNone", unfollowed := true, recurses := true, apart := false }
def HoldNoneSaid : Prop := holdNoneRow.holds Try.pinned (OpenSpec.ofChange holdNoneSpec)

/-- ITS FALSE NEIGHBOUR: 'it returns false'. Refute it at one input. -/
def holdNoneWrong : ChangeSpec := { name := "holdNone", fn := fun _ => fun
  | [d1, d2, d3, d4] => { results := [.lit (.bool false)], args := [d1, d2, d3, d4] }
  | _ => none }
def HoldNoneWrongFalsely : Prop := holdNoneRow.holds Try.pinned (OpenSpec.ofChange holdNoneWrong)

/- THE SECOND FORM. 'bulk': how many values and letters a reading holds, each counted each time it is reached (what is shared counts as often as it is met; a slice's spare places count too). A statement '..UptoSaid' is the law's where the arguments, and the package variables that the reading takes, are together of bulk at most 1048576: NARROWER than '..Said'. Prove '..Said' where nothing that the law and all that it calls make is longer than what came in: it says more and counts as full. Else prove '..UptoSaid'. A law counts once. -/
mutual
def uptoBulk {H : Type} : DataW H → Nat
  | .lit (.string bytes) => bytes.length + 1
  | .lit _ => 1
  | .nil => 1
  | .ptr d => uptoBulk d + 1
  | .slice elems spare => uptoBulkAll elems + uptoBulkAll spare + 1
  | .agg parts => uptoBulkAll parts + 1
  | .iface _ d => uptoBulk d + 1
  | .map entries => uptoBulkEntries entries + 1
  | .held _ => 1
def uptoBulkAll {H : Type} : List (DataW H) → Nat
  | [] => 0
  | d :: r => uptoBulk d + uptoBulkAll r
def uptoBulkEntries {H : Type} : List (Lit × DataW H) → Nat
  | [] => 0
  | x :: r => uptoBulkEntry x + uptoBulkEntries r
def uptoBulkEntry {H : Type} : Lit × DataW H → Nat
  | (.string bytes, d) => bytes.length + uptoBulk d + 1
  | (_, d) => uptoBulk d + 1
 end
def uptoSmall : (H : Type) → List (DataW H) → Bool := fun _ ds => decide (uptoBulkAll ds ≤ 1048576)
def OpenSpec.upto (s : _root_.Go.ChangeSpec) : _root_.Go.OpenSpec := { _root_.Go.OpenSpec.ofChange s with cond := some uptoSmall }

/-- 'gatehouselaw04.HoldLinks', WHERE WHAT IT READS IS OF BULK AT MOST 1048576: true; the input reads as it did. -/
def holdLinksUptoRow : OpenClaim := { program := "ythoaelmomocohaa", sum := "5df899412119a7b4ac97c53a725e52bb5104e75bc37c6ad2d15824d6ee9d8968", func := "gatehouse/gatehouselaw04.HoldLinks", spec := "holdLinks", unfollowed := true, recurses := true, apart := false, narrowed := true }
def HoldLinksUptoSaid : Prop := holdLinksUptoRow.holds Try.pinned (OpenSpec.upto holdLinksSpec)

/-- 'gatehouselaw04.HoldShifts', WHERE WHAT IT READS IS OF BULK AT MOST 1048576: true; the input reads as it did. -/
def holdShiftsUptoRow : OpenClaim := { program := "ythoaelmomocohaa", sum := "5df899412119a7b4ac97c53a725e52bb5104e75bc37c6ad2d15824d6ee9d8968", func := "gatehouse/gatehouselaw04.HoldShifts", spec := "holdShifts", unfollowed := true, recurses := true, apart := false, narrowed := true }
def HoldShiftsUptoSaid : Prop := holdShiftsUptoRow.holds Try.pinned (OpenSpec.upto holdShiftsSpec)

/-- 'gatehouselaw04.HoldGoes', WHERE WHAT IT READS IS OF BULK AT MOST 1048576: true; the input reads as it did. -/
def holdGoesUptoRow : OpenClaim := { program := "ythoaelmomocohaa", sum := "5df899412119a7b4ac97c53a725e52bb5104e75bc37c6ad2d15824d6ee9d8968", func := "gatehouse/gatehouselaw04.HoldGoes", spec := "holdGoes", unfollowed := true, recurses := true, apart := false, narrowed := true }
def HoldGoesUptoSaid : Prop := holdGoesUptoRow.holds Try.pinned (OpenSpec.upto holdGoesSpec)

/-- 'gatehouselaw04.HoldSums', WHERE WHAT IT READS IS OF BULK AT MOST 1048576: true; the input reads as it did. -/
def holdSumsUptoRow : OpenClaim := { program := "ythoaelmomocohaa", sum := "5df899412119a7b4ac97c53a725e52bb5104e75bc37c6ad2d15824d6ee9d8968", func := "gatehouse/gatehouselaw04.HoldSums", spec := "holdSums", unfollowed := true, recurses := true, apart := false, narrowed := true }
def HoldSumsUptoSaid : Prop := holdSumsUptoRow.holds Try.pinned (OpenSpec.upto holdSumsSpec)

/-- 'gatehouselaw04.HoldRefused', WHERE WHAT IT READS IS OF BULK AT MOST 1048576: true; the input reads as it did. -/
def holdRefusedUptoRow : OpenClaim := { program := "ythoaelmomocohaa", sum := "5df899412119a7b4ac97c53a725e52bb5104e75bc37c6ad2d15824d6ee9d8968", func := "gatehouse/gatehouselaw04.HoldRefused", spec := "holdRefused", unfollowed := true, recurses := true, apart := false, narrowed := true }
def HoldRefusedUptoSaid : Prop := holdRefusedUptoRow.holds Try.pinned (OpenSpec.upto holdRefusedSpec)

/-- 'gatehouselaw04.HoldPlay', WHERE WHAT IT READS IS OF BULK AT MOST 1048576: true; the input reads as it did. -/
def holdPlayUptoRow : OpenClaim := { program := "ythoaelmomocohaa", sum := "5df899412119a7b4ac97c53a725e52bb5104e75bc37c6ad2d15824d6ee9d8968", func := "gatehouse/gatehouselaw04.HoldPlay", spec := "holdPlay", unfollowed := true, recurses := true, apart := false, narrowed := true }
def HoldPlayUptoSaid : Prop := holdPlayUptoRow.holds Try.pinned (OpenSpec.upto holdPlaySpec)

/-- 'gatehouselaw04.HoldNone', WHERE WHAT IT READS IS OF BULK AT MOST 1048576: true; the input reads as it did. -/
def holdNoneUptoRow : OpenClaim := { program := "ythoaelmomocohaa", sum := "5df899412119a7b4ac97c53a725e52bb5104e75bc37c6ad2d15824d6ee9d8968", func := "gatehouse/gatehouselaw04.HoldNone", spec := "holdNone", unfollowed := true, recurses := true, apart := false, narrowed := true }
def HoldNoneUptoSaid : Prop := holdNoneUptoRow.holds Try.pinned (OpenSpec.upto holdNoneSpec)

end Rows
end Go.Proofs.Ythoaelmomocohaa
