/-
  NARROWER THAN 'FOR EVERY INPUT', by the rows' own cells (each row's printed sentence says how): LabelMakes: laid · LabelLooks: laid · LabelOrders: laid · LabelFlows: laid · LabelCompares: laid · LabelBounds: laid · LabelBytes: laid · LabelTurns: laid · LabelForms: laid · LabelTexts: laid.
  DERIVED. THE GIVEN ROWS OF THIS SEAT. 10 by the template 'for every input the law returns true; each argument reads behind the call as it read before'; 0 by the template 'total and deterministic' (their statements: YtblhojadchbcnaaDoorTotals.lean).
  GIVEN WITH THE SEED: the statements are not yours to turn. If you find one false, say at which input.
  Laid BY PROGRAM, IN A SANDBOX (cutbox-rows.mjs): the forced cells as the released guide's own fill.sh prints them over the translation 03fc33ac971140cb… (all of the seat's roots in one cut). By AI agents, Wed Nov 11 2026. No macro, syntax, notation, axiom, sorry.
-/
import Derived.Test.YtblhojadchbcnaaDoorChecked
import GoSem.Claim
import GoSem.ClaimJoined
import GoSem.ClaimMapViews
import Derived.JoinedTies
import Derived.KernelRfl
namespace Go.Proofs.YtblhojadchbcnaaDoor
/- THE CELL 'sum', in the pinned program and in every row, IS THE sha256 OF THE DUMP (.gsa) THAT YtblhojadchbcnaaDoorProg.lean LOADS. Nothing in Lean hashes anything: it is a label: what it is worth is what the hold of that sum in a sandbox is worth. -/
noncomputable def Tryd.pinned : Pinned := { name := "ytblhojadchbcnaadoor", sum := "03fc33ac971140cbd8b21409ea30dd2d07289ebd07e68cb816846a2fff357e3b", checked := Tryd.checked }
namespace Rows
def none {H : Type} : Left H := { results := [], args := [] }

/- WHAT THE LISTED PACKAGE-LEVEL VARIABLES READ AS WHEN THE CALL BEGINS. Each datum BY PROGRAM (the guide's laid-datum.mjs) off the statement by which the dump's own 'gosem.cut.vars' lays the variable. In a bare row this is a premise. The card (YtblhojadchbcnaaDoorCards.lean) ties it to the program's text. -/
def laid_math_bits_deBruijn32tab {H : Type} : DataW H := .agg [.lit (.int .u8 0), .lit (.int .u8 1), .lit (.int .u8 28), .lit (.int .u8 2), .lit (.int .u8 29), .lit (.int .u8 14), .lit (.int .u8 24), .lit (.int .u8 3), .lit (.int .u8 30), .lit (.int .u8 22), .lit (.int .u8 20), .lit (.int .u8 15), .lit (.int .u8 25), .lit (.int .u8 17), .lit (.int .u8 4), .lit (.int .u8 8), .lit (.int .u8 31), .lit (.int .u8 27), .lit (.int .u8 13), .lit (.int .u8 23), .lit (.int .u8 21), .lit (.int .u8 19), .lit (.int .u8 16), .lit (.int .u8 7), .lit (.int .u8 26), .lit (.int .u8 12), .lit (.int .u8 18), .lit (.int .u8 6), .lit (.int .u8 11), .lit (.int .u8 5), .lit (.int .u8 10), .lit (.int .u8 9)]
def laid_math_bits_deBruijn64tab {H : Type} : DataW H := .agg [.lit (.int .u8 0), .lit (.int .u8 1), .lit (.int .u8 56), .lit (.int .u8 2), .lit (.int .u8 57), .lit (.int .u8 49), .lit (.int .u8 28), .lit (.int .u8 3), .lit (.int .u8 61), .lit (.int .u8 58), .lit (.int .u8 42), .lit (.int .u8 50), .lit (.int .u8 38), .lit (.int .u8 29), .lit (.int .u8 17), .lit (.int .u8 4), .lit (.int .u8 62), .lit (.int .u8 47), .lit (.int .u8 59), .lit (.int .u8 36), .lit (.int .u8 45), .lit (.int .u8 43), .lit (.int .u8 51), .lit (.int .u8 22), .lit (.int .u8 53), .lit (.int .u8 39), .lit (.int .u8 33), .lit (.int .u8 30), .lit (.int .u8 24), .lit (.int .u8 18), .lit (.int .u8 12), .lit (.int .u8 5), .lit (.int .u8 63), .lit (.int .u8 55), .lit (.int .u8 48), .lit (.int .u8 27), .lit (.int .u8 60), .lit (.int .u8 41), .lit (.int .u8 37), .lit (.int .u8 16), .lit (.int .u8 46), .lit (.int .u8 35), .lit (.int .u8 44), .lit (.int .u8 21), .lit (.int .u8 52), .lit (.int .u8 32), .lit (.int .u8 23), .lit (.int .u8 11), .lit (.int .u8 54), .lit (.int .u8 26), .lit (.int .u8 40), .lit (.int .u8 15), .lit (.int .u8 34), .lit (.int .u8 20), .lit (.int .u8 31), .lit (.int .u8 10), .lit (.int .u8 25), .lit (.int .u8 14), .lit (.int .u8 19), .lit (.int .u8 9), .lit (.int .u8 13), .lit (.int .u8 8), .lit (.int .u8 7), .lit (.int .u8 6)]
def laid_internal_strconv_uint64pow10 {H : Type} : DataW H := .agg [.lit (.int .u64 1), .lit (.int .u64 10), .lit (.int .u64 100), .lit (.int .u64 1000), .lit (.int .u64 10000), .lit (.int .u64 100000), .lit (.int .u64 1000000), .lit (.int .u64 10000000), .lit (.int .u64 100000000), .lit (.int .u64 1000000000), .lit (.int .u64 10000000000), .lit (.int .u64 100000000000), .lit (.int .u64 1000000000000), .lit (.int .u64 10000000000000), .lit (.int .u64 100000000000000), .lit (.int .u64 1000000000000000), .lit (.int .u64 10000000000000000), .lit (.int .u64 100000000000000000), .lit (.int .u64 1000000000000000000), .lit (.int .u64 10000000000000000000)]

/-- 'gatehouselaw01.LabelMakes': WHATEVER THE INPUT: true; the input reads as it did. -/
def labelMakesSpec : ChangeSpec := { name := "labelMakes", fn := fun _ => fun
  | [d1, d2] => { results := [.lit (.bool true)], args := [d1, d2] }
  | _ => none }
def labelMakesRow : OpenClaim := { program := "ytblhojadchbcnaadoor", sum := "03fc33ac971140cbd8b21409ea30dd2d07289ebd07e68cb816846a2fff357e3b", func := "gatehouse/gatehouselaw01.LabelMakes", spec := "labelMakes", unfollowed := true, recurses := true, named := ["internal/strconv.uint64pow10", "math/bits.deBruijn32tab", "math/bits.deBruijn64tab"], apart := false, laid := [("math/bits.deBruijn32tab", laid_math_bits_deBruijn32tab), ("math/bits.deBruijn64tab", laid_math_bits_deBruijn64tab), ("internal/strconv.uint64pow10", laid_internal_strconv_uint64pow10)] }
def LabelMakesSaid : Prop := labelMakesRow.holds Tryd.pinned (OpenSpec.ofChange labelMakesSpec)

/-- ITS FALSE NEIGHBOUR: 'it returns false'. Refute it at one input. -/
def labelMakesWrong : ChangeSpec := { name := "labelMakes", fn := fun _ => fun
  | [d1, d2] => { results := [.lit (.bool false)], args := [d1, d2] }
  | _ => none }
def LabelMakesWrongFalsely : Prop := labelMakesRow.holds Tryd.pinned (OpenSpec.ofChange labelMakesWrong)

/-- 'gatehouselaw01.LabelLooks': WHATEVER THE INPUT: true; the input reads as it did. -/
def labelLooksSpec : ChangeSpec := { name := "labelLooks", fn := fun _ => fun
  | [d1, d2] => { results := [.lit (.bool true)], args := [d1, d2] }
  | _ => none }
def labelLooksRow : OpenClaim := { program := "ytblhojadchbcnaadoor", sum := "03fc33ac971140cbd8b21409ea30dd2d07289ebd07e68cb816846a2fff357e3b", func := "gatehouse/gatehouselaw01.LabelLooks", spec := "labelLooks", unfollowed := true, recurses := true, named := ["internal/strconv.uint64pow10", "math/bits.deBruijn32tab", "math/bits.deBruijn64tab"], apart := false, laid := [("math/bits.deBruijn32tab", laid_math_bits_deBruijn32tab), ("math/bits.deBruijn64tab", laid_math_bits_deBruijn64tab), ("internal/strconv.uint64pow10", laid_internal_strconv_uint64pow10)] }
def LabelLooksSaid : Prop := labelLooksRow.holds Tryd.pinned (OpenSpec.ofChange labelLooksSpec)

/-- ITS FALSE NEIGHBOUR: 'it returns false'. Refute it at one input. -/
def labelLooksWrong : ChangeSpec := { name := "labelLooks", fn := fun _ => fun
  | [d1, d2] => { results := [.lit (.bool false)], args := [d1, d2] }
  | _ => none }
def LabelLooksWrongFalsely : Prop := labelLooksRow.holds Tryd.pinned (OpenSpec.ofChange labelLooksWrong)

/-- 'gatehouselaw01.LabelOrders': WHATEVER THE INPUT: true; the input reads as it did. -/
def labelOrdersSpec : ChangeSpec := { name := "labelOrders", fn := fun _ => fun
  | [d1, d2, d3] => { results := [.lit (.bool true)], args := [d1, d2, d3] }
  | _ => none }
def labelOrdersRow : OpenClaim := { program := "ytblhojadchbcnaadoor", sum := "03fc33ac971140cbd8b21409ea30dd2d07289ebd07e68cb816846a2fff357e3b", func := "gatehouse/gatehouselaw01.LabelOrders", spec := "labelOrders", unfollowed := true, recurses := true, named := ["internal/strconv.uint64pow10", "math/bits.deBruijn32tab", "math/bits.deBruijn64tab"], apart := false, laid := [("math/bits.deBruijn32tab", laid_math_bits_deBruijn32tab), ("math/bits.deBruijn64tab", laid_math_bits_deBruijn64tab), ("internal/strconv.uint64pow10", laid_internal_strconv_uint64pow10)] }
def LabelOrdersSaid : Prop := labelOrdersRow.holds Tryd.pinned (OpenSpec.ofChange labelOrdersSpec)

/-- ITS FALSE NEIGHBOUR: 'it returns false'. Refute it at one input. -/
def labelOrdersWrong : ChangeSpec := { name := "labelOrders", fn := fun _ => fun
  | [d1, d2, d3] => { results := [.lit (.bool false)], args := [d1, d2, d3] }
  | _ => none }
def LabelOrdersWrongFalsely : Prop := labelOrdersRow.holds Tryd.pinned (OpenSpec.ofChange labelOrdersWrong)

/-- 'gatehouselaw01.LabelFlows': WHATEVER THE INPUT: true; the input reads as it did. -/
def labelFlowsSpec : ChangeSpec := { name := "labelFlows", fn := fun _ => fun
  | [d1, d2, d3] => { results := [.lit (.bool true)], args := [d1, d2, d3] }
  | _ => none }
def labelFlowsRow : OpenClaim := { program := "ytblhojadchbcnaadoor", sum := "03fc33ac971140cbd8b21409ea30dd2d07289ebd07e68cb816846a2fff357e3b", func := "gatehouse/gatehouselaw01.LabelFlows", spec := "labelFlows", unfollowed := true, recurses := true, named := ["internal/strconv.uint64pow10", "math/bits.deBruijn32tab", "math/bits.deBruijn64tab"], apart := false, laid := [("math/bits.deBruijn32tab", laid_math_bits_deBruijn32tab), ("math/bits.deBruijn64tab", laid_math_bits_deBruijn64tab), ("internal/strconv.uint64pow10", laid_internal_strconv_uint64pow10)] }
def LabelFlowsSaid : Prop := labelFlowsRow.holds Tryd.pinned (OpenSpec.ofChange labelFlowsSpec)

/-- ITS FALSE NEIGHBOUR: 'it returns false'. Refute it at one input. -/
def labelFlowsWrong : ChangeSpec := { name := "labelFlows", fn := fun _ => fun
  | [d1, d2, d3] => { results := [.lit (.bool false)], args := [d1, d2, d3] }
  | _ => none }
def LabelFlowsWrongFalsely : Prop := labelFlowsRow.holds Tryd.pinned (OpenSpec.ofChange labelFlowsWrong)

/-- 'gatehouselaw01.LabelCompares': WHATEVER THE INPUT: true; the input reads as it did. -/
def labelComparesSpec : ChangeSpec := { name := "labelCompares", fn := fun _ => fun
  | [d1, d2] => { results := [.lit (.bool true)], args := [d1, d2] }
  | _ => none }
def labelComparesRow : OpenClaim := { program := "ytblhojadchbcnaadoor", sum := "03fc33ac971140cbd8b21409ea30dd2d07289ebd07e68cb816846a2fff357e3b", func := "gatehouse/gatehouselaw01.LabelCompares", spec := "labelCompares", unfollowed := true, recurses := true, named := ["internal/strconv.uint64pow10", "math/bits.deBruijn32tab", "math/bits.deBruijn64tab"], apart := false, laid := [("math/bits.deBruijn32tab", laid_math_bits_deBruijn32tab), ("math/bits.deBruijn64tab", laid_math_bits_deBruijn64tab), ("internal/strconv.uint64pow10", laid_internal_strconv_uint64pow10)] }
def LabelComparesSaid : Prop := labelComparesRow.holds Tryd.pinned (OpenSpec.ofChange labelComparesSpec)

/-- ITS FALSE NEIGHBOUR: 'it returns false'. Refute it at one input. -/
def labelComparesWrong : ChangeSpec := { name := "labelCompares", fn := fun _ => fun
  | [d1, d2] => { results := [.lit (.bool false)], args := [d1, d2] }
  | _ => none }
def LabelComparesWrongFalsely : Prop := labelComparesRow.holds Tryd.pinned (OpenSpec.ofChange labelComparesWrong)

/-- 'gatehouselaw01.LabelBounds': WHATEVER THE INPUT: true; the input reads as it did. -/
def labelBoundsSpec : ChangeSpec := { name := "labelBounds", fn := fun _ => fun
  | [d1, d2, d3] => { results := [.lit (.bool true)], args := [d1, d2, d3] }
  | _ => none }
def labelBoundsRow : OpenClaim := { program := "ytblhojadchbcnaadoor", sum := "03fc33ac971140cbd8b21409ea30dd2d07289ebd07e68cb816846a2fff357e3b", func := "gatehouse/gatehouselaw01.LabelBounds", spec := "labelBounds", unfollowed := true, recurses := true, named := ["internal/strconv.uint64pow10", "math/bits.deBruijn32tab", "math/bits.deBruijn64tab"], apart := false, laid := [("math/bits.deBruijn32tab", laid_math_bits_deBruijn32tab), ("math/bits.deBruijn64tab", laid_math_bits_deBruijn64tab), ("internal/strconv.uint64pow10", laid_internal_strconv_uint64pow10)] }
def LabelBoundsSaid : Prop := labelBoundsRow.holds Tryd.pinned (OpenSpec.ofChange labelBoundsSpec)

/-- ITS FALSE NEIGHBOUR: 'it returns false'. Refute it at one input. -/
def labelBoundsWrong : ChangeSpec := { name := "labelBounds", fn := fun _ => fun
  | [d1, d2, d3] => { results := [.lit (.bool false)], args := [d1, d2, d3] }
  | _ => none }
def LabelBoundsWrongFalsely : Prop := labelBoundsRow.holds Tryd.pinned (OpenSpec.ofChange labelBoundsWrong)

/-- 'gatehouselaw01.LabelBytes': WHATEVER THE INPUT: true; the input reads as it did. -/
def labelBytesSpec : ChangeSpec := { name := "labelBytes", fn := fun _ => fun
  | [d1, d2] => { results := [.lit (.bool true)], args := [d1, d2] }
  | _ => none }
def labelBytesRow : OpenClaim := { program := "ytblhojadchbcnaadoor", sum := "03fc33ac971140cbd8b21409ea30dd2d07289ebd07e68cb816846a2fff357e3b", func := "gatehouse/gatehouselaw01.LabelBytes", spec := "labelBytes", unfollowed := true, recurses := true, named := ["internal/strconv.uint64pow10", "math/bits.deBruijn32tab", "math/bits.deBruijn64tab"], apart := false, laid := [("math/bits.deBruijn32tab", laid_math_bits_deBruijn32tab), ("math/bits.deBruijn64tab", laid_math_bits_deBruijn64tab), ("internal/strconv.uint64pow10", laid_internal_strconv_uint64pow10)] }
def LabelBytesSaid : Prop := labelBytesRow.holds Tryd.pinned (OpenSpec.ofChange labelBytesSpec)

/-- ITS FALSE NEIGHBOUR: 'it returns false'. Refute it at one input. -/
def labelBytesWrong : ChangeSpec := { name := "labelBytes", fn := fun _ => fun
  | [d1, d2] => { results := [.lit (.bool false)], args := [d1, d2] }
  | _ => none }
def LabelBytesWrongFalsely : Prop := labelBytesRow.holds Tryd.pinned (OpenSpec.ofChange labelBytesWrong)

/-- 'gatehouselaw01.LabelTurns': WHATEVER THE INPUT: true; the input reads as it did. -/
def labelTurnsSpec : ChangeSpec := { name := "labelTurns", fn := fun _ => fun
  | [d1, d2, d3] => { results := [.lit (.bool true)], args := [d1, d2, d3] }
  | _ => none }
def labelTurnsRow : OpenClaim := { program := "ytblhojadchbcnaadoor", sum := "03fc33ac971140cbd8b21409ea30dd2d07289ebd07e68cb816846a2fff357e3b", func := "gatehouse/gatehouselaw01.LabelTurns", spec := "labelTurns", unfollowed := true, recurses := true, named := ["internal/strconv.uint64pow10", "math/bits.deBruijn32tab", "math/bits.deBruijn64tab"], apart := false, laid := [("math/bits.deBruijn32tab", laid_math_bits_deBruijn32tab), ("math/bits.deBruijn64tab", laid_math_bits_deBruijn64tab), ("internal/strconv.uint64pow10", laid_internal_strconv_uint64pow10)] }
def LabelTurnsSaid : Prop := labelTurnsRow.holds Tryd.pinned (OpenSpec.ofChange labelTurnsSpec)

/-- ITS FALSE NEIGHBOUR: 'it returns false'. Refute it at one input. -/
def labelTurnsWrong : ChangeSpec := { name := "labelTurns", fn := fun _ => fun
  | [d1, d2, d3] => { results := [.lit (.bool false)], args := [d1, d2, d3] }
  | _ => none }
def LabelTurnsWrongFalsely : Prop := labelTurnsRow.holds Tryd.pinned (OpenSpec.ofChange labelTurnsWrong)

/-- 'gatehouselaw01.LabelForms': WHATEVER THE INPUT: true; the input reads as it did. -/
def labelFormsSpec : ChangeSpec := { name := "labelForms", fn := fun _ => fun
  | [d1, d2] => { results := [.lit (.bool true)], args := [d1, d2] }
  | _ => none }
def labelFormsRow : OpenClaim := { program := "ytblhojadchbcnaadoor", sum := "03fc33ac971140cbd8b21409ea30dd2d07289ebd07e68cb816846a2fff357e3b", func := "gatehouse/gatehouselaw01.LabelForms", spec := "labelForms", unfollowed := true, recurses := true, named := ["internal/strconv.uint64pow10", "math/bits.deBruijn32tab", "math/bits.deBruijn64tab"], apart := false, laid := [("math/bits.deBruijn32tab", laid_math_bits_deBruijn32tab), ("math/bits.deBruijn64tab", laid_math_bits_deBruijn64tab), ("internal/strconv.uint64pow10", laid_internal_strconv_uint64pow10)] }
def LabelFormsSaid : Prop := labelFormsRow.holds Tryd.pinned (OpenSpec.ofChange labelFormsSpec)

/-- ITS FALSE NEIGHBOUR: 'it returns false'. Refute it at one input. -/
def labelFormsWrong : ChangeSpec := { name := "labelForms", fn := fun _ => fun
  | [d1, d2] => { results := [.lit (.bool false)], args := [d1, d2] }
  | _ => none }
def LabelFormsWrongFalsely : Prop := labelFormsRow.holds Tryd.pinned (OpenSpec.ofChange labelFormsWrong)

/-- 'gatehouselaw01.LabelTexts': WHATEVER THE INPUT: true; the input reads as it did. -/
def labelTextsSpec : ChangeSpec := { name := "labelTexts", fn := fun _ => fun
  | [d1, d2] => { results := [.lit (.bool true)], args := [d1, d2] }
  | _ => none }
def labelTextsRow : OpenClaim := { program := "ytblhojadchbcnaadoor", sum := "03fc33ac971140cbd8b21409ea30dd2d07289ebd07e68cb816846a2fff357e3b", func := "gatehouse/gatehouselaw01.LabelTexts", spec := "labelTexts", unfollowed := true, recurses := true, named := ["internal/strconv.uint64pow10", "math/bits.deBruijn32tab", "math/bits.deBruijn64tab"], apart := false, laid := [("math/bits.deBruijn32tab", laid_math_bits_deBruijn32tab), ("math/bits.deBruijn64tab", laid_math_bits_deBruijn64tab), ("internal/strconv.uint64pow10", laid_internal_strconv_uint64pow10)] }
def LabelTextsSaid : Prop := labelTextsRow.holds Tryd.pinned (OpenSpec.ofChange labelTextsSpec)

/-- ITS FALSE NEIGHBOUR: 'it returns false'. Refute it at one input. -/
def labelTextsWrong : ChangeSpec := { name := "labelTexts", fn := fun _ => fun
  | [d1, d2] => { results := [.lit (.bool false)], args := [d1, d2] }
  | _ => none }
def LabelTextsWrongFalsely : Prop := labelTextsRow.holds Tryd.pinned (OpenSpec.ofChange labelTextsWrong)

/- THE SECOND FORM. 'bulk': how many values and letters a reading holds, each counted each time it is reached (what is shared counts as often as it is met; a slice's spare places count too). A statement '..UptoSaid' is the law's where the arguments, and the package variables that the reading takes, are together of bulk at most 1048576: NARROWER than '..Said'. Prove '..Said' where nothing that the law and all that it calls make is longer than what came in: it says more and counts as full. Else prove '..UptoSaid'. A law counts once. -/
mutual
def uptoBulk {H : Type} : DataW H → Nat
  | .lit (.string bytes) => bytes.length + 1
  | .lit _ => 1
  | .nil => 1
  | .ptr d => uptoBulk d + 1
  | .slice elems spare => uptoBulkAll elems + uptoBulkAll spare + 1
  | .agg parts => uptoBulkAll parts + 1
  | .iface _ d => uptoBulk d + 1
  | .map entries => uptoBulkEntries entries + 1
  | .held _ => 1
def uptoBulkAll {H : Type} : List (DataW H) → Nat
  | [] => 0
  | d :: r => uptoBulk d + uptoBulkAll r
def uptoBulkEntries {H : Type} : List (Lit × DataW H) → Nat
  | [] => 0
  | x :: r => uptoBulkEntry x + uptoBulkEntries r
def uptoBulkEntry {H : Type} : Lit × DataW H → Nat
  | (.string bytes, d) => bytes.length + uptoBulk d + 1
  | (_, d) => uptoBulk d + 1
 end
def uptoSmall : (H : Type) → List (DataW H) → Bool := fun _ ds => decide (uptoBulkAll ds ≤ 1048576)
def OpenSpec.upto (s : _root_.Go.ChangeSpec) : _root_.Go.OpenSpec := { _root_.Go.OpenSpec.ofChange s with cond := some uptoSmall }

/-- 'gatehouselaw01.LabelMakes', WHERE WHAT IT READS IS OF BULK AT MOST 1048576: true; the input reads as it did. -/
def labelMakesUptoRow : OpenClaim := { program := "ytblhojadchbcnaadoor", sum := "03fc33ac971140cbd8b21409ea30dd2d07289ebd07e68cb816846a2fff357e3b", func := "gatehouse/gatehouselaw01.LabelMakes", spec := "labelMakes", unfollowed := true, recurses := true, named := ["internal/strconv.uint64pow10", "math/bits.deBruijn32tab", "math/bits.deBruijn64tab"], apart := false, laid := [("math/bits.deBruijn32tab", laid_math_bits_deBruijn32tab), ("math/bits.deBruijn64tab", laid_math_bits_deBruijn64tab), ("internal/strconv.uint64pow10", laid_internal_strconv_uint64pow10)], narrowed := true }
def LabelMakesUptoSaid : Prop := labelMakesUptoRow.holds Tryd.pinned (OpenSpec.upto labelMakesSpec)

/-- 'gatehouselaw01.LabelLooks', WHERE WHAT IT READS IS OF BULK AT MOST 1048576: true; the input reads as it did. -/
def labelLooksUptoRow : OpenClaim := { program := "ytblhojadchbcnaadoor", sum := "03fc33ac971140cbd8b21409ea30dd2d07289ebd07e68cb816846a2fff357e3b", func := "gatehouse/gatehouselaw01.LabelLooks", spec := "labelLooks", unfollowed := true, recurses := true, named := ["internal/strconv.uint64pow10", "math/bits.deBruijn32tab", "math/bits.deBruijn64tab"], apart := false, laid := [("math/bits.deBruijn32tab", laid_math_bits_deBruijn32tab), ("math/bits.deBruijn64tab", laid_math_bits_deBruijn64tab), ("internal/strconv.uint64pow10", laid_internal_strconv_uint64pow10)], narrowed := true }
def LabelLooksUptoSaid : Prop := labelLooksUptoRow.holds Tryd.pinned (OpenSpec.upto labelLooksSpec)

/-- 'gatehouselaw01.LabelOrders', WHERE WHAT IT READS IS OF BULK AT MOST 1048576: true; the input reads as it did. -/
def labelOrdersUptoRow : OpenClaim := { program := "ytblhojadchbcnaadoor", sum := "03fc33ac971140cbd8b21409ea30dd2d07289ebd07e68cb816846a2fff357e3b", func := "gatehouse/gatehouselaw01.LabelOrders", spec := "labelOrders", unfollowed := true, recurses := true, named := ["internal/strconv.uint64pow10", "math/bits.deBruijn32tab", "math/bits.deBruijn64tab"], apart := false, laid := [("math/bits.deBruijn32tab", laid_math_bits_deBruijn32tab), ("math/bits.deBruijn64tab", laid_math_bits_deBruijn64tab), ("internal/strconv.uint64pow10", laid_internal_strconv_uint64pow10)], narrowed := true }
def LabelOrdersUptoSaid : Prop := labelOrdersUptoRow.holds Tryd.pinned (OpenSpec.upto labelOrdersSpec)

/-- 'gatehouselaw01.LabelFlows', WHERE WHAT IT READS IS OF BULK AT MOST 1048576: true; the input reads as it did. -/
def labelFlowsUptoRow : OpenClaim := { program := "ytblhojadchbcnaadoor", sum := "03fc33ac971140cbd8b21409ea30dd2d07289ebd07e68cb816846a2fff357e3b", func := "gatehouse/gatehouselaw01.LabelFlows", spec := "labelFlows", unfollowed := true, recurses := true, named := ["internal/strconv.uint64pow10", "math/bits.deBruijn32tab", "math/bits.deBruijn64tab"], apart := false, laid := [("math/bits.deBruijn32tab", laid_math_bits_deBruijn32tab), ("math/bits.deBruijn64tab", laid_math_bits_deBruijn64tab), ("internal/strconv.uint64pow10", laid_internal_strconv_uint64pow10)], narrowed := true }
def LabelFlowsUptoSaid : Prop := labelFlowsUptoRow.holds Tryd.pinned (OpenSpec.upto labelFlowsSpec)

/-- 'gatehouselaw01.LabelCompares', WHERE WHAT IT READS IS OF BULK AT MOST 1048576: true; the input reads as it did. -/
def labelComparesUptoRow : OpenClaim := { program := "ytblhojadchbcnaadoor", sum := "03fc33ac971140cbd8b21409ea30dd2d07289ebd07e68cb816846a2fff357e3b", func := "gatehouse/gatehouselaw01.LabelCompares", spec := "labelCompares", unfollowed := true, recurses := true, named := ["internal/strconv.uint64pow10", "math/bits.deBruijn32tab", "math/bits.deBruijn64tab"], apart := false, laid := [("math/bits.deBruijn32tab", laid_math_bits_deBruijn32tab), ("math/bits.deBruijn64tab", laid_math_bits_deBruijn64tab), ("internal/strconv.uint64pow10", laid_internal_strconv_uint64pow10)], narrowed := true }
def LabelComparesUptoSaid : Prop := labelComparesUptoRow.holds Tryd.pinned (OpenSpec.upto labelComparesSpec)

/-- 'gatehouselaw01.LabelBounds', WHERE WHAT IT READS IS OF BULK AT MOST 1048576: true; the input reads as it did. -/
def labelBoundsUptoRow : OpenClaim := { program := "ytblhojadchbcnaadoor", sum := "03fc33ac971140cbd8b21409ea30dd2d07289ebd07e68cb816846a2fff357e3b", func := "gatehouse/gatehouselaw01.LabelBounds", spec := "labelBounds", unfollowed := true, recurses := true, named := ["internal/strconv.uint64pow10", "math/bits.deBruijn32tab", "math/bits.deBruijn64tab"], apart := false, laid := [("math/bits.deBruijn32tab", laid_math_bits_deBruijn32tab), ("math/bits.deBruijn64tab", laid_math_bits_deBruijn64tab), ("internal/strconv.uint64pow10", laid_internal_strconv_uint64pow10)], narrowed := true }
def LabelBoundsUptoSaid : Prop := labelBoundsUptoRow.holds Tryd.pinned (OpenSpec.upto labelBoundsSpec)

/-- 'gatehouselaw01.LabelBytes', WHERE WHAT IT READS IS OF BULK AT MOST 1048576: true; the input reads as it did. -/
def labelBytesUptoRow : OpenClaim := { program := "ytblhojadchbcnaadoor", sum := "03fc33ac971140cbd8b21409ea30dd2d07289ebd07e68cb816846a2fff357e3b", func := "gatehouse/gatehouselaw01.LabelBytes", spec := "labelBytes", unfollowed := true, recurses := true, named := ["internal/strconv.uint64pow10", "math/bits.deBruijn32tab", "math/bits.deBruijn64tab"], apart := false, laid := [("math/bits.deBruijn32tab", laid_math_bits_deBruijn32tab), ("math/bits.deBruijn64tab", laid_math_bits_deBruijn64tab), ("internal/strconv.uint64pow10", laid_internal_strconv_uint64pow10)], narrowed := true }
def LabelBytesUptoSaid : Prop := labelBytesUptoRow.holds Tryd.pinned (OpenSpec.upto labelBytesSpec)

/-- 'gatehouselaw01.LabelTurns', WHERE WHAT IT READS IS OF BULK AT MOST 1048576: true; the input reads as it did. -/
def labelTurnsUptoRow : OpenClaim := { program := "ytblhojadchbcnaadoor", sum := "03fc33ac971140cbd8b21409ea30dd2d07289ebd07e68cb816846a2fff357e3b", func := "gatehouse/gatehouselaw01.LabelTurns", spec := "labelTurns", unfollowed := true, recurses := true, named := ["internal/strconv.uint64pow10", "math/bits.deBruijn32tab", "math/bits.deBruijn64tab"], apart := false, laid := [("math/bits.deBruijn32tab", laid_math_bits_deBruijn32tab), ("math/bits.deBruijn64tab", laid_math_bits_deBruijn64tab), ("internal/strconv.uint64pow10", laid_internal_strconv_uint64pow10)], narrowed := true }
def LabelTurnsUptoSaid : Prop := labelTurnsUptoRow.holds Tryd.pinned (OpenSpec.upto labelTurnsSpec)

/-- 'gatehouselaw01.LabelForms', WHERE WHAT IT READS IS OF BULK AT MOST 1048576: true; the input reads as it did. -/
def labelFormsUptoRow : OpenClaim := { program := "ytblhojadchbcnaadoor", sum := "03fc33ac971140cbd8b21409ea30dd2d07289ebd07e68cb816846a2fff357e3b", func := "gatehouse/gatehouselaw01.LabelForms", spec := "labelForms", unfollowed := true, recurses := true, named := ["internal/strconv.uint64pow10", "math/bits.deBruijn32tab", "math/bits.deBruijn64tab"], apart := false, laid := [("math/bits.deBruijn32tab", laid_math_bits_deBruijn32tab), ("math/bits.deBruijn64tab", laid_math_bits_deBruijn64tab), ("internal/strconv.uint64pow10", laid_internal_strconv_uint64pow10)], narrowed := true }
def LabelFormsUptoSaid : Prop := labelFormsUptoRow.holds Tryd.pinned (OpenSpec.upto labelFormsSpec)

/-- 'gatehouselaw01.LabelTexts', WHERE WHAT IT READS IS OF BULK AT MOST 1048576: true; the input reads as it did. -/
def labelTextsUptoRow : OpenClaim := { program := "ytblhojadchbcnaadoor", sum := "03fc33ac971140cbd8b21409ea30dd2d07289ebd07e68cb816846a2fff357e3b", func := "gatehouse/gatehouselaw01.LabelTexts", spec := "labelTexts", unfollowed := true, recurses := true, named := ["internal/strconv.uint64pow10", "math/bits.deBruijn32tab", "math/bits.deBruijn64tab"], apart := false, laid := [("math/bits.deBruijn32tab", laid_math_bits_deBruijn32tab), ("math/bits.deBruijn64tab", laid_math_bits_deBruijn64tab), ("internal/strconv.uint64pow10", laid_internal_strconv_uint64pow10)], narrowed := true }
def LabelTextsUptoSaid : Prop := labelTextsUptoRow.holds Tryd.pinned (OpenSpec.upto labelTextsSpec)

end Rows
end Go.Proofs.YtblhojadchbcnaaDoor
