/- The closed facts of the program that all rows of this seat use; no condition. -/
import Derived.Test.YtblhojadchbcnaaDoorLc4
import Derived.Test.YtblhojadchbcnaaDoorGc4
import Derived.Test.YtblhojadchbcnaaDoorRows
import Derived.Test.YtblhojadchbcnaaDoorTie
import Derived.Test.YtblhojadchbcnaaDoorCards
import Derived.Deep.DeepLaidRun
import Derived.SevenTiedAt
namespace Go.Proofs.YtblhojadchbcnaaDoor
open Go.Proofs.YtblhojadchbcnaaDoor.Gx Go.RowKit Go.ChangeShapes Go.WideShapes
set_option maxRecDepth 100000
theorem own : ownKnob Tryd.prog.godebug = none := by kernel_rfl
theorem laidOut : laidOutB Tryd.prog = true := by kernel_rfl
abbrev labV : Value := .agg #[.int .i64 0, .slice none 0 0]
abbrev intV : Value := .int .i64 0
abbrev strV : Value := .string ⟨#[]⟩
abbrev rowV : Value := .slice none 0 0
def cellsOfD : DataW Unit → Array Value
  | .agg l => (l.map fun d => match d with
    | .lit x => x.value
    | _ => Go.undef).toArray
  | _ => #[]
noncomputable def laidAt (w : World) (p : String × DataW Unit) : World := { w with heap := w.heap.modify ((Tryd.prog.globalNamed p.1).getD 0) fun
  | .cells _ t fr => .cells (cellsOfD p.2) t fr
  | o => o }
noncomputable def laidWorld (os : Os) : World := Rows.labelMakesRow.laid.foldl laidAt (World.holding Tryd.prog os ⟨#[], #[], []⟩)
theorem laid_met (os : Os) (args : Array Value) : laidMet Tryd.prog Rows.labelMakesRow.laid ((laidWorld os).forCall (fun _ _ => 0) ⟨#[], args, []⟩).memory :=
  laidMet_of_run3 8 (by kernel_rfl) (by kernel_rfl) (by kernel_rfl)
end Go.Proofs.YtblhojadchbcnaaDoor
