/- The closed facts of the program that all rows of this seat use; no condition. -/
import Derived.Test.YtlnclaggmjhbfaaGd6
import Derived.Test.YtlnclaggmjhbfaaLa6
import Derived.Test.YtlnclaggmjhbfaaRows
namespace Go.Proofs.Ytlnclaggmjhbfaa
open Go.Proofs.Ytlnclaggmjhbfaa.Gx Go.RowKit Go.ChangeShapes Go.WideShapes
set_option maxRecDepth 100000
theorem own : ownKnob Try.prog.godebug = none := by kernel_rfl
theorem laidOut : laidOutB Try.prog = true := by kernel_rfl
abbrev labV : Value := .agg #[.int .i64 0, .slice none 0 0]
abbrev intV : Value := .int .i64 0
abbrev rowV : Value := .slice none 0 0
end Go.Proofs.Ytlnclaggmjhbfaa
