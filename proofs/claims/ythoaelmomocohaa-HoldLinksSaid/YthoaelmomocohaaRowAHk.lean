/- The closed facts of the program that the row uses; no condition. -/
import Derived.Test.YthoaelmomocohaaGdHk
import Derived.Test.YthoaelmomocohaaWaHk
import Derived.Test.YthoaelmomocohaaRows
namespace Go.Proofs.Ythoaelmomocohaa
open Go.Proofs.Ythoaelmomocohaa.Gx Go.RowKit Go.ChangeShapes Go.WideShapes
set_option maxRecDepth 100000
theorem own : ownKnob Try.prog.godebug = none := by kernel_rfl
theorem laidOut : laidOutB Try.prog = true := by kernel_rfl
abbrev labV : Value := .agg #[.int .i64 0, .slice none 0 0]
abbrev intV : Value := .int .i64 0
abbrev rowV : Value := .slice none 0 0
end Go.Proofs.Ythoaelmomocohaa
