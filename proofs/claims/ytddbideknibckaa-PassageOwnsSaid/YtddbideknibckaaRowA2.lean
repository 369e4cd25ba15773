/- The load's closed facts that all rows of this seat use; no condition. -/
import Derived.Test.YtddbideknibckaaPc2
import Derived.Test.YtddbideknibckaaGc2
import Derived.Test.YtddbideknibckaaRows
namespace Go.Proofs.Ytddbideknibckaa
open Go.Proofs.Ytddbideknibckaa.Gx Go.RowKit Go.ChangeShapes Go.WideShapes
set_option maxRecDepth 100000
theorem own : ownKnob Try.prog.godebug = none := by kernel_rfl
theorem laidOut : laidOutB Try.prog = true := by kernel_rfl
abbrev labV : Value := .agg #[.int .i64 0, .slice none 0 0]
abbrev thrV : Value := .agg #[.int .i64 0, .slice none 0 0, .int .i64 0, .slice none 0 0]
abbrev intV : Value := .int .i64 0
end Go.Proofs.Ytddbideknibckaa
