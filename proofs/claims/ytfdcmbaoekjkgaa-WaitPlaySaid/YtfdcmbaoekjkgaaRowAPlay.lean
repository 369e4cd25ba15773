/- The closed facts of the program that the row uses; no condition. -/
import Derived.Test.YtfdcmbaoekjkgaaGdPlay
import Derived.Test.YtfdcmbaoekjkgaaGePlay
import Derived.Test.YtfdcmbaoekjkgaaWaPlay
import Derived.Test.YtfdcmbaoekjkgaaRows
namespace Go.Proofs.Ytfdcmbaoekjkgaa
open Go.Proofs.Ytfdcmbaoekjkgaa.Gx Go.RowKit Go.ChangeShapes Go.WideShapes
set_option maxRecDepth 100000
theorem own : ownKnob Try.prog.godebug = none := by kernel_rfl
theorem laidOut : laidOutB Try.prog = true := by kernel_rfl
abbrev intV : Value := .int .i64 0
abbrev rowV : Value := .slice none 0 0
end Go.Proofs.Ytfdcmbaoekjkgaa
