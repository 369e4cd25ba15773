/- The row; no condition. -/
import Derived.Test.YtfdcmbaoekjkgaaRowAPlay
import Derived.Test.YtfdcmbaoekjkgaaWbPlay
namespace Go.Proofs.Ytfdcmbaoekjkgaa
open Go.Proofs.Ytfdcmbaoekjkgaa.Gx Go.RowKit Go.ChangeShapes Go.WideShapes
set_option maxRecDepth 100000
theorem waitPlay_lifted (os : Os) (started : os.Started) (H : Type) (enc : TypeId × Value → H) :
    ReturnsInHanded {} Try.checked os 6 .any (Rows.waitPlaySpec.pre6 enc Try.prog Try.f6 Rows.waitPlayRow.domain false) (Rows.waitPlaySpec.post enc Try.prog Try.f6 false true false false) := by
  refine returnsInHanded_of_change (C := Try.checked) own started (by kernel_rfl) Try.func6
    (ChangeSpec.witness6 (enc := enc) (C := Try.checked) false ⟨#[], #[rowV], []⟩ 8 (by kernel_rfl) (by kernel_rfl) (by kernel_rfl) (by kernel_rfl)) ?_
  intro W base args ds gs before hval hW _ _
  exact law_calls (P := Try.prog) (fn := Try.f6) (ts := [(.slice opT)]) (rT := 4) laidOut 40 (by kernel_rfl) (by kernel_rfl) (by kernel_rfl) Try.underlying4 rfl
    (fun ds h => by match ds, h with | [a], _ => rfl) play_ok hval hW
theorem waitPlay_holds : Rows.WaitPlaySaid :=
  OpenClaim.holds_of_wide 6 Try.f6 rfl rfl rfl rfl rfl rfl rfl ⟨rfl, rfl, rfl, rfl, rfl⟩ rfl rfl rfl rfl rfl (by kernel_rfl) Try.func6 (by kernel_rfl)
    (of_decide_eq_true (by kernel_rfl)) (by unfold Func.isWrapper; first | (rw [if_pos (by decide +kernel)]; kernel_rfl) | (rw [if_neg (by decide +kernel)]; exact ⟨rfl, rfl⟩))
    (fun os started H enc _ => waitPlay_lifted os started H enc)
end Go.Proofs.Ytfdcmbaoekjkgaa
