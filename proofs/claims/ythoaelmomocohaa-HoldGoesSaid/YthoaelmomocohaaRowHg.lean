/- The row; no condition. -/
import Derived.Test.YthoaelmomocohaaRowAHg
import Derived.Test.YthoaelmomocohaaWcHg
namespace Go.Proofs.Ythoaelmomocohaa
open Go.Proofs.Ythoaelmomocohaa.Gx Go.RowKit Go.ChangeShapes Go.WideShapes
set_option maxRecDepth 100000
theorem holdGoes_lifted (os : Os) (started : os.Started) (H : Type) (enc : TypeId × Value → H) :
    ReturnsInHanded {} Try.checked os 5 .any (Rows.holdGoesSpec.pre6 enc Try.prog Try.f5 Rows.holdGoesRow.domain false) (Rows.holdGoesSpec.post enc Try.prog Try.f5 false true false false) := by
  refine returnsInHanded_of_change (C := Try.checked) own started (by kernel_rfl) Try.func5
    (ChangeSpec.witness6 (enc := enc) (C := Try.checked) false ⟨#[], #[rowV, intV, intV], []⟩ 8 (by kernel_rfl) (by kernel_rfl) (by kernel_rfl) (by kernel_rfl)) ?_
  intro W base args ds gs before hval hW _ _
  exact law_calls (P := Try.prog) (fn := Try.f5) (ts := [(.slice opT), i64, i64]) (rT := 4) laidOut 40 (by kernel_rfl) (by kernel_rfl) (by kernel_rfl) Try.underlying4 rfl
    (fun ds h => by match ds, h with | [a, b, c], _ => rfl) goes_ok hval hW
theorem holdGoes_holds : Rows.HoldGoesSaid :=
  OpenClaim.holds_of_wide 5 Try.f5 rfl rfl rfl rfl rfl rfl rfl ⟨rfl, rfl, rfl, rfl, rfl⟩ rfl rfl rfl rfl rfl (by kernel_rfl) Try.func5 (by kernel_rfl)
    (of_decide_eq_true (by kernel_rfl)) (by unfold Func.isWrapper; first | (rw [if_pos (by decide +kernel)]; kernel_rfl) | (rw [if_neg (by decide +kernel)]; exact ⟨rfl, rfl⟩))
    (fun os started H enc _ => holdGoes_lifted os started H enc)
end Go.Proofs.Ythoaelmomocohaa
