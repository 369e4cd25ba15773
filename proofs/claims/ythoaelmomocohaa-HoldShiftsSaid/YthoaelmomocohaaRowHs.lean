/- The row; no condition. -/
import Derived.Test.YthoaelmomocohaaRowAHs
import Derived.Test.YthoaelmomocohaaWbHs
namespace Go.Proofs.Ythoaelmomocohaa
open Go.Proofs.Ythoaelmomocohaa.Gx Go.RowKit Go.ChangeShapes Go.WideShapes
set_option maxRecDepth 100000
theorem holdShifts_lifted (os : Os) (started : os.Started) (H : Type) (enc : TypeId × Value → H) :
    ReturnsInHanded {} Try.checked os 4 .any (Rows.holdShiftsSpec.pre6 enc Try.prog Try.f4 Rows.holdShiftsRow.domain false) (Rows.holdShiftsSpec.post enc Try.prog Try.f4 false true false false) := by
  refine returnsInHanded_of_change (C := Try.checked) own started (by kernel_rfl) Try.func4
    (ChangeSpec.witness6 (enc := enc) (C := Try.checked) false ⟨#[], #[intV, intV, rowV], []⟩ 8 (by kernel_rfl) (by kernel_rfl) (by kernel_rfl) (by kernel_rfl)) ?_
  intro W base args ds gs before hval hW _ _
  exact law_calls (P := Try.prog) (fn := Try.f4) (ts := [i64, i64, ints]) (rT := 4) laidOut 40 (by kernel_rfl) (by kernel_rfl) (by kernel_rfl) Try.underlying4 rfl
    (fun ds h => by match ds, h with | [a, b, c], _ => rfl) shifts_ok hval hW
theorem holdShifts_holds : Rows.HoldShiftsSaid :=
  OpenClaim.holds_of_wide 4 Try.f4 rfl rfl rfl rfl rfl rfl rfl ⟨rfl, rfl, rfl, rfl, rfl⟩ rfl rfl rfl rfl rfl (by kernel_rfl) Try.func4 (by kernel_rfl)
    (of_decide_eq_true (by kernel_rfl)) (by unfold Func.isWrapper; first | (rw [if_pos (by decide +kernel)]; kernel_rfl) | (rw [if_neg (by decide +kernel)]; exact ⟨rfl, rfl⟩))
    (fun os started H enc _ => holdShifts_lifted os started H enc)
end Go.Proofs.Ythoaelmomocohaa
