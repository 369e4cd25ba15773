/- Whatever the input, the law 'PassageTakes' answers true and leaves its input as it was; no condition. -/
import Derived.Test.YtddbideknibckaaRowA
namespace Go.Proofs.Ytddbideknibckaa
open Go.Proofs.Ytddbideknibckaa.Gx Go.RowKit Go.ChangeShapes Go.WideShapes
set_option maxRecDepth 100000
theorem passageTakes_lifted (os : Os) (started : os.Started) (H : Type) (enc : TypeId × Value → H) :
    ReturnsInHanded {} Try.checked os 8 .any (Rows.passageTakesSpec.pre6 enc Try.prog Try.f8 Rows.passageTakesRow.domain false) (Rows.passageTakesSpec.post enc Try.prog Try.f8 false true false false) := by
  refine returnsInHanded_of_change (C := Try.checked) own started (by kernel_rfl) Try.func8
    (ChangeSpec.witness6 (enc := enc) (C := Try.checked) false ⟨#[], #[thrV, thrV], []⟩ 8 (by kernel_rfl) (by kernel_rfl) (by kernel_rfl) (by kernel_rfl)) ?_
  intro W base args ds gs before hval hW _ _
  exact law_calls (P := Try.prog) (fn := Try.f8) (ts := [thr, thr]) (rT := 4) laidOut 40 (by kernel_rfl) (by kernel_rfl) (by kernel_rfl) Try.underlying4 rfl
    (fun ds h => by match ds, h with | [a, b], _ => rfl) takes_ok hval hW
theorem passageTakes_holds : Rows.PassageTakesSaid :=
  OpenClaim.holds_of_wide 8 Try.f8 rfl rfl rfl rfl rfl rfl rfl ⟨rfl, rfl, rfl, rfl, rfl⟩ rfl rfl rfl rfl rfl (by kernel_rfl) Try.func8 (by kernel_rfl)
    (of_decide_eq_true (by kernel_rfl)) (by unfold Func.isWrapper; first | (rw [if_pos (by decide +kernel)]; kernel_rfl) | (rw [if_neg (by decide +kernel)]; exact ⟨rfl, rfl⟩))
    (fun os started H enc _ => passageTakes_lifted os started H enc)
end Go.Proofs.Ytddbideknibckaa
