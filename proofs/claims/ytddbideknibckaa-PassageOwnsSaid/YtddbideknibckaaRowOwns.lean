/- Whatever the input, the law 'PassageOwns' answers true and leaves its input as it was; no condition. -/
import Derived.Test.YtddbideknibckaaRowA2
import Derived.Test.YtddbideknibckaaPd2
namespace Go.Proofs.Ytddbideknibckaa
open Go.Proofs.Ytddbideknibckaa.Gx Go.RowKit Go.ChangeShapes Go.WideShapes
set_option maxRecDepth 100000
theorem passageOwns_lifted (os : Os) (started : os.Started) (H : Type) (enc : TypeId × Value → H) :
    ReturnsInHanded {} Try.checked os 9 .any (Rows.passageOwnsSpec.pre6 enc Try.prog Try.f9 Rows.passageOwnsRow.domain false) (Rows.passageOwnsSpec.post enc Try.prog Try.f9 false true false false) := by
  refine returnsInHanded_of_change (C := Try.checked) own started (by kernel_rfl) Try.func9
    (ChangeSpec.witness6 (enc := enc) (C := Try.checked) false ⟨#[], #[thrV, labV, intV], []⟩ 8 (by kernel_rfl) (by kernel_rfl) (by kernel_rfl) (by kernel_rfl)) ?_
  intro W base args ds gs before hval hW _ _
  exact law_calls (P := Try.prog) (fn := Try.f9) (ts := [thr, lab, i64]) (rT := 4) laidOut 40 (by kernel_rfl) (by kernel_rfl) (by kernel_rfl) Try.underlying4 rfl
    (fun ds h => by match ds, h with | [a, b, c], _ => rfl) owns_ok hval hW
theorem passageOwns_holds : Rows.PassageOwnsSaid :=
  OpenClaim.holds_of_wide 9 Try.f9 rfl rfl rfl rfl rfl rfl rfl ⟨rfl, rfl, rfl, rfl, rfl⟩ rfl rfl rfl rfl rfl (by kernel_rfl) Try.func9 (by kernel_rfl)
    (of_decide_eq_true (by kernel_rfl)) (by unfold Func.isWrapper; first | (rw [if_pos (by decide +kernel)]; kernel_rfl) | (rw [if_neg (by decide +kernel)]; exact ⟨rfl, rfl⟩))
    (fun os started H enc _ => passageOwns_lifted os started H enc)
end Go.Proofs.Ytddbideknibckaa
