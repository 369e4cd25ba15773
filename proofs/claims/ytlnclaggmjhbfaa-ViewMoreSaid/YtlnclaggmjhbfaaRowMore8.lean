/- ViewMore; no condition. -/
import Derived.Test.YtlnclaggmjhbfaaRowA8
import Derived.Test.YtlnclaggmjhbfaaVc8
import Derived.SizedLaws
namespace Go.Proofs.Ytlnclaggmjhbfaa
open Go.Proofs.Ytlnclaggmjhbfaa.Gx Go.RowKit Go.ChangeShapes Go.WideShapes
set_option maxRecDepth 100000
theorem reach_is : reachBytes = 140737488351232 := rfl
theorem fits_of {o : Obj} (h : Sz objT o) : fitsO o = true := by
  obtain ⟨⟨_, _, _, _, _, _, h1, _⟩, ⟨h2, _⟩, _, ⟨h3, _⟩, ⟨_, h4, _⟩, _, _, _, _, _, _, ⟨h5, _⟩, _, _⟩ := h
  rw [reach_is] at h1 h2 h3 h4 h5
  simp only [fitsO, fitsI, fitsE, fitsM, Bool.and_eq_true, decide_eq_true_eq]
  have w1 : wT i64 = 8 := rfl
  have w2 : wT ent = 16 := rfl
  have w3 : wT mapT = 48 := rfl
  rw [w2] at h1 h4
  rw [w1] at h2 h5
  rw [w3] at h3
  exact ⟨Nat.le_trans h2 (by decide), Nat.le_trans h1 (by decide), Nat.le_trans h3 (by decide), Nat.le_trans h4 (by decide), Nat.le_trans h5 (by decide)⟩
theorem pre_of {d : List Obj} (h : Sz (.slice objT) d) : preM d = true := by
  cases hf : fewD d with
  | false => simp [preM, hf]
  | true =>
    have hs := few_small hf
    have : seeB d = true := by
      simp only [seeB, Bool.and_eq_true, List.all_eq_true]
      refine ⟨hs, fun o ho => ?_⟩
      obtain ⟨i, hi⟩ := List.getElem?_of_mem ho
      exact fits_of (h.2 i o hi)
    simp [preM, this]
theorem viewMore_lifted (os : Os) (started : os.Started) (H : Type) (enc : TypeId × Value → H) :
    ReturnsInHanded {} Try.checked os 6 .any (Rows.viewMoreSpec.pre6 enc Try.prog Try.f6 Rows.viewMoreRow.domain false) (Rows.viewMoreSpec.post enc Try.prog Try.f6 false true false false) := by
  refine returnsInHanded_of_change_sized (C := Try.checked) own started (by kernel_rfl) Try.func6
    (ChangeSpec.witness6 (enc := enc) (C := Try.checked) false ⟨#[], #[rowV, intV, .agg #[.int .i64 0, .slice none 0 0, .int .i64 0, .slice none 0 0]], []⟩ 8 (by kernel_rfl) (by kernel_rfl) (by kernel_rfl) (by kernel_rfl)) ?_
  intro W base args ds gs before hval hW _ hsz _
  have hg : gs = [] := by
    obtain ⟨p, q, hA, hV, _⟩ := hW
    have e : Rows.viewMoreSpec.vars = [] := rfl
    rw [e] at hV
    exact (trodVars_none hV).1
  subst hg
  have hw : (DataW.weightsEach Try.prog Try.f6.params.toList ds).all (· ≤ reachBytes) = true := by
    have e : DataSpec.varTypes Try.checked.prog Rows.viewMoreSpec.plain = [] := rfl
    rw [e, List.append_nil, List.append_nil] at hsz
    exact hsz
  exact law_callsS (P := Try.prog) (fn := Try.f6) (ts := [(.slice objT), i64, .pair lab lab]) (rT := 4) laidOut 40 (by kernel_rfl) (by kernel_rfl) (by kernel_rfl) Try.underlying4 rfl
    (fun ds h => by match ds, h with | [a, b, c], _ => rfl) moreLaw_ok hval hW (fun x hx => pre_of (hx hw).1)
theorem viewMore_holds : Rows.ViewMoreSaid :=
  OpenClaim.holds_of_wide 6 Try.f6 rfl rfl rfl rfl rfl rfl rfl ⟨rfl, rfl, rfl, rfl, rfl⟩ rfl rfl rfl rfl rfl (by kernel_rfl) Try.func6 (by kernel_rfl)
    (of_decide_eq_true (by kernel_rfl)) (by unfold Func.isWrapper; first | (rw [if_pos (by decide +kernel)]; kernel_rfl) | (rw [if_neg (by decide +kernel)]; exact ⟨rfl, rfl⟩))
    (fun os started H enc _ => viewMore_lifted os started H enc)
end Go.Proofs.Ytlnclaggmjhbfaa
