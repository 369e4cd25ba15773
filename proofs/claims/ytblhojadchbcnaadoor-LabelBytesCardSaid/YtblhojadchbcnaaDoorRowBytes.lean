/- Whatever the input, the law LabelBytes answers true and leaves its input as it was, the program's listed variables as its text lays them; no condition. -/
import Derived.Test.YtblhojadchbcnaaDoorRowA4
import Derived.Test.YtblhojadchbcnaaDoorLf4
namespace Go.Proofs.YtblhojadchbcnaaDoor
open Go.Proofs.YtblhojadchbcnaaDoor.Gx Go.RowKit Go.ChangeShapes Go.WideShapes
set_option maxRecDepth 100000
theorem labelBytes_lifted (os : Os) (started : os.Started) (H : Type) (enc : TypeId × Value → H) :
    ReturnsInHanded {} Tryd.checked os 9 .any (fun w args => (Rows.labelBytesSpec.pre enc Tryd.prog Tryd.f9 Rows.labelBytesRow.domain false w args ∧ laidMet Tryd.prog Rows.labelBytesRow.laid w) ∧ sizedMet enc Tryd.prog Tryd.f9 (OpenSpec.ofChange Rows.labelBytesSpec) false w args)
      (Rows.labelBytesSpec.post enc Tryd.prog Tryd.f9 false true false false) := by
  refine returnsInHanded_of_change_and (C := Tryd.checked) (X := fun w _ => laidMet Tryd.prog Rows.labelBytesRow.laid w) (fun _ _ _ hh h => h.of_heap hh) own started (by kernel_rfl) Tryd.func9
    (ChangeSpec.witness_at (enc := enc) (C := Tryd.checked) (os := os) (X := fun w _ => laidMet Tryd.prog Rows.labelBytesRow.laid w) false (laidWorld os) #[labV, strV] 8 rfl (by kernel_rfl) (by kernel_rfl) (by kernel_rfl) (by kernel_rfl) (by kernel_rfl) (laid_met os _)) ?_
  intro W base args ds gs before hval hW _ _ _ _
  exact law_calls (P := Tryd.prog) (fn := Tryd.f9) (ts := [lab, .str]) (rT := 4) laidOut 40 (by kernel_rfl) (by kernel_rfl) (by kernel_rfl) Tryd.underlying4 rfl
    (fun ds h => by match ds, h with | [a, b], _ => rfl) bytesLaw_ok hval hW
theorem labelBytes_holds : Rows.LabelBytesSaid :=
  OpenClaim.holds_of_wide 9 Tryd.f9 rfl rfl rfl rfl rfl rfl rfl ⟨rfl, rfl, rfl, rfl, rfl⟩ rfl rfl rfl rfl rfl (by kernel_rfl) Tryd.func9 (by kernel_rfl)
    (of_decide_eq_true (by kernel_rfl)) (by unfold Func.isWrapper; first | (rw [if_pos (by decide +kernel)]; kernel_rfl) | (rw [if_neg (by decide +kernel)]; exact ⟨rfl, rfl⟩))
    (fun os started H enc _ => labelBytes_lifted os started H enc)
theorem labelBytes_card : Rows.LabelBytesCardSaid :=
  Claim7.holds_tied_plain_at .later [] [.data, .data, .data] true (true, "f81708408e2f421dcfe2b48c58ffcdec49db95c0fa2c647506f06a8f10cae531") false
    labelBytes_holds (fun _ h => by cases h) (by kernel_rfl) (fun _ h => by cases h) labelBytes_row_tie rfl ⟨rfl, rfl⟩ (by kernel_rfl) rfl
    (fun f fn hf hfn => by
      obtain rfl : f = 9 := Option.some.inj ((show Tryd.prog.funcNamed Rows.labelBytesRow.func = some 9 by kernel_rfl).symm.trans hf) |>.symm
      obtain rfl : fn = Tryd.f9 := (Option.some.inj (Tryd.func9.symm.trans hfn)).symm
      exact ⟨by kernel_rfl, fun j t ht => by
        rw [Tryd.params9] at ht
        have hj : t ∈ [27, 9] := by
          have := Array.mem_of_getElem? ht
          simpa using this
        have hall : ∀ t ∈ [27, 9], Tryd.prog.wantsStandIn t = false := by
          intro t ht
          have : ([27, 9].all fun t => !Tryd.prog.wantsStandIn t) = true := by kernel_rfl
          have := List.all_eq_true.1 this t ht
          simpa using this
        exact hall t hj⟩)
    (by kernel_rfl)
end Go.Proofs.YtblhojadchbcnaaDoor
