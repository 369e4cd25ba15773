/- The functions of the layer of labels and of its reference, one by one: what each gives; conditions: lengths below a million. -/
import Derived.Test.YtblhojadchbcnaaDoorGc4
import Derived.Test.YtblhojadchbcnaaDoorPa4
import Derived.Test.YtblhojadchbcnaaDoorProg
namespace Go.Proofs.YtblhojadchbcnaaDoor
open Go.Proofs.YtblhojadchbcnaaDoor.Gx
set_option linter.unusedSimpArgs false
set_option linter.unusedVariables false
abbrev i64 : Ty := .int .i64
abbrev ent : Ty := .pair i64 i64
abbrev lab : Ty := .pair i64 (.slice ent)

noncomputable abbrev PP : Program := Tryd.prog
noncomputable def c17 : Code := Tryd.f17.body.getD .skip
noncomputable def c23 : Code := Tryd.f23.body.getD .skip
noncomputable def c26 : Code := Tryd.f26.body.getD .skip
noncomputable def c58 : Code := Tryd.f58.body.getD .skip
noncomputable def c44 : Code := Tryd.f44.body.getD .skip
noncomputable def c31 : Code := Tryd.f31.body.getD .skip
noncomputable def c37 : Code := Tryd.f37.body.getD .skip
noncomputable def c16 : Code := Tryd.f16.body.getD .skip
noncomputable def c40 : Code := Tryd.f40.body.getD .skip
noncomputable def c20 : Code := Tryd.f20.body.getD .skip
noncomputable def c22 : Code := Tryd.f22.body.getD .skip
noncomputable def c25 : Code := Tryd.f25.body.getD .skip
noncomputable def c21 : Code := Tryd.f21.body.getD .skip
noncomputable def c62 : Code := Tryd.f62.body.getD .skip
noncomputable def c43 : Code := Tryd.f43.body.getD .skip
noncomputable def c41 : Code := Tryd.f41.body.getD .skip
noncomputable def c69 : Code := Tryd.f69.body.getD .skip
noncomputable def c42 : Code := Tryd.f42.body.getD .skip
noncomputable def c35 : Code := Tryd.f35.body.getD .skip
noncomputable def c57 : Code := Tryd.f57.body.getD .skip
noncomputable def c36 : Code := Tryd.f36.body.getD .skip
noncomputable def c27 : Code := Tryd.f27.body.getD .skip
noncomputable def c24 : Code := Tryd.f24.body.getD .skip
noncomputable def c59 : Code := Tryd.f59.body.getD .skip
noncomputable def c56 : Code := Tryd.f56.body.getD .skip
noncomputable def c18 : Code := Tryd.f18.body.getD .skip
noncomputable def c61 : Code := Tryd.f61.body.getD .skip
noncomputable def c63 : Code := Tryd.f63.body.getD .skip
noncomputable def c19 : Code := Tryd.f19.body.getD .skip
noncomputable def c39 : Code := Tryd.f39.body.getD .skip
noncomputable def c70 : Code := Tryd.f70.body.getD .skip
noncomputable def c67 : Code := Tryd.f67.body.getD .skip
noncomputable def c49 : Code := Tryd.f49.body.getD .skip
noncomputable def c68 : Code := Tryd.f68.body.getD .skip
noncomputable def c14 : Code := Tryd.f14.body.getD .skip
noncomputable def c60 : Code := Tryd.f60.body.getD .skip
noncomputable def c64 : Code := Tryd.f64.body.getD .skip
noncomputable def c65 : Code := Tryd.f65.body.getD .skip
noncomputable def c78 : Code := Tryd.f78.body.getD .skip
noncomputable def c79 : Code := Tryd.f79.body.getD .skip
noncomputable def c81 : Code := Tryd.f81.body.getD .skip
noncomputable def c82 : Code := Tryd.f82.body.getD .skip
noncomputable def c80 : Code := Tryd.f80.body.getD .skip
noncomputable def c48 : Code := Tryd.f48.body.getD .skip
noncomputable def c50 : Code := Tryd.f50.body.getD .skip
noncomputable def c51 : Code := Tryd.f51.body.getD .skip
noncomputable def c52 : Code := Tryd.f52.body.getD .skip
noncomputable def c53 : Code := Tryd.f53.body.getD .skip
theorem mixed : PP.follows .mixedOrders = true := by rfl
end Go.Proofs.YtblhojadchbcnaaDoor
namespace Go.Proofs.YtblhojadchbcnaaDoor
open Go.Proofs.YtblhojadchbcnaaDoor.Gx
set_option maxRecDepth 100000
set_option maxHeartbeats 0
def lvLoop (a b : Lab) : List (Nat × (St → Option LoopSpec)) :=
  [(1, fun _ => some { α := Nat × Nat, inv := fun x => (x.1 ≤ a.2.length ∧ x.2 ≤ b.2.length) ∧ (levL a b x.1 x.2).all (fun x => decide (x.2.1 ≤ x.2.2)) = (levL a b 0 0).all (fun x => decide (x.2.1 ≤ x.2.2)), ov := fun x => [(4, .int .i64 (x.1 : Int)), (5, .int .i64 (x.2 : Int))], rov := fun _ => [], meas := fun x => a.2.length + b.2.length - x.1 - x.2 })]
noncomputable def eLeq (a b : Lab) : Env := env PP [] [⟨61, inl PP (env PP [] [] [] [] []) Tryd.f61 c61, ⟨rfl, inl_ok (env_ok ..) rfl mixed rfl rfl⟩⟩]
  [⟨78, inlY PP (env PP [] [] [] [] (lvLoop a b)) Tryd.f78 c78, ⟨rfl, inlY_ok (env_ok ..) mixed rfl rfl⟩⟩] [] []
theorem leq_vc (a b : Lab) : fvc PP (eLeq a b) Tryd.f22 c22 (ofArgs [lab, lab] (a, b, ())) St0 (gives [.bool] (leqM a b, ())) = (
  (decide (a.fst > b.fst) = true → false = leqM a b ∧ True) ∧ (decide (a.fst > b.fst) = false → ∃ (x0 : Nat × Nat), ((x0.fst ≤ a.snd.length ∧ x0.snd ≤ b.snd.length) ∧ ((levL a b x0.fst x0.snd).all fun (x : Int × Int × 
  Int) => decide (x.snd.fst ≤ x.snd.snd)) = (levL a b (0 : Nat) (0 : Nat)).all fun (x : Int × Int × Int) => decide (x.snd.fst ≤ x.snd.snd)) ∧ ((((True ∧ True ∧ True) ∧ false = false ∧ True ∧ True ∧ True ∧ (a.fst = a.fst 
  ∧ a.snd = a.snd ∧ True) ∧ (b.fst = b.fst ∧ b.snd = b.snd ∧ True) ∧ True) ∧ True ∧ True) ∧ ((0 : Int) = (↑x0.fst : Int) ∧ (0 : Int) = (↑x0.snd : Int) ∧ True ∧ True ∧ True ∧ True) ∧ (a.fst = a.fst ∧ a.snd = a.snd ∧ True) 
  ∧ (b.fst = b.fst ∧ b.snd = b.snd ∧ True) ∧ (false = false ∧ True) ∧ (a.fst = a.fst ∧ a.snd = a.snd ∧ True) ∧ (b.fst = b.fst ∧ b.snd = b.snd ∧ True) ∧ True ∧ ((True ∧ True ∧ True) ∧ false = false ∧ True ∧ True ∧ True ∧ 
  (a.fst = a.fst ∧ a.snd = a.snd ∧ True) ∧ (b.fst = b.fst ∧ b.snd = b.snd ∧ True) ∧ True) ∧ True) ∧ ∀ (x : Nat × Nat), ((x.fst ≤ a.snd.length ∧ x.snd ≤ b.snd.length) ∧ ((levL a b x.fst x.snd).all fun (x : Int × Int × 
  Int) => decide (x.snd.fst ≤ x.snd.snd)) = (levL a b (0 : Nat) (0 : Nat)).all fun (x : Int × Int × Int) => decide (x.snd.fst ≤ x.snd.snd)) → ∃ (v : Bool), (a.snd.length ≤ maxLen → (decide ((↑x.fst : Int) < 
  (↑a.snd.length : Int)) = false → b.snd.length ≤ maxLen → decide ((↑x.snd : Int) < (↑b.snd.length : Int)) = v) ∧ (decide ((↑x.fst : Int) < (↑a.snd.length : Int)) = !false → true = v)) ∧ (v = true → ∃ (v : Bool), 
  ((decide ((↑x.snd : Int) ≥ (↑b.snd.length : Int)) = false → (decide ((↑x.fst : Int) < (↑a.snd.length : Int)) = true → ((0 : Int) ≤ (↑x.fst : Int) ∧ (↑x.fst : Int) < (↑a.snd.length : Int)) ∧ ∀ (y : Int × Int), 
  a.snd[(↑x.fst : Int).toNat]? = some y → ((0 : Int) ≤ (↑x.snd : Int) ∧ (↑x.snd : Int) < (↑b.snd.length : Int)) ∧ ∀ (y_1 : Int × Int), b.snd[(↑x.snd : Int).toNat]? = some y_1 → decide (y.fst ≤ y_1.fst) = v) ∧ (decide 
  ((↑x.fst : Int) < (↑a.snd.length : Int)) = !true → false = v)) ∧ (decide ((↑x.snd : Int) ≥ (↑b.snd.length : Int)) = !false → true = v)) ∧ ∃ (v_1 : Bool), ((decide ((↑x.fst : Int) ≥ (↑a.snd.length : Int)) = false → 
  (decide ((↑x.snd : Int) < (↑b.snd.length : Int)) = true → ((0 : Int) ≤ (↑x.snd : Int) ∧ (↑x.snd : Int) < (↑b.snd.length : Int)) ∧ ∀ (y : Int × Int), b.snd[(↑x.snd : Int).toNat]? = some y → ((0 : Int) ≤ (↑x.fst : Int) ∧ 
  (↑x.fst : Int) < (↑a.snd.length : Int)) ∧ ∀ (y_1 : Int × Int), a.snd[(↑x.fst : Int).toNat]? = some y_1 → decide (y.fst ≤ y_1.fst) = v_1) ∧ (decide ((↑x.snd : Int) < (↑b.snd.length : Int)) = !true → false = v_1)) ∧ 
  (decide ((↑x.fst : Int) ≥ (↑a.snd.length : Int)) = !false → true = v_1)) ∧ (v = true → ((0 : Int) ≤ (↑x.fst : Int) ∧ (↑x.fst : Int) < (↑a.snd.length : Int)) ∧ ∀ (y : Int × Int), a.snd[(↑x.fst : Int).toNat]? = some y → 
  (v_1 = true → ((0 : Int) ≤ (↑x.snd : Int) ∧ (↑x.snd : Int) < (↑b.snd.length : Int)) ∧ ∀ (y_1 : Int × Int), b.snd[(↑x.snd : Int).toNat]? = some y_1 → ((0 : Int) ≤ (0 : Int) ∧ (0 : Int) < (↑(2 : Nat) : Int)) ∧ ((0 : Int) 
  ≤ (1 : Int) ∧ (1 : Int) < (↑(2 : Nat) : Int)) ∧ (decide (y.snd > y_1.snd) = true → false = leqM a b ∧ True) ∧ (decide (y.snd > y_1.snd) = false → ∃ (x' : Nat × Nat), ((x'.fst ≤ a.snd.length ∧ x'.snd ≤ b.snd.length) ∧ 
  ((levL a b x'.fst x'.snd).all fun (x : Int × Int × Int) => decide (x.snd.fst ≤ x.snd.snd)) = (levL a b (0 : Nat) (0 : Nat)).all fun (x : Int × Int × Int) => decide (x.snd.fst ≤ x.snd.snd)) ∧ a.snd.length + b.snd.length 
  - x'.fst - x'.snd < a.snd.length + b.snd.length - x.fst - x.snd ∧ (((True ∧ True ∧ True) ∧ false = false ∧ True ∧ True ∧ True ∧ (a.fst = a.fst ∧ a.snd = a.snd ∧ True) ∧ (b.fst = b.fst ∧ b.snd = b.snd ∧ True) ∧ True) ∧ 
  True ∧ True) ∧ (IntKind.i64.wrap ((↑x.fst : Int) + (1 : Int)) = (↑x'.fst : Int) ∧ IntKind.i64.wrap ((↑x.snd : Int) + (1 : Int)) = (↑x'.snd : Int) ∧ True ∧ True ∧ True ∧ True) ∧ (a.fst = a.fst ∧ a.snd = a.snd ∧ True) ∧ 
  (b.fst = b.fst ∧ b.snd = b.snd ∧ True) ∧ (false = false ∧ True) ∧ (a.fst = a.fst ∧ a.snd = a.snd ∧ True) ∧ (b.fst = b.fst ∧ b.snd = b.snd ∧ True) ∧ True ∧ ((True ∧ True ∧ True) ∧ false = false ∧ True ∧ True ∧ True ∧ 
  (a.fst = a.fst ∧ a.snd = a.snd ∧ True) ∧ (b.fst = b.fst ∧ b.snd = b.snd ∧ True) ∧ True) ∧ True)) ∧ (v_1 = false → ((0 : Int) ≤ (0 : Int) ∧ (0 : Int) < (↑(2 : Nat) : Int)) ∧ ((0 : Int) ≤ (1 : Int) ∧ (1 : Int) < (↑(2 : 
  Nat) : Int)) ∧ (decide (y.snd > b.fst) = true → false = leqM a b ∧ True) ∧ (decide (y.snd > b.fst) = false → ∃ (x' : Nat × Nat), ((x'.fst ≤ a.snd.length ∧ x'.snd ≤ b.snd.length) ∧ ((levL a b x'.fst x'.snd).all fun (x : 
  Int × Int × Int) => decide (x.snd.fst ≤ x.snd.snd)) = (levL a b (0 : Nat) (0 : Nat)).all fun (x : Int × Int × Int) => decide (x.snd.fst ≤ x.snd.snd)) ∧ a.snd.length + b.snd.length - x'.fst - x'.snd < a.snd.length + 
  b.snd.length - x.fst - x.snd ∧ (((True ∧ True ∧ True) ∧ false = false ∧ True ∧ True ∧ True ∧ (a.fst = a.fst ∧ a.snd = a.snd ∧ True) ∧ (b.fst = b.fst ∧ b.snd = b.snd ∧ True) ∧ True) ∧ True ∧ True) ∧ (IntKind.i64.wrap 
  ((↑x.fst : Int) + (1 : Int)) = (↑x'.fst : Int) ∧ (↑x.snd : Int) = (↑x'.snd : Int) ∧ True ∧ True ∧ True ∧ True) ∧ (a.fst = a.fst ∧ a.snd = a.snd ∧ True) ∧ (b.fst = b.fst ∧ b.snd = b.snd ∧ True) ∧ (false = false ∧ True) 
  ∧ (a.fst = a.fst ∧ a.snd = a.snd ∧ True) ∧ (b.fst = b.fst ∧ b.snd = b.snd ∧ True) ∧ True ∧ ((True ∧ True ∧ True) ∧ false = false ∧ True ∧ True ∧ True ∧ (a.fst = a.fst ∧ a.snd = a.snd ∧ True) ∧ (b.fst = b.fst ∧ b.snd = 
  b.snd ∧ True) ∧ True) ∧ True))) ∧ (v = false → (v_1 = true → ((0 : Int) ≤ (↑x.snd : Int) ∧ (↑x.snd : Int) < (↑b.snd.length : Int)) ∧ ∀ (y : Int × Int), b.snd[(↑x.snd : Int).toNat]? = some y → ((0 : Int) ≤ (0 : Int) ∧ 
  (0 : Int) < (↑(2 : Nat) : Int)) ∧ ((0 : Int) ≤ (1 : Int) ∧ (1 : Int) < (↑(2 : Nat) : Int)) ∧ (decide (a.fst > y.snd) = true → false = leqM a b ∧ True) ∧ (decide (a.fst > y.snd) = false → ∃ (x' : Nat × Nat), ((x'.fst ≤ 
  a.snd.length ∧ x'.snd ≤ b.snd.length) ∧ ((levL a b x'.fst x'.snd).all fun (x : Int × Int × Int) => decide (x.snd.fst ≤ x.snd.snd)) = (levL a b (0 : Nat) (0 : Nat)).all fun (x : Int × Int × Int) => decide (x.snd.fst ≤ 
  x.snd.snd)) ∧ a.snd.length + b.snd.length - x'.fst - x'.snd < a.snd.length + b.snd.length - x.fst - x.snd ∧ (((True ∧ True ∧ True) ∧ false = false ∧ True ∧ True ∧ True ∧ (a.fst = a.fst ∧ a.snd = a.snd ∧ True) ∧ (b.fst 
  = b.fst ∧ b.snd = b.snd ∧ True) ∧ True) ∧ True ∧ True) ∧ ((↑x.fst : Int) = (↑x'.fst : Int) ∧ IntKind.i64.wrap ((↑x.snd : Int) + (1 : Int)) = (↑x'.snd : Int) ∧ True ∧ True ∧ True ∧ True) ∧ (a.fst = a.fst ∧ a.snd = a.snd 
  ∧ True) ∧ (b.fst = b.fst ∧ b.snd = b.snd ∧ True) ∧ (false = false ∧ True) ∧ (a.fst = a.fst ∧ a.snd = a.snd ∧ True) ∧ (b.fst = b.fst ∧ b.snd = b.snd ∧ True) ∧ True ∧ ((True ∧ True ∧ True) ∧ false = false ∧ True ∧ True ∧ 
  True ∧ (a.fst = a.fst ∧ a.snd = a.snd ∧ True) ∧ (b.fst = b.fst ∧ b.snd = b.snd ∧ True) ∧ True) ∧ True)) ∧ (v_1 = false → ((0 : Int) ≤ (0 : Int) ∧ (0 : Int) < (↑(2 : Nat) : Int)) ∧ ((0 : Int) ≤ (1 : Int) ∧ (1 : Int) < 
  (↑(2 : Nat) : Int)) ∧ (decide (a.fst > b.fst) = true → false = leqM a b ∧ True) ∧ (decide (a.fst > b.fst) = false → ∃ (x' : Nat × Nat), ((x'.fst ≤ a.snd.length ∧ x'.snd ≤ b.snd.length) ∧ ((levL a b x'.fst x'.snd).all 
  fun (x : Int × Int × Int) => decide (x.snd.fst ≤ x.snd.snd)) = (levL a b (0 : Nat) (0 : Nat)).all fun (x : Int × Int × Int) => decide (x.snd.fst ≤ x.snd.snd)) ∧ a.snd.length + b.snd.length - x'.fst - x'.snd < 
  a.snd.length + b.snd.length - x.fst - x.snd ∧ (((True ∧ True ∧ True) ∧ false = false ∧ True ∧ True ∧ True ∧ (a.fst = a.fst ∧ a.snd = a.snd ∧ True) ∧ (b.fst = b.fst ∧ b.snd = b.snd ∧ True) ∧ True) ∧ True ∧ True) ∧ 
  ((↑x.fst : Int) = (↑x'.fst : Int) ∧ (↑x.snd : Int) = (↑x'.snd : Int) ∧ True ∧ True ∧ True ∧ True) ∧ (a.fst = a.fst ∧ a.snd = a.snd ∧ True) ∧ (b.fst = b.fst ∧ b.snd = b.snd ∧ True) ∧ (false = false ∧ True) ∧ (a.fst = 
  a.fst ∧ a.snd = a.snd ∧ True) ∧ (b.fst = b.fst ∧ b.snd = b.snd ∧ True) ∧ True ∧ ((True ∧ True ∧ True) ∧ false = false ∧ True ∧ True ∧ True ∧ (a.fst = a.fst ∧ a.snd = a.snd ∧ True) ∧ (b.fst = b.fst ∧ b.snd = b.snd ∧ 
  True) ∧ True) ∧ True)))) ∧ (v = false → true = leqM a b ∧ True))) := by kernel_rfl
end Go.Proofs.YtblhojadchbcnaaDoor
namespace Go.Proofs.YtblhojadchbcnaaDoor
open Go.Proofs.YtblhojadchbcnaaDoor.Gx
set_option maxRecDepth 100000
set_option maxHeartbeats 2000000
theorem leq_ok : PSpecOk PP 22 (Q [lab, lab] [.bool] (fun _ => true) (fun x => (leqM x.1 x.2.1, ()))) := by
  refine pspec_Q mixed (fn := Tryd.f22) (c := c22) rfl rfl _ _ rfl ?_
  rintro ⟨a, b, ⟨⟩⟩ ⟨⟨-, ⟨hA, -⟩⟩, ⟨-, ⟨hB, -⟩⟩, -⟩ -
  simp only at hA hB
  refine ⟨eLeq a b, env_ok .., rfl, hold (leq_vc a b) ?_⟩
  simp only [true_and, and_true]
  constructor
  · intro h
    simp [leqM] at h ⊢
    omega
  · intro h0
    have hleq : leqM a b = (levL a b 0 0).all fun x => decide (x.2.1 ≤ x.2.2) := by
      have : a.1 ≤ b.1 := by simp at h0; omega
      simp [leqM, this]
    refine ⟨(0, 0), ⟨⟨by simp, by simp⟩, rfl⟩, ⟨rfl, rfl⟩, ?_⟩
    rintro ⟨i, k⟩ ⟨⟨hi, hk⟩, hinv⟩
    simp only at hi hk hinv ⊢
    rcases get_cases a.2 i hi with ⟨x, hx, hi'⟩ | ⟨hx, hi'⟩ <;> rcases get_cases b.2 k hk with ⟨y, hy, hk'⟩ | ⟨hy, hk'⟩
    · refine ⟨true, by intro _; constructor <;> (intros; simp_all), ?_, by simp⟩
      intro _
      refine ⟨decide (x.1 ≤ y.1), ?_, decide (y.1 ≤ x.1), ?_, ?_, ?_⟩
      · simp [hx, hy]; omega
      · simp [hx, hy]; omega
      · intro hv
        refine ⟨⟨by omega, by omega⟩, fun x' hx' => ?_⟩
        obtain rfl : x = x' := by simpa [hx] using hx'
        refine ⟨fun hv1 => ⟨⟨by omega, by omega⟩, fun y' hy' => ?_⟩, fun hv1 => ?_⟩
        · obtain rfl : y = y' := by simpa [hy] using hy'
          have hs := lev_both hx hy (by simpa using hv) (by simpa using hv1)
          rw [hs, List.all_cons] at hinv
          refine ⟨by omega, by omega, fun hg => ?_, fun hg => ⟨(i + 1, k + 1), ⟨⟨by omega, by omega⟩, ?_⟩, by simp only; omega, wrap_succ hi' hA, wrap_succ hk' hB⟩⟩
          · rw [hleq, ← hinv]; simp at hg ⊢; omega
          · rw [← hinv]; simp at hg; simp [hg]
        · have hs := lev_first hx hk (fun y' hy' => by rw [hy] at hy'; cases hy'; simp at hv hv1; omega)
          rw [hs, List.all_cons] at hinv
          refine ⟨by omega, by omega, fun hg => ?_, fun hg => ⟨(i + 1, k), ⟨⟨by omega, by omega⟩, ?_⟩, by simp only; omega, wrap_succ hi' hA, rfl⟩⟩
          · rw [hleq, ← hinv]; simp at hg ⊢; omega
          · rw [← hinv]; simp at hg; simp [hg]
      · intro hv
        refine ⟨fun hv1 => ⟨⟨by omega, by omega⟩, fun y' hy' => ?_⟩, fun hv1 => by simp at hv hv1; omega⟩
        obtain rfl : y = y' := by simpa [hy] using hy'
        have hs := lev_second hy hi (fun x' hx' => by rw [hx] at hx'; cases hx'; simp at hv hv1; omega)
        rw [hs, List.all_cons] at hinv
        refine ⟨by omega, by omega, fun hg => ?_, fun hg => ⟨(i, k + 1), ⟨⟨by omega, by omega⟩, ?_⟩, by simp only; omega, rfl, wrap_succ hk' hB⟩⟩
        · rw [hleq, ← hinv]; simp at hg ⊢; omega
        · rw [← hinv]; simp at hg; simp [hg]
    · refine ⟨true, by intro _; constructor <;> (intros; simp_all), ?_, by simp⟩
      intro _
      refine ⟨true, ?_, false, ?_, ?_, ?_⟩
      · simp [hx, hy]; omega
      · simp [hx, hy]; omega
      · intro hv
        refine ⟨⟨by omega, by omega⟩, fun x' hx' => ?_⟩
        obtain rfl : x = x' := by simpa [hx] using hx'
        refine ⟨fun hv1 => (by simp at hv1), fun hv1 => ?_⟩
        have hs := lev_first hx hk (fun y' hy' => by rw [hy] at hy'; cases hy')
        rw [hs, List.all_cons] at hinv
        refine ⟨by omega, by omega, fun hg => ?_, fun hg => ⟨(i + 1, k), ⟨⟨by omega, by omega⟩, ?_⟩, by simp only; omega, wrap_succ hi' hA, rfl⟩⟩
        · rw [hleq, ← hinv]; simp at hg ⊢; omega
        · rw [← hinv]; simp at hg; simp [hg]
      · intro hv; simp at hv
    · refine ⟨true, by intro _; constructor <;> (intros; simp_all), ?_, by simp⟩
      intro _
      refine ⟨false, ?_, true, ?_, ?_, ?_⟩
      · simp [hx, hy]; omega
      · simp [hx, hy]; omega
      · intro hv; simp at hv
      · intro hv
        refine ⟨fun hv1 => ⟨⟨by omega, by omega⟩, fun y' hy' => ?_⟩, fun hv1 => by simp at hv1⟩
        obtain rfl : y = y' := by simpa [hy] using hy'
        have hs := lev_second hy hi (fun x' hx' => by rw [hx] at hx'; cases hx')
        rw [hs, List.all_cons] at hinv
        refine ⟨by omega, by omega, fun hg => ?_, fun hg => ⟨(i, k + 1), ⟨⟨by omega, by omega⟩, ?_⟩, by simp only; omega, rfl, wrap_succ hk' hB⟩⟩
        · rw [hleq, ← hinv]; simp at hg ⊢; omega
        · rw [← hinv]; simp at hg; simp [hg]
    · refine ⟨false, by intro _; constructor <;> (intros; simp_all), by simp, ?_⟩
      intro _
      rw [hleq, ← hinv, lev_nil (by omega) (by omega)]
      rfl
end Go.Proofs.YtblhojadchbcnaaDoor
namespace Go.Proofs.YtblhojadchbcnaaDoor
open Go.Proofs.YtblhojadchbcnaaDoor.Gx
set_option maxRecDepth 100000
set_option maxHeartbeats 0
abbrev intsT : Ty := .slice i64
abbrev labsT : Ty := .slice lab
noncomputable def e0 : Env := env PP [] [] [] [] []
noncomputable def eL (l : List (Nat × (St → Option LoopSpec))) : Env := env PP [] [] [] [] l
theorem level_vc (n : Int) : fvc PP e0 Tryd.f56 c56 (ofArgs [i64] (n, ())) St0 (gives [.bool] (levelB n, ())) = (
  ∃ (v : Bool), ((decide (n ≥ (0 : Int)) = true → decide (n ≤ (5 : Int)) = v) ∧ (decide (n ≥ (0 : Int)) = !true → false = v)) ∧ v = levelB n ∧ True) := by kernel_rfl
theorem cat_vc (n : Int) : fvc PP e0 Tryd.f57 c57 (ofArgs [i64] (n, ())) St0 (gives [.bool] (catB n, ())) = (
  ∃ (v : Bool), ((decide (n ≥ (1 : Int)) = true → decide (n ≤ (2305843009213693951 : Int)) = v) ∧ (decide (n ≥ (1 : Int)) = !true → false = v)) ∧ v = catB n ∧ True) := by kernel_rfl
def atLoop (l : Lab) (c : Int) : List (Nat × (St → Option LoopSpec)) :=
  [(2, fun _ => some { α := Nat, inv := fun i => i ≤ l.2.length ∧ atR l.1 (l.2.drop i) c = atL l c, ov := fun i => [(10, .int .i64 (i : Int))], rov := fun _ => [], meas := fun i => l.2.length - i })]
theorem at_vc (l : Lab) (c : Int) : fvc PP (eL (atLoop l c)) Tryd.f43 c43 (ofArgs [lab, i64] (l, c, ())) St0 (gives [i64] (atL l c, ())) = (
  l.snd.length ≤ maxLen → ∃ (x0 : Nat), (x0 ≤ l.snd.length ∧ atR l.fst (List.drop x0 l.snd) c = atL l c) ∧ ((True ∧ True) ∧ ((0 : Int) = (↑x0 : Int) ∧ (↑l.snd.length : Int) = (↑l.snd.length : Int) ∧ l.snd = l.snd ∧ True 
  ∧ (l.fst = l.fst ∧ l.snd = l.snd ∧ True) ∧ c = c ∧ True) ∧ (l.fst = l.fst ∧ l.snd = l.snd ∧ True) ∧ True) ∧ ∀ (x : Nat), x ≤ l.snd.length ∧ atR l.fst (List.drop x l.snd) c = atL l c → (decide ((↑x : Int) < 
  (↑l.snd.length : Int)) = true → ((0 : Int) ≤ (↑x : Int) ∧ (↑x : Int) < (↑l.snd.length : Int)) ∧ ∀ (y : Int × Int), l.snd[(↑x : Int).toNat]? = some y → ((y.fst == c) = true → y.snd = atL l c ∧ True) ∧ ((y.fst == c) = 
  false → ∃ (x' : Nat), (x' ≤ l.snd.length ∧ atR l.fst (List.drop x' l.snd) c = atL l c) ∧ l.snd.length - x' < l.snd.length - x ∧ (True ∧ True) ∧ (IntKind.i64.wrap ((↑x : Int) + (1 : Int)) = (↑x' : Int) ∧ (↑l.snd.length 
  : Int) = (↑l.snd.length : Int) ∧ l.snd = l.snd ∧ True ∧ (l.fst = l.fst ∧ l.snd = l.snd ∧ True) ∧ c = c ∧ True) ∧ (l.fst = l.fst ∧ l.snd = l.snd ∧ True) ∧ True)) ∧ (decide ((↑x : Int) < (↑l.snd.length : Int)) = false → 
  l.fst = atL l c ∧ True)) := by kernel_rfl
theorem atN_vc (l : Lab) (c : Int) : fvc PP (eL (atLoop l c)) Tryd.f44 c44 (ofArgs [lab, i64] (l, c, ())) St0 (gives [i64] (atL l c, ())) = (
  l.snd.length ≤ maxLen → ∃ (x0 : Nat), (x0 ≤ l.snd.length ∧ atR l.fst (List.drop x0 l.snd) c = atL l c) ∧ ((True ∧ True) ∧ ((0 : Int) = (↑x0 : Int) ∧ (↑l.snd.length : Int) = (↑l.snd.length : Int) ∧ l.snd = l.snd ∧ True 
  ∧ (l.fst = l.fst ∧ l.snd = l.snd ∧ True) ∧ c = c ∧ True) ∧ (l.fst = l.fst ∧ l.snd = l.snd ∧ True) ∧ True) ∧ ∀ (x : Nat), x ≤ l.snd.length ∧ atR l.fst (List.drop x l.snd) c = atL l c → (decide ((↑x : Int) < 
  (↑l.snd.length : Int)) = true → ((0 : Int) ≤ (↑x : Int) ∧ (↑x : Int) < (↑l.snd.length : Int)) ∧ ∀ (y : Int × Int), l.snd[(↑x : Int).toNat]? = some y → ((y.fst == c) = true → y.snd = atL l c ∧ True) ∧ ((y.fst == c) = 
  false → ∃ (x' : Nat), (x' ≤ l.snd.length ∧ atR l.fst (List.drop x' l.snd) c = atL l c) ∧ l.snd.length - x' < l.snd.length - x ∧ (True ∧ True) ∧ (IntKind.i64.wrap ((↑x : Int) + (1 : Int)) = (↑x' : Int) ∧ (↑l.snd.length 
  : Int) = (↑l.snd.length : Int) ∧ l.snd = l.snd ∧ True ∧ (l.fst = l.fst ∧ l.snd = l.snd ∧ True) ∧ c = c ∧ True) ∧ (l.fst = l.fst ∧ l.snd = l.snd ∧ True) ∧ True)) ∧ (decide ((↑x : Int) < (↑l.snd.length : Int)) = false → 
  l.fst = atL l c ∧ True)) := by kernel_rfl
def hasLoop (l : Lab) (c : Int) : List (Nat × (St → Option LoopSpec)) :=
  [(2, fun _ => some { α := Nat, inv := fun i => i ≤ l.2.length ∧ hasR c (l.2.drop i) = hasR c l.2, ov := fun i => [(10, .int .i64 (i : Int))], rov := fun _ => [], meas := fun i => l.2.length - i })]
theorem hasN_vc (l : Lab) (c : Int) : fvc PP (eL (hasLoop l c)) Tryd.f62 c62 (ofArgs [lab, i64] (l, c, ())) St0 (gives [.bool] (hasL l c, ())) = (
  l.snd.length ≤ maxLen → ∃ (x0 : Nat), (x0 ≤ l.snd.length ∧ hasR c (List.drop x0 l.snd) = hasR c l.snd) ∧ ((True ∧ True) ∧ ((0 : Int) = (↑x0 : Int) ∧ (↑l.snd.length : Int) = (↑l.snd.length : Int) ∧ l.snd = l.snd ∧ True 
  ∧ (l.fst = l.fst ∧ l.snd = l.snd ∧ True) ∧ c = c ∧ True) ∧ (l.fst = l.fst ∧ l.snd = l.snd ∧ True) ∧ True) ∧ ∀ (x : Nat), x ≤ l.snd.length ∧ hasR c (List.drop x l.snd) = hasR c l.snd → (decide ((↑x : Int) < 
  (↑l.snd.length : Int)) = true → ((0 : Int) ≤ (↑x : Int) ∧ (↑x : Int) < (↑l.snd.length : Int)) ∧ ∀ (y : Int × Int), l.snd[(↑x : Int).toNat]? = some y → ((y.snd == c) = true → true = hasL l c ∧ True) ∧ ((y.snd == c) = 
  false → ∃ (x' : Nat), (x' ≤ l.snd.length ∧ hasR c (List.drop x' l.snd) = hasR c l.snd) ∧ l.snd.length - x' < l.snd.length - x ∧ (True ∧ True) ∧ (IntKind.i64.wrap ((↑x : Int) + (1 : Int)) = (↑x' : Int) ∧ (↑l.snd.length 
  : Int) = (↑l.snd.length : Int) ∧ l.snd = l.snd ∧ True ∧ (l.fst = l.fst ∧ l.snd = l.snd ∧ True) ∧ c = c ∧ True) ∧ (l.fst = l.fst ∧ l.snd = l.snd ∧ True) ∧ True)) ∧ (decide ((↑x : Int) < (↑l.snd.length : Int)) = false → 
  (l.fst == c) = hasL l c ∧ True)) := by kernel_rfl
def ruleLoop (l : List Bool) : List (Nat × (St → Option LoopSpec)) :=
  [(2, fun _ => some { α := Nat, inv := fun i => i ≤ l.length ∧ (l.drop i).all id = l.all id, ov := fun i => [(7, .int .i64 (i : Int))], rov := fun _ => [], meas := fun i => l.length - i })]
theorem put_vc (l : Lab) (c v : Int) : fvc PP e0 Tryd.f59 c59 (ofArgs [lab, i64, i64] (l, c, v, ())) St0 (gives [lab] (putL l c v, ())) = (
  ((v != l.fst) = true → ((0 : Nat) + l.snd.length) * (16 : Nat) ≤ (140737488355328 : Nat) ∧ (([] ++ l.snd).length + [(c, v)].length) * (16 : Nat) ≤ (140737488355328 : Nat) ∧ (l.fst = (putL l c v).fst ∧ [] ++ l.snd ++ 
  [(c, v)] = (putL l c v).snd ∧ True) ∧ True) ∧ ((v != l.fst) = false → (l.fst = (putL l c v).fst ∧ l.snd = (putL l c v).snd ∧ True) ∧ True)) := by kernel_rfl
def rightLoop (l : Lab) : List (Nat × (St → Option LoopSpec)) :=
  [(5, fun _ => some { α := Nat × Int, inv := fun x => x.1 ≤ l.2.length ∧ rowsR l.1 x.2 (l.2.drop x.1) = rowsR l.1 0 l.2, ov := fun x => [(23, .int .i64 (x.1 : Int)), (3, .int .i64 x.2)], rov := fun _ => [], meas := fun x => l.2.length - x.1 })]
theorem right_vc (l : Lab) : fvc PP (eL (rightLoop l)) Tryd.f39 c39 (ofArgs [lab] (l, ())) St0 (gives [.bool] (rightL l, ())) = (
  ∃ (v : Bool), ((decide (l.fst < (0 : Int)) = false → (decide (l.fst > (5 : Int)) = false → l.snd.length ≤ maxLen → decide ((↑l.snd.length : Int) > (16 : Int)) = v) ∧ (decide (l.fst > (5 : Int)) = !false → true = v)) ∧ 
  (decide (l.fst < (0 : Int)) = !false → true = v)) ∧ (v = true → false = rightL l ∧ True) ∧ (v = false → l.snd.length ≤ maxLen → ∃ (x0 : Nat × Int), (x0.fst ≤ l.snd.length ∧ rowsR l.fst x0.snd (List.drop x0.fst l.snd) = 
  rowsR l.fst (0 : Int) l.snd) ∧ ((True ∧ True) ∧ ((0 : Int) = (↑x0.fst : Int) ∧ (0 : Int) = x0.snd ∧ (↑l.snd.length : Int) = (↑l.snd.length : Int) ∧ l.snd = l.snd ∧ false = false ∧ True ∧ (l.fst = l.fst ∧ l.snd = l.snd 
  ∧ True) ∧ True) ∧ (l.fst = l.fst ∧ l.snd = l.snd ∧ True) ∧ True) ∧ ∀ (x : Nat × Int), x.fst ≤ l.snd.length ∧ rowsR l.fst x.snd (List.drop x.fst l.snd) = rowsR l.fst (0 : Int) l.snd → (decide ((↑x.fst : Int) < 
  (↑l.snd.length : Int)) = true → ((0 : Int) ≤ (↑x.fst : Int) ∧ (↑x.fst : Int) < (↑l.snd.length : Int)) ∧ ∀ (y : Int × Int), l.snd[(↑x.fst : Int).toNat]? = some y → ∃ (v : Bool), ((decide (y.fst ≤ x.snd) = false → 
  (decide (y.fst > (2305843009213693951 : Int)) = false → (decide (y.snd < (0 : Int)) = false → (decide (y.snd > (5 : Int)) = false → (y.snd == l.fst) = v) ∧ (decide (y.snd > (5 : Int)) = !false → true = v)) ∧ (decide 
  (y.snd < (0 : Int)) = !false → true = v)) ∧ (decide (y.fst > (2305843009213693951 : Int)) = !false → true = v)) ∧ (decide (y.fst ≤ x.snd) = !false → true = v)) ∧ (v = true → false = rightL l ∧ True) ∧ (v = false → ∃ 
  (x' : Nat × Int), (x'.fst ≤ l.snd.length ∧ rowsR l.fst x'.snd (List.drop x'.fst l.snd) = rowsR l.fst (0 : Int) l.snd) ∧ l.snd.length - x'.fst < l.snd.length - x.fst ∧ (True ∧ True) ∧ (IntKind.i64.wrap ((↑x.fst : Int) + 
  (1 : Int)) = (↑x'.fst : Int) ∧ y.fst = x'.snd ∧ (↑l.snd.length : Int) = (↑l.snd.length : Int) ∧ l.snd = l.snd ∧ false = false ∧ True ∧ (l.fst = l.fst ∧ l.snd = l.snd ∧ True) ∧ True) ∧ (l.fst = l.fst ∧ l.snd = l.snd ∧ 
  True) ∧ True)) ∧ (decide ((↑x.fst : Int) < (↑l.snd.length : Int)) = false → true = rightL l ∧ True))) := by kernel_rfl
end Go.Proofs.YtblhojadchbcnaaDoor
namespace Go.Proofs.YtblhojadchbcnaaDoor
open Go.Proofs.YtblhojadchbcnaaDoor.Gx
set_option maxRecDepth 100000
set_option maxHeartbeats 2000000
set_option linter.unusedSimpArgs false
set_option linter.unusedVariables false
theorem level_ok : PSpecOk PP 56 (Q [i64] [.bool] (fun _ => true) (fun x => (levelB x.1, ()))) := by
  refine pspec_Q mixed (fn := Tryd.f56) (c := c56) rfl rfl _ _ rfl ?_
  rintro ⟨n, ⟨⟩⟩ - -
  refine ⟨e0, env_ok .., rfl, hold (level_vc n) ?_⟩
  simp only [true_and, and_true]
  refine ⟨levelB n, ?_, ?_⟩ <;> simp [levelB] <;> omega
theorem cat_ok : PSpecOk PP 57 (Q [i64] [.bool] (fun _ => true) (fun x => (catB x.1, ()))) := by
  refine pspec_Q mixed (fn := Tryd.f57) (c := c57) rfl rfl _ _ rfl ?_
  rintro ⟨n, ⟨⟩⟩ - -
  refine ⟨e0, env_ok .., rfl, hold (cat_vc n) ?_⟩
  simp only [true_and, and_true]
  refine ⟨catB n, ?_, ?_⟩ <;> (intros; rw [Bool.eq_iff_iff]; try (simp_all [catB, maxId] <;> try omega))
theorem at_ok : PSpecOk PP 43 (Q [lab, i64] [i64] (fun _ => true) (fun x => (atL x.1 x.2.1, ()))) := by
  refine pspec_Q mixed (fn := Tryd.f43) (c := c43) rfl rfl _ _ rfl ?_
  rintro ⟨l, c, ⟨⟩⟩ ⟨⟨-, ⟨hA, -⟩⟩, -⟩ -
  simp only at hA
  refine ⟨eL (atLoop l c), env_ok .., rfl, hold (at_vc l c) ?_⟩
  simp only [true_and, and_true]
  intro _
  refine ⟨0, ⟨by simp, rfl⟩, rfl, ?_⟩
  rintro i ⟨hi, hinv⟩
  rcases get_cases l.2 i hi with ⟨x, hx, hi'⟩ | ⟨hx, hi'⟩
  · rw [drop_get hx] at hinv
    simp only [atR] at hinv
    refine ⟨fun _ => ⟨by omega, fun y hy => ?_⟩, fun h => by simp at h; omega⟩
    obtain rfl : x = y := by simpa [hx] using hy
    refine ⟨fun h => by rw [h] at hinv; simpa using hinv, fun h => ⟨i + 1, ⟨by omega, ?_⟩, by omega, wrap_succ hi' hA⟩⟩
    rw [h] at hinv; simpa using hinv
  · subst hi'
    refine ⟨fun h => by simp at h, fun _ => ?_⟩
    rw [List.drop_length] at hinv
    simpa [atR] using hinv
theorem atN_ok : PSpecOk PP 44 (Q [lab, i64] [i64] (fun _ => true) (fun x => (atL x.1 x.2.1, ()))) := by
  refine pspec_Q mixed (fn := Tryd.f44) (c := c44) rfl rfl _ _ rfl ?_
  rintro ⟨l, c, ⟨⟩⟩ ⟨⟨-, ⟨hA, -⟩⟩, -⟩ -
  simp only at hA
  refine ⟨eL (atLoop l c), env_ok .., rfl, hold (atN_vc l c) ?_⟩
  simp only [true_and, and_true]
  intro _
  refine ⟨0, ⟨by simp, rfl⟩, rfl, ?_⟩
  rintro i ⟨hi, hinv⟩
  rcases get_cases l.2 i hi with ⟨x, hx, hi'⟩ | ⟨hx, hi'⟩
  · rw [drop_get hx] at hinv
    simp only [atR] at hinv
    refine ⟨fun _ => ⟨by omega, fun y hy => ?_⟩, fun h => by simp at h; omega⟩
    obtain rfl : x = y := by simpa [hx] using hy
    refine ⟨fun h => by rw [h] at hinv; simpa using hinv, fun h => ⟨i + 1, ⟨by omega, ?_⟩, by omega, wrap_succ hi' hA⟩⟩
    rw [h] at hinv; simpa using hinv
  · subst hi'
    refine ⟨fun h => by simp at h, fun _ => ?_⟩
    rw [List.drop_length] at hinv
    simpa [atR] using hinv
theorem hasN_ok : PSpecOk PP 62 (Q [lab, i64] [.bool] (fun _ => true) (fun x => (hasL x.1 x.2.1, ()))) := by
  refine pspec_Q mixed (fn := Tryd.f62) (c := c62) rfl rfl _ _ rfl ?_
  rintro ⟨l, c, ⟨⟩⟩ ⟨⟨-, ⟨hA, -⟩⟩, -⟩ -
  simp only at hA
  refine ⟨eL (hasLoop l c), env_ok .., rfl, hold (hasN_vc l c) ?_⟩
  simp only [true_and, and_true]
  intro _
  refine ⟨0, ⟨by simp, rfl⟩, rfl, ?_⟩
  rintro i ⟨hi, hinv⟩
  rcases get_cases l.2 i hi with ⟨x, hx, hi'⟩ | ⟨hx, hi'⟩
  · rw [drop_get hx] at hinv
    simp only [hasR] at hinv
    refine ⟨fun _ => ⟨by omega, fun y hy => ?_⟩, fun h => by simp at h; omega⟩
    obtain rfl : x = y := by simpa [hx] using hy
    refine ⟨fun h => by rw [h] at hinv; simp [hasL, ← hinv], fun h => ⟨i + 1, ⟨by omega, ?_⟩, by omega, wrap_succ hi' hA⟩⟩
    rw [h] at hinv; simpa using hinv
  · subst hi'
    refine ⟨fun h => by simp at h, fun _ => ?_⟩
    rw [List.drop_length] at hinv
    simp [hasL, ← hinv, hasR]
theorem right_ok : PSpecOk PP 39 (Q [lab] [.bool] (fun _ => true) (fun x => (rightL x.1, ()))) := by
  refine pspec_Q mixed (fn := Tryd.f39) (c := c39) rfl rfl _ _ rfl ?_
  rintro ⟨l, ⟨⟩⟩ ⟨⟨-, ⟨hA, -⟩⟩, -⟩ -
  simp only at hA
  refine ⟨eL (rightLoop l), env_ok .., rfl, hold (right_vc l) ?_⟩
  simp only [true_and, and_true]
  refine ⟨!(levelB l.1 && decide (l.2.length ≤ 16)), ?_, ?_, ?_⟩
  · repeat' first | (intro _) | (apply And.intro)
    all_goals (rw [Bool.eq_iff_iff]; try (simp_all [levelB] <;> try omega))
  · intro h
    simp only [rightL]
    cases h1 : levelB l.1 <;> cases h2 : decide (l.2.length ≤ 16) <;> simp_all
  · intro h _
    simp at h
    have hr : rightL l = rowsR l.1 0 l.2 := by simp [rightL, h]
    refine ⟨(0, 0), ⟨by simp, rfl⟩, ⟨rfl, rfl⟩, ?_⟩
    rintro ⟨i, last⟩ ⟨hi, hinv⟩
    simp only at hi hinv ⊢
    rcases get_cases l.2 i hi with ⟨x, hx, hi'⟩ | ⟨hx, hi'⟩
    · rw [drop_get hx] at hinv
      simp only [rowsR] at hinv
      refine ⟨fun _ => ⟨by omega, fun y hy => ?_⟩, fun h => by simp at h; omega⟩
      obtain rfl : x = y := by simpa [hx] using hy
      refine ⟨!(decide (last < x.1) && (decide (x.1 ≤ maxId) && (levelB x.2 && !(x.2 == l.1)))), ?_, ?_, ?_⟩
      · clear hinv
        repeat' first | (intro _) | (apply And.intro)
        all_goals (rw [Bool.eq_iff_iff]; try (simp_all [levelB, maxId] <;> try omega))
      · intro hv
        rw [hr, ← hinv]
        cases h1 : decide (last < x.1) <;> cases h2 : decide (x.1 ≤ maxId) <;> cases h3 : levelB x.2 <;> cases h4 : x.2 == l.1 <;> simp_all
      · intro hv
        refine ⟨(i + 1, x.1), ⟨by omega, ?_⟩, by simp only; omega, wrap_succ hi' hA, rfl⟩
        rw [← hinv]
        cases h1 : decide (last < x.1) <;> cases h2 : decide (x.1 ≤ maxId) <;> cases h3 : levelB x.2 <;> cases h4 : x.2 == l.1 <;> simp_all
    · subst hi'
      refine ⟨fun h => by simp at h, fun _ => ?_⟩
      rw [List.drop_length] at hinv
      rw [hr, ← hinv]; rfl
theorem put_ok : PSpecOk PP 59 (Q [lab, i64, i64] [lab] (fun x => decide (x.1.2.length ≤ 1000000)) (fun x => (putL x.1 x.2.1 x.2.2.1, ()))) := by
  refine pspec_Q mixed (fn := Tryd.f59) (c := c59) rfl rfl _ _ rfl ?_
  rintro ⟨l, c, v, ⟨⟩⟩ - hp
  simp at hp
  refine ⟨e0, env_ok .., rfl, hold (put_vc l c v) ?_⟩
  simp only [true_and, and_true]
  refine ⟨fun h => ?_, fun h => ?_⟩
  · simp at h
    refine ⟨by simp; omega, by simp; omega, ?_, ?_⟩ <;> simp [putL, h]
  · simp at h
    subst h
    simp [putL]
end Go.Proofs.YtblhojadchbcnaaDoor
namespace Go.Proofs.YtblhojadchbcnaaDoor
open Go.Proofs.YtblhojadchbcnaaDoor.Gx
set_option maxRecDepth 100000
set_option maxHeartbeats 0
noncomputable def p56 : Pv PP := ⟨56, _, ⟨rfl, level_ok⟩⟩
noncomputable def p57 : Pv PP := ⟨57, _, ⟨rfl, cat_ok⟩⟩
noncomputable def p43 : Pv PP := ⟨43, _, ⟨rfl, at_ok⟩⟩
noncomputable def p44 : Pv PP := ⟨44, _, ⟨rfl, atN_ok⟩⟩
noncomputable def p62 : Pv PP := ⟨62, _, ⟨rfl, hasN_ok⟩⟩
noncomputable def p39 : Pv PP := ⟨39, _, ⟨rfl, right_ok⟩⟩
noncomputable def p59 : Pv PP := ⟨59, _, ⟨rfl, put_ok⟩⟩
noncomputable def eP (l : List (Pv PP)) : Env := env PP l [] [] [] []
def rightNLoop (l : Lab) : List (Nat × (St → Option LoopSpec)) :=
  [(4, fun _ => some { α := Nat × Int, inv := fun x => x.1 ≤ l.2.length ∧ rowsR l.1 x.2 (l.2.drop x.1) = rowsR l.1 0 l.2 ∧ (x.1 = 0 → x.2 = 0) ∧ (∀ y, x.1 ≠ 0 → l.2[x.1 - 1]? = some y → y.1 = x.2 ∧ 0 < x.2), ov := fun x => [(18, .int .i64 (x.1 : Int))], rov := fun _ => [], meas := fun x => l.2.length - x.1 })]
theorem rightN_vc (l : Lab) : fvc PP (env PP [p57, p56] [] [] [] (rightNLoop l)) Tryd.f40 c40 (ofArgs [lab] (l, ())) St0 (gives [.bool] (rightL l, ())) = (
  true = true ∧ ((!levelB l.fst) = false → l.snd.length ≤ maxLen → (decide ((↑l.snd.length : Int) > (16 : Int)) = true → false = rightL l ∧ True) ∧ (decide ((↑l.snd.length : Int) > (16 : Int)) = false → l.snd.length ≤ 
  maxLen → ∃ (x0 : Nat × Int), (x0.fst ≤ l.snd.length ∧ rowsR l.fst x0.snd (List.drop x0.fst l.snd) = rowsR l.fst (0 : Int) l.snd ∧ (x0.fst = (0 : Nat) → x0.snd = (0 : Int)) ∧ ∀ (y : Int × Int), x0.fst ≠ (0 : Nat) → 
  l.snd[x0.fst - (1 : Nat)]? = some y → y.fst = x0.snd ∧ (0 : Int) < x0.snd) ∧ ((True ∧ True) ∧ ((0 : Int) = (↑x0.fst : Int) ∧ (↑l.snd.length : Int) = (↑l.snd.length : Int) ∧ l.snd = l.snd ∧ false = false ∧ True ∧ (l.fst 
  = l.fst ∧ l.snd = l.snd ∧ True) ∧ True) ∧ (l.fst = l.fst ∧ l.snd = l.snd ∧ True) ∧ True) ∧ ∀ (x : Nat × Int), (x.fst ≤ l.snd.length ∧ rowsR l.fst x.snd (List.drop x.fst l.snd) = rowsR l.fst (0 : Int) l.snd ∧ (x.fst = 
  (0 : Nat) → x.snd = (0 : Int)) ∧ ∀ (y : Int × Int), x.fst ≠ (0 : Nat) → l.snd[x.fst - (1 : Nat)]? = some y → y.fst = x.snd ∧ (0 : Int) < x.snd) → (decide ((↑x.fst : Int) < (↑l.snd.length : Int)) = true → ((0 : Int) ≤ 
  (↑x.fst : Int) ∧ (↑x.fst : Int) < (↑l.snd.length : Int)) ∧ ∀ (y : Int × Int), l.snd[(↑x.fst : Int).toNat]? = some y → ∃ (v : Bool), (true = true ∧ ((!catB y.fst) = false → true = true ∧ ((!levelB y.snd) = false → 
  ((y.snd == l.fst) = false → (decide ((↑x.fst : Int) > (0 : Int)) = true → ((0 : Int) ≤ IntKind.i64.wrap ((↑x.fst : Int) - (1 : Int)) ∧ IntKind.i64.wrap ((↑x.fst : Int) - (1 : Int)) < (↑l.snd.length : Int)) ∧ ∀ (y_1 : 
  Int × Int), l.snd[(IntKind.i64.wrap ((↑x.fst : Int) - (1 : Int))).toNat]? = some y_1 → decide (y_1.fst ≥ y.fst) = v) ∧ (decide ((↑x.fst : Int) > (0 : Int)) = !true → false = v)) ∧ ((y.snd == l.fst) = !false → true = 
  v)) ∧ ((!levelB y.snd) = !false → true = v)) ∧ ((!catB y.fst) = !false → true = v)) ∧ (v = true → false = rightL l ∧ True) ∧ (v = false → ∃ (x' : Nat × Int), (x'.fst ≤ l.snd.length ∧ rowsR l.fst x'.snd (List.drop 
  x'.fst l.snd) = rowsR l.fst (0 : Int) l.snd ∧ (x'.fst = (0 : Nat) → x'.snd = (0 : Int)) ∧ ∀ (y : Int × Int), x'.fst ≠ (0 : Nat) → l.snd[x'.fst - (1 : Nat)]? = some y → y.fst = x'.snd ∧ (0 : Int) < x'.snd) ∧ 
  l.snd.length - x'.fst < l.snd.length - x.fst ∧ (True ∧ True) ∧ (IntKind.i64.wrap ((↑x.fst : Int) + (1 : Int)) = (↑x'.fst : Int) ∧ (↑l.snd.length : Int) = (↑l.snd.length : Int) ∧ l.snd = l.snd ∧ false = false ∧ True ∧ 
  (l.fst = l.fst ∧ l.snd = l.snd ∧ True) ∧ True) ∧ (l.fst = l.fst ∧ l.snd = l.snd ∧ True) ∧ True)) ∧ (decide ((↑x.fst : Int) < (↑l.snd.length : Int)) = false → true = rightL l ∧ True))) ∧ ((!levelB l.fst) = !false → 
  false = rightL l ∧ True)) := by kernel_rfl
noncomputable def s82 : Sv PP := ⟨82, inl PP e0 Tryd.f82 c82, ⟨rfl, inl_ok (env_ok ..) rfl mixed rfl rfl⟩⟩
def idxLoop (l : Lab) (v : Int) : List (Nat × (St → Option LoopSpec)) :=
  [(2, fun _ => some { α := Nat, inv := fun i => i ≤ l.2.length ∧ hasR v (l.2.drop i) = hasR v l.2, ov := fun i => [(8, .int .i64 (i : Int))], rov := fun _ => [], meas := fun i => l.2.length - i })]
noncomputable def s80 (l : Lab) (v : Int) : Sv PP := ⟨80, inl PP (env PP [] [s82] [] [] (idxLoop l v)) Tryd.f80 c80, ⟨rfl, inl_ok (env_ok ..) rfl mixed rfl rfl⟩⟩
noncomputable def s81 (l : Lab) (v : Int) : Sv PP := ⟨81, inl PP (env PP [] [s80 l v] [] [] []) Tryd.f81 c81, ⟨rfl, inl_ok (env_ok ..) rfl mixed rfl rfl⟩⟩
theorem has_vc (l : Lab) (v : Int) : fvc PP (env PP [] [s81 l v] [] [] []) Tryd.f70 c70 (ofArgs [lab, i64] (l, v, ())) St0 (gives [.bool] (hasL l v, ())) = (
  ((l.fst == v) = false → l.snd.length ≤ maxLen → ∃ (x0 : Nat), (x0 ≤ l.snd.length ∧ hasR v (List.drop x0 l.snd) = hasR v l.snd) ∧ ((((True ∧ True) ∧ l.snd = l.snd ∧ false = false ∧ l.snd = l.snd ∧ (True ∧ True) ∧ True) 
  ∧ ((True ∧ True) ∧ l.snd = l.snd ∧ True ∧ false = false ∧ false = false ∧ (l.fst == v) = (l.fst == v) ∧ v = v ∧ l.fst = l.fst ∧ True ∧ false = false ∧ True ∧ True ∧ (l.fst = l.fst ∧ l.snd = l.snd ∧ True) ∧ v = v ∧ 
  True) ∧ True ∧ True) ∧ ((0 : Int) = (↑x0 : Int) ∧ (↑l.snd.length : Int) = (↑l.snd.length : Int) ∧ l.snd = l.snd ∧ (True ∧ True) ∧ True) ∧ (l.fst = l.fst ∧ l.snd = l.snd ∧ True) ∧ (v = v ∧ True) ∧ True) ∧ ∀ (x : Nat), x 
  ≤ l.snd.length ∧ hasR v (List.drop x l.snd) = hasR v l.snd → (decide ((↑x : Int) < (↑l.snd.length : Int)) = true → ((0 : Int) ≤ (↑x : Int) ∧ (↑x : Int) < (↑l.snd.length : Int)) ∧ ∀ (y : Int × Int), l.snd[(↑x : 
  Int).toNat]? = some y → ((y.snd == v) = true → decide ((↑x : Int) ≥ (0 : Int)) = hasL l v ∧ True) ∧ ((y.snd == v) = false → ∃ (x' : Nat), (x' ≤ l.snd.length ∧ hasR v (List.drop x' l.snd) = hasR v l.snd) ∧ l.snd.length 
  - x' < l.snd.length - x ∧ (((True ∧ True) ∧ l.snd = l.snd ∧ false = false ∧ l.snd = l.snd ∧ (True ∧ True) ∧ True) ∧ ((True ∧ True) ∧ l.snd = l.snd ∧ True ∧ false = false ∧ false = false ∧ (l.fst == v) = (l.fst == v) ∧ 
  v = v ∧ l.fst = l.fst ∧ True ∧ false = false ∧ True ∧ True ∧ (l.fst = l.fst ∧ l.snd = l.snd ∧ True) ∧ v = v ∧ True) ∧ True ∧ True) ∧ (IntKind.i64.wrap ((↑x : Int) + (1 : Int)) = (↑x' : Int) ∧ (↑l.snd.length : Int) = 
  (↑l.snd.length : Int) ∧ l.snd = l.snd ∧ (True ∧ True) ∧ True) ∧ (l.fst = l.fst ∧ l.snd = l.snd ∧ True) ∧ (v = v ∧ True) ∧ True)) ∧ (decide ((↑x : Int) < (↑l.snd.length : Int)) = false → decide ((-1 : Int) ≥ (0 : Int)) 
  = hasL l v ∧ True)) ∧ ((l.fst == v) = !false → true = hasL l v ∧ True)) := by kernel_rfl
noncomputable def s79 : Sv PP := ⟨79, inl PP e0 Tryd.f79 c79, ⟨rfl, inl_ok (env_ok ..) rfl mixed rfl rfl⟩⟩
def turnedLoop (l : Lab) (a b : Int) : List (Nat × (St → Option LoopSpec)) :=
  [(4, fun _ => some { α := Nat, inv := fun i => i ≤ l.2.length ∧ True, ov := fun i => [(21, .int .i64 (i : Int))], rov := fun i => [(4, .blk 0 [.int .i64 (turn1 a b l.1), .row 5]), (5, .row 0 ent (turnR (turn1 a b l.1) a b (l.2.take i)))], meas := fun i => l.2.length - i, nil := [(.cell 4 1, 25, ent)] })]
theorem turned_vc (l : Lab) (a b : Int) : fvc PP (env PP [] [s79] [] [] (turnedLoop l a b)) Tryd.f63 c63 (ofArgs [lab, i64, i64] (l, a, b, ())) St0 (gives [lab] (turnL l a b, ())) = (
  ((l.fst == a) = true → l.snd.length ≤ maxLen → ∃ (x0 : Nat), (x0 ≤ l.snd.length ∧ True) ∧ ((True ∧ True) ∧ ((0 : Int) = (↑x0 : Int) ∧ (↑l.snd.length : Int) = (↑l.snd.length : Int) ∧ l.snd = l.snd ∧ True ∧ (True ∧ True 
  ∧ True) ∧ True ∧ True ∧ True ∧ True ∧ (l.fst = l.fst ∧ l.snd = l.snd ∧ True) ∧ a = a ∧ b = b ∧ True) ∧ (l.fst = l.fst ∧ l.snd = l.snd ∧ True) ∧ (a = a ∧ True) ∧ (b = b ∧ True) ∧ ((0 : Int) = (0 : Int) ∧ SV.val 
  (Value.slice none (0 : Nat) (0 : Nat)) = SV.val (Value.slice none (0 : Nat) (0 : Nat)) ∧ True) ∧ (b = turn1 a b l.fst ∧ True ∧ True) ∧ [] = turnR (turn1 a b l.fst) a b (List.take x0 l.snd) ∧ True) ∧ ∀ (x : Nat), x ≤ 
  l.snd.length ∧ True → (decide ((↑x : Int) < (↑l.snd.length : Int)) = true → ((0 : Int) ≤ (↑x : Int) ∧ (↑x : Int) < (↑l.snd.length : Int)) ∧ ∀ (y : Int × Int), l.snd[(↑x : Int).toNat]? = some y → ((y.snd == a) = true → 
  ((b != turn1 a b l.fst) = true → ((turnR (turn1 a b l.fst) a b (List.take x l.snd)).length + [(y.fst, b)].length) * (16 : Nat) ≤ (140737488355328 : Nat) ∧ ∃ (x' : Nat), (x' ≤ l.snd.length ∧ True) ∧ l.snd.length - x' < 
  l.snd.length - x ∧ (True ∧ True) ∧ (IntKind.i64.wrap ((↑x : Int) + (1 : Int)) = (↑x' : Int) ∧ (↑l.snd.length : Int) = (↑l.snd.length : Int) ∧ l.snd = l.snd ∧ True ∧ (True ∧ True ∧ True) ∧ True ∧ True ∧ True ∧ True ∧ 
  (l.fst = l.fst ∧ l.snd = l.snd ∧ True) ∧ a = a ∧ b = b ∧ True) ∧ (l.fst = l.fst ∧ l.snd = l.snd ∧ True) ∧ (a = a ∧ True) ∧ (b = b ∧ True) ∧ ((0 : Int) = (0 : Int) ∧ SV.val (Value.slice none (0 : Nat) (0 : Nat)) = 
  SV.val (Value.slice none (0 : Nat) (0 : Nat)) ∧ True) ∧ (turn1 a b l.fst = turn1 a b l.fst ∧ True ∧ True) ∧ turnR (turn1 a b l.fst) a b (List.take x l.snd) ++ [(y.fst, b)] = turnR (turn1 a b l.fst) a b (List.take x' 
  l.snd) ∧ True) ∧ ((b != turn1 a b l.fst) = false → ∃ (x' : Nat), (x' ≤ l.snd.length ∧ True) ∧ l.snd.length - x' < l.snd.length - x ∧ (True ∧ True) ∧ (IntKind.i64.wrap ((↑x : Int) + (1 : Int)) = (↑x' : Int) ∧ 
  (↑l.snd.length : Int) = (↑l.snd.length : Int) ∧ l.snd = l.snd ∧ True ∧ (True ∧ True ∧ True) ∧ True ∧ True ∧ True ∧ True ∧ (l.fst = l.fst ∧ l.snd = l.snd ∧ True) ∧ a = a ∧ b = b ∧ True) ∧ (l.fst = l.fst ∧ l.snd = l.snd 
  ∧ True) ∧ (a = a ∧ True) ∧ (b = b ∧ True) ∧ ((0 : Int) = (0 : Int) ∧ SV.val (Value.slice none (0 : Nat) (0 : Nat)) = SV.val (Value.slice none (0 : Nat) (0 : Nat)) ∧ True) ∧ (turn1 a b l.fst = turn1 a b l.fst ∧ True ∧ 
  True) ∧ turnR (turn1 a b l.fst) a b (List.take x l.snd) = turnR (turn1 a b l.fst) a b (List.take x' l.snd) ∧ True)) ∧ ((y.snd == a) = false → ((y.snd != turn1 a b l.fst) = true → ((turnR (turn1 a b l.fst) a b 
  (List.take x l.snd)).length + [(y.fst, y.snd)].length) * (16 : Nat) ≤ (140737488355328 : Nat) ∧ ∃ (x' : Nat), (x' ≤ l.snd.length ∧ True) ∧ l.snd.length - x' < l.snd.length - x ∧ (True ∧ True) ∧ (IntKind.i64.wrap ((↑x : 
  Int) + (1 : Int)) = (↑x' : Int) ∧ (↑l.snd.length : Int) = (↑l.snd.length : Int) ∧ l.snd = l.snd ∧ True ∧ (True ∧ True ∧ True) ∧ True ∧ True ∧ True ∧ True ∧ (l.fst = l.fst ∧ l.snd = l.snd ∧ True) ∧ a = a ∧ b = b ∧ True) 
  ∧ (l.fst = l.fst ∧ l.snd = l.snd ∧ True) ∧ (a = a ∧ True) ∧ (b = b ∧ True) ∧ ((0 : Int) = (0 : Int) ∧ SV.val (Value.slice none (0 : Nat) (0 : Nat)) = SV.val (Value.slice none (0 : Nat) (0 : Nat)) ∧ True) ∧ (turn1 a b 
  l.fst = turn1 a b l.fst ∧ True ∧ True) ∧ turnR (turn1 a b l.fst) a b (List.take x l.snd) ++ [(y.fst, y.snd)] = turnR (turn1 a b l.fst) a b (List.take x' l.snd) ∧ True) ∧ ((y.snd != turn1 a b l.fst) = false → ∃ (x' : 
  Nat), (x' ≤ l.snd.length ∧ True) ∧ l.snd.length - x' < l.snd.length - x ∧ (True ∧ True) ∧ (IntKind.i64.wrap ((↑x : Int) + (1 : Int)) = (↑x' : Int) ∧ (↑l.snd.length : Int) = (↑l.snd.length : Int) ∧ l.snd = l.snd ∧ True 
  ∧ (True ∧ True ∧ True) ∧ True ∧ True ∧ True ∧ True ∧ (l.fst = l.fst ∧ l.snd = l.snd ∧ True) ∧ a = a ∧ b = b ∧ True) ∧ (l.fst = l.fst ∧ l.snd = l.snd ∧ True) ∧ (a = a ∧ True) ∧ (b = b ∧ True) ∧ ((0 : Int) = (0 : Int) ∧ 
  SV.val (Value.slice none (0 : Nat) (0 : Nat)) = SV.val (Value.slice none (0 : Nat) (0 : Nat)) ∧ True) ∧ (turn1 a b l.fst = turn1 a b l.fst ∧ True ∧ True) ∧ turnR (turn1 a b l.fst) a b (List.take x l.snd) = turnR (turn1 
  a b l.fst) a b (List.take x' l.snd) ∧ True))) ∧ (decide ((↑x : Int) < (↑l.snd.length : Int)) = false → (turn1 a b l.fst = (turnL l a b).fst ∧ turnR (turn1 a b l.fst) a b (List.take x l.snd) = (turnL l a b).snd ∧ True) 
  ∧ True)) ∧ ((l.fst == a) = false → l.snd.length ≤ maxLen → ∃ (x0 : Nat), (x0 ≤ l.snd.length ∧ True) ∧ ((True ∧ True) ∧ ((0 : Int) = (↑x0 : Int) ∧ (↑l.snd.length : Int) = (↑l.snd.length : Int) ∧ l.snd = l.snd ∧ True ∧ 
  (True ∧ True ∧ True) ∧ True ∧ True ∧ True ∧ True ∧ (l.fst = l.fst ∧ l.snd = l.snd ∧ True) ∧ a = a ∧ b = b ∧ True) ∧ (l.fst = l.fst ∧ l.snd = l.snd ∧ True) ∧ (a = a ∧ True) ∧ (b = b ∧ True) ∧ ((0 : Int) = (0 : Int) ∧ 
  SV.val (Value.slice none (0 : Nat) (0 : Nat)) = SV.val (Value.slice none (0 : Nat) (0 : Nat)) ∧ True) ∧ (l.fst = turn1 a b l.fst ∧ True ∧ True) ∧ [] = turnR (turn1 a b l.fst) a b (List.take x0 l.snd) ∧ True) ∧ ∀ (x : 
  Nat), x ≤ l.snd.length ∧ True → (decide ((↑x : Int) < (↑l.snd.length : Int)) = true → ((0 : Int) ≤ (↑x : Int) ∧ (↑x : Int) < (↑l.snd.length : Int)) ∧ ∀ (y : Int × Int), l.snd[(↑x : Int).toNat]? = some y → ((y.snd == a) 
  = true → ((b != turn1 a b l.fst) = true → ((turnR (turn1 a b l.fst) a b (List.take x l.snd)).length + [(y.fst, b)].length) * (16 : Nat) ≤ (140737488355328 : Nat) ∧ ∃ (x' : Nat), (x' ≤ l.snd.length ∧ True) ∧ 
  l.snd.length - x' < l.snd.length - x ∧ (True ∧ True) ∧ (IntKind.i64.wrap ((↑x : Int) + (1 : Int)) = (↑x' : Int) ∧ (↑l.snd.length : Int) = (↑l.snd.length : Int) ∧ l.snd = l.snd ∧ True ∧ (True ∧ True ∧ True) ∧ True ∧ 
  True ∧ True ∧ True ∧ (l.fst = l.fst ∧ l.snd = l.snd ∧ True) ∧ a = a ∧ b = b ∧ True) ∧ (l.fst = l.fst ∧ l.snd = l.snd ∧ True) ∧ (a = a ∧ True) ∧ (b = b ∧ True) ∧ ((0 : Int) = (0 : Int) ∧ SV.val (Value.slice none (0 : 
  Nat) (0 : Nat)) = SV.val (Value.slice none (0 : Nat) (0 : Nat)) ∧ True) ∧ (turn1 a b l.fst = turn1 a b l.fst ∧ True ∧ True) ∧ turnR (turn1 a b l.fst) a b (List.take x l.snd) ++ [(y.fst, b)] = turnR (turn1 a b l.fst) a 
  b (List.take x' l.snd) ∧ True) ∧ ((b != turn1 a b l.fst) = false → ∃ (x' : Nat), (x' ≤ l.snd.length ∧ True) ∧ l.snd.length - x' < l.snd.length - x ∧ (True ∧ True) ∧ (IntKind.i64.wrap ((↑x : Int) + (1 : Int)) = (↑x' : 
  Int) ∧ (↑l.snd.length : Int) = (↑l.snd.length : Int) ∧ l.snd = l.snd ∧ True ∧ (True ∧ True ∧ True) ∧ True ∧ True ∧ True ∧ True ∧ (l.fst = l.fst ∧ l.snd = l.snd ∧ True) ∧ a = a ∧ b = b ∧ True) ∧ (l.fst = l.fst ∧ l.snd = 
  l.snd ∧ True) ∧ (a = a ∧ True) ∧ (b = b ∧ True) ∧ ((0 : Int) = (0 : Int) ∧ SV.val (Value.slice none (0 : Nat) (0 : Nat)) = SV.val (Value.slice none (0 : Nat) (0 : Nat)) ∧ True) ∧ (turn1 a b l.fst = turn1 a b l.fst ∧ 
  True ∧ True) ∧ turnR (turn1 a b l.fst) a b (List.take x l.snd) = turnR (turn1 a b l.fst) a b (List.take x' l.snd) ∧ True)) ∧ ((y.snd == a) = false → ((y.snd != turn1 a b l.fst) = true → ((turnR (turn1 a b l.fst) a b 
  (List.take x l.snd)).length + [(y.fst, y.snd)].length) * (16 : Nat) ≤ (140737488355328 : Nat) ∧ ∃ (x' : Nat), (x' ≤ l.snd.length ∧ True) ∧ l.snd.length - x' < l.snd.length - x ∧ (True ∧ True) ∧ (IntKind.i64.wrap ((↑x : 
  Int) + (1 : Int)) = (↑x' : Int) ∧ (↑l.snd.length : Int) = (↑l.snd.length : Int) ∧ l.snd = l.snd ∧ True ∧ (True ∧ True ∧ True) ∧ True ∧ True ∧ True ∧ True ∧ (l.fst = l.fst ∧ l.snd = l.snd ∧ True) ∧ a = a ∧ b = b ∧ True) 
  ∧ (l.fst = l.fst ∧ l.snd = l.snd ∧ True) ∧ (a = a ∧ True) ∧ (b = b ∧ True) ∧ ((0 : Int) = (0 : Int) ∧ SV.val (Value.slice none (0 : Nat) (0 : Nat)) = SV.val (Value.slice none (0 : Nat) (0 : Nat)) ∧ True) ∧ (turn1 a b 
  l.fst = turn1 a b l.fst ∧ True ∧ True) ∧ turnR (turn1 a b l.fst) a b (List.take x l.snd) ++ [(y.fst, y.snd)] = turnR (turn1 a b l.fst) a b (List.take x' l.snd) ∧ True) ∧ ((y.snd != turn1 a b l.fst) = false → ∃ (x' : 
  Nat), (x' ≤ l.snd.length ∧ True) ∧ l.snd.length - x' < l.snd.length - x ∧ (True ∧ True) ∧ (IntKind.i64.wrap ((↑x : Int) + (1 : Int)) = (↑x' : Int) ∧ (↑l.snd.length : Int) = (↑l.snd.length : Int) ∧ l.snd = l.snd ∧ True 
  ∧ (True ∧ True ∧ True) ∧ True ∧ True ∧ True ∧ True ∧ (l.fst = l.fst ∧ l.snd = l.snd ∧ True) ∧ a = a ∧ b = b ∧ True) ∧ (l.fst = l.fst ∧ l.snd = l.snd ∧ True) ∧ (a = a ∧ True) ∧ (b = b ∧ True) ∧ ((0 : Int) = (0 : Int) ∧ 
  SV.val (Value.slice none (0 : Nat) (0 : Nat)) = SV.val (Value.slice none (0 : Nat) (0 : Nat)) ∧ True) ∧ (turn1 a b l.fst = turn1 a b l.fst ∧ True ∧ True) ∧ turnR (turn1 a b l.fst) a b (List.take x l.snd) = turnR (turn1 
  a b l.fst) a b (List.take x' l.snd) ∧ True))) ∧ (decide ((↑x : Int) < (↑l.snd.length : Int)) = false → (turn1 a b l.fst = (turnL l a b).fst ∧ turnR (turn1 a b l.fst) a b (List.take x l.snd) = (turnL l a b).snd ∧ True) 
  ∧ True))) := by kernel_rfl
def turnLoop (l : Lab) (a b : Int) : List (Nat × (St → Option LoopSpec)) :=
  [(5, fun _ => some { α := Nat, inv := fun i => i ≤ l.2.length ∧ True, ov := fun i => [(23, .int .i64 (i : Int))], rov := fun i => [(2, .blk 0 [.int .i64 (turn1 a b l.1), .rs ent (turnR (turn1 a b l.1) a b (l.2.take i))])], meas := fun i => l.2.length - i })]
theorem turn_vc (l : Lab) (a b : Int) : fvc PP (env PP [p59] [] [] [] (turnLoop l a b)) Tryd.f69 c69 (ofArgs [lab, i64, i64] (l, a, b, ())) St0 (gives [lab] (turnL l a b, ())) = (
  ((l.fst == a) = true → l.snd.length ≤ maxLen → ∃ (x0 : Nat), (x0 ≤ l.snd.length ∧ True) ∧ ((True ∧ True) ∧ ((0 : Int) = (↑x0 : Int) ∧ (↑l.snd.length : Int) = (↑l.snd.length : Int) ∧ l.snd = l.snd ∧ true = true ∧ True ∧ 
  True ∧ True ∧ (l.fst = l.fst ∧ l.snd = l.snd ∧ True) ∧ a = a ∧ b = b ∧ True) ∧ (l.fst = l.fst ∧ l.snd = l.snd ∧ True) ∧ ((0 : Int) = (0 : Int) ∧ SV.val (Value.slice none (0 : Nat) (0 : Nat)) = SV.val (Value.slice none 
  (0 : Nat) (0 : Nat)) ∧ True) ∧ (b = turn1 a b l.fst ∧ turnR (turn1 a b l.fst) a b (List.take x0 l.snd) = [] ∧ True) ∧ True) ∧ ∀ (x : Nat), x ≤ l.snd.length ∧ True → (decide ((↑x : Int) < (↑l.snd.length : Int)) = true → 
  ((0 : Int) ≤ (↑x : Int) ∧ (↑x : Int) < (↑l.snd.length : Int)) ∧ ∀ (y : Int × Int), l.snd[(↑x : Int).toNat]? = some y → ((y.snd == a) = true → decide ((turnR (turn1 a b l.fst) a b (List.take x l.snd)).length ≤ (1000000 
  : Nat)) = true ∧ ∃ (x' : Nat), (x' ≤ l.snd.length ∧ True) ∧ l.snd.length - x' < l.snd.length - x ∧ (True ∧ True) ∧ (IntKind.i64.wrap ((↑x : Int) + (1 : Int)) = (↑x' : Int) ∧ (↑l.snd.length : Int) = (↑l.snd.length : 
  Int) ∧ l.snd = l.snd ∧ true = true ∧ True ∧ True ∧ True ∧ (l.fst = l.fst ∧ l.snd = l.snd ∧ True) ∧ a = a ∧ b = b ∧ True) ∧ (l.fst = l.fst ∧ l.snd = l.snd ∧ True) ∧ ((0 : Int) = (0 : Int) ∧ SV.val (Value.slice none (0 : 
  Nat) (0 : Nat)) = SV.val (Value.slice none (0 : Nat) (0 : Nat)) ∧ True) ∧ ((putL (turn1 a b l.fst, turnR (turn1 a b l.fst) a b (List.take x l.snd)) y.fst b).fst = turn1 a b l.fst ∧ (putL (turn1 a b l.fst, turnR (turn1 
  a b l.fst) a b (List.take x l.snd)) y.fst b).snd = turnR (turn1 a b l.fst) a b (List.take x' l.snd) ∧ True) ∧ True) ∧ ((y.snd == a) = false → decide ((turnR (turn1 a b l.fst) a b (List.take x l.snd)).length ≤ (1000000 
  : Nat)) = true ∧ ∃ (x' : Nat), (x' ≤ l.snd.length ∧ True) ∧ l.snd.length - x' < l.snd.length - x ∧ (True ∧ True) ∧ (IntKind.i64.wrap ((↑x : Int) + (1 : Int)) = (↑x' : Int) ∧ (↑l.snd.length : Int) = (↑l.snd.length : 
  Int) ∧ l.snd = l.snd ∧ true = true ∧ True ∧ True ∧ True ∧ (l.fst = l.fst ∧ l.snd = l.snd ∧ True) ∧ a = a ∧ b = b ∧ True) ∧ (l.fst = l.fst ∧ l.snd = l.snd ∧ True) ∧ ((0 : Int) = (0 : Int) ∧ SV.val (Value.slice none (0 : 
  Nat) (0 : Nat)) = SV.val (Value.slice none (0 : Nat) (0 : Nat)) ∧ True) ∧ ((putL (turn1 a b l.fst, turnR (turn1 a b l.fst) a b (List.take x l.snd)) y.fst y.snd).fst = turn1 a b l.fst ∧ (putL (turn1 a b l.fst, turnR 
  (turn1 a b l.fst) a b (List.take x l.snd)) y.fst y.snd).snd = turnR (turn1 a b l.fst) a b (List.take x' l.snd) ∧ True) ∧ True)) ∧ (decide ((↑x : Int) < (↑l.snd.length : Int)) = false → (turn1 a b l.fst = (turnL l a 
  b).fst ∧ turnR (turn1 a b l.fst) a b (List.take x l.snd) = (turnL l a b).snd ∧ True) ∧ True)) ∧ ((l.fst == a) = false → l.snd.length ≤ maxLen → ∃ (x0 : Nat), (x0 ≤ l.snd.length ∧ True) ∧ ((True ∧ True) ∧ ((0 : Int) = 
  (↑x0 : Int) ∧ (↑l.snd.length : Int) = (↑l.snd.length : Int) ∧ l.snd = l.snd ∧ false = false ∧ True ∧ True ∧ True ∧ (l.fst = l.fst ∧ l.snd = l.snd ∧ True) ∧ a = a ∧ b = b ∧ True) ∧ (l.fst = l.fst ∧ l.snd = l.snd ∧ True) 
  ∧ ((0 : Int) = (0 : Int) ∧ SV.val (Value.slice none (0 : Nat) (0 : Nat)) = SV.val (Value.slice none (0 : Nat) (0 : Nat)) ∧ True) ∧ (l.fst = turn1 a b l.fst ∧ turnR (turn1 a b l.fst) a b (List.take x0 l.snd) = [] ∧ 
  True) ∧ True) ∧ ∀ (x : Nat), x ≤ l.snd.length ∧ True → (decide ((↑x : Int) < (↑l.snd.length : Int)) = true → ((0 : Int) ≤ (↑x : Int) ∧ (↑x : Int) < (↑l.snd.length : Int)) ∧ ∀ (y : Int × Int), l.snd[(↑x : Int).toNat]? = 
  some y → ((y.snd == a) = true → decide ((turnR (turn1 a b l.fst) a b (List.take x l.snd)).length ≤ (1000000 : Nat)) = true ∧ ∃ (x' : Nat), (x' ≤ l.snd.length ∧ True) ∧ l.snd.length - x' < l.snd.length - x ∧ (True ∧ 
  True) ∧ (IntKind.i64.wrap ((↑x : Int) + (1 : Int)) = (↑x' : Int) ∧ (↑l.snd.length : Int) = (↑l.snd.length : Int) ∧ l.snd = l.snd ∧ false = false ∧ True ∧ True ∧ True ∧ (l.fst = l.fst ∧ l.snd = l.snd ∧ True) ∧ a = a ∧ b 
  = b ∧ True) ∧ (l.fst = l.fst ∧ l.snd = l.snd ∧ True) ∧ ((0 : Int) = (0 : Int) ∧ SV.val (Value.slice none (0 : Nat) (0 : Nat)) = SV.val (Value.slice none (0 : Nat) (0 : Nat)) ∧ True) ∧ ((putL (turn1 a b l.fst, turnR 
  (turn1 a b l.fst) a b (List.take x l.snd)) y.fst b).fst = turn1 a b l.fst ∧ (putL (turn1 a b l.fst, turnR (turn1 a b l.fst) a b (List.take x l.snd)) y.fst b).snd = turnR (turn1 a b l.fst) a b (List.take x' l.snd) ∧ 
  True) ∧ True) ∧ ((y.snd == a) = false → decide ((turnR (turn1 a b l.fst) a b (List.take x l.snd)).length ≤ (1000000 : Nat)) = true ∧ ∃ (x' : Nat), (x' ≤ l.snd.length ∧ True) ∧ l.snd.length - x' < l.snd.length - x ∧ 
  (True ∧ True) ∧ (IntKind.i64.wrap ((↑x : Int) + (1 : Int)) = (↑x' : Int) ∧ (↑l.snd.length : Int) = (↑l.snd.length : Int) ∧ l.snd = l.snd ∧ false = false ∧ True ∧ True ∧ True ∧ (l.fst = l.fst ∧ l.snd = l.snd ∧ True) ∧ a 
  = a ∧ b = b ∧ True) ∧ (l.fst = l.fst ∧ l.snd = l.snd ∧ True) ∧ ((0 : Int) = (0 : Int) ∧ SV.val (Value.slice none (0 : Nat) (0 : Nat)) = SV.val (Value.slice none (0 : Nat) (0 : Nat)) ∧ True) ∧ ((putL (turn1 a b l.fst, 
  turnR (turn1 a b l.fst) a b (List.take x l.snd)) y.fst y.snd).fst = turn1 a b l.fst ∧ (putL (turn1 a b l.fst, turnR (turn1 a b l.fst) a b (List.take x l.snd)) y.fst y.snd).snd = turnR (turn1 a b l.fst) a b (List.take 
  x' l.snd) ∧ True) ∧ True)) ∧ (decide ((↑x : Int) < (↑l.snd.length : Int)) = false → (turn1 a b l.fst = (turnL l a b).fst ∧ turnR (turn1 a b l.fst) a b (List.take x l.snd) = (turnL l a b).snd ∧ True) ∧ True))) := by kernel_rfl
end Go.Proofs.YtblhojadchbcnaaDoor
namespace Go.Proofs.YtblhojadchbcnaaDoor
open Go.Proofs.YtblhojadchbcnaaDoor.Gx
set_option maxRecDepth 100000
set_option maxHeartbeats 2000000
set_option linter.unusedSimpArgs false
set_option linter.unusedVariables false
theorem has_ok : PSpecOk PP 70 (Q [lab, i64] [.bool] (fun _ => true) (fun x => (hasL x.1 x.2.1, ()))) := by
  refine pspec_Q mixed (fn := Tryd.f70) (c := c70) rfl rfl _ _ rfl ?_
  rintro ⟨l, v, ⟨⟩⟩ ⟨⟨-, ⟨hA, -⟩⟩, -⟩ -
  simp only at hA
  refine ⟨_, env_ok [] [s81 l v] [] [] [], rfl, hold (has_vc l v) ?_⟩
  simp only [true_and, and_true]
  refine ⟨fun h0 _ => ?_, fun h => by simp at h; simp [hasL, h]⟩
  refine ⟨0, ⟨by simp, rfl⟩, rfl, ?_⟩
  rintro i ⟨hi, hinv⟩
  rcases get_cases l.2 i hi with ⟨x, hx, hi'⟩ | ⟨hx, hi'⟩
  · rw [drop_get hx] at hinv
    simp only [hasR] at hinv
    refine ⟨fun _ => ⟨by omega, fun y hy => ?_⟩, fun h => by simp at h; omega⟩
    obtain rfl : x = y := by simpa [hx] using hy
    refine ⟨fun h => by rw [h] at hinv; simp [hasL, ← hinv], fun h => ⟨i + 1, ⟨by omega, ?_⟩, by omega, wrap_succ hi' hA⟩⟩
    rw [h] at hinv; simpa using hinv
  · subst hi'
    refine ⟨fun h => by simp at h, fun _ => ?_⟩
    rw [List.drop_length] at hinv
    simp at h0
    simp [hasL, ← hinv, hasR, h0]
theorem turnR_snoc (d a b : Int) : (l : List (Int × Int)) → (x : Int × Int) → turnR d a b (l ++ [x]) = turnR d a b l ++ (if turn1 a b x.2 = d then [] else [(x.1, turn1 a b x.2)])
  | [], x => by simp [turnR]
  | y :: l, x => by simp only [List.cons_append, turnR, turnR_snoc d a b l x]; split <;> simp
theorem turnR_len (d a b : Int) : (l : List (Int × Int)) → (turnR d a b l).length ≤ l.length
  | [] => by simp [turnR]
  | y :: l => by simp only [turnR]; have := turnR_len d a b l; split <;> simp <;> omega
theorem take_snoc {α : Type} {l : List α} {i : Nat} {x : α} (h : l[i]? = some x) : l.take (i + 1) = l.take i ++ [x] := by
  obtain ⟨hlt, rfl⟩ := List.getElem?_eq_some_iff.1 h
  rw [List.take_succ_eq_append_getElem hlt]
theorem put_fst (l : Lab) (c v : Int) : (putL l c v).1 = l.1 := by unfold putL; split <;> rfl
theorem turn_ok : PSpecOk PP 69 (Q [lab, i64, i64] [lab] (fun x => decide (x.1.2.length ≤ 1000000)) (fun x => (turnL x.1 x.2.1 x.2.2.1, ()))) := by
  refine pspec_Q mixed (fn := Tryd.f69) (c := c69) rfl rfl _ _ rfl ?_
  rintro ⟨l, a, b, ⟨⟩⟩ ⟨⟨-, ⟨hA, -⟩⟩, -⟩ hp
  simp only at hA
  simp at hp
  refine ⟨_, env_ok [p59] [] [] [] (turnLoop l a b), rfl, hold (turn_vc l a b) ?_⟩
  simp only [true_and, and_true]
  refine ⟨fun h0 _ => ?_, fun h0 _ => ?_⟩
  all_goals
    simp at h0
    refine ⟨0, by simp, ⟨rfl, by simp [turn1, h0], by simp [turnR]⟩, ?_⟩
    intro i hi
    rcases get_cases l.2 i hi with ⟨x, hx, hi'⟩ | ⟨hx, hi'⟩
    · refine ⟨fun _ => ⟨by omega, fun y hy => ?_⟩, fun h => by simp at h; omega⟩
      obtain rfl : x = y := by simpa [hx] using hy
      have hlen := turnR_len (turn1 a b l.1) a b (l.2.take i)
      rw [List.length_take] at hlen
      have hsn := turnR_snoc (turn1 a b l.1) a b (l.2.take i) x
      rw [← take_snoc hx] at hsn
      refine ⟨fun h => ⟨by simp; omega, i + 1, by omega, by omega, wrap_succ hi' hA, put_fst _ _ _, ?_⟩, fun h => ⟨by simp; omega, i + 1, by omega, by omega, wrap_succ hi' hA, put_fst _ _ _, ?_⟩⟩
      · simp at h
        have hv : turn1 a b x.2 = b := by simp [turn1, h]
        rw [hsn, hv]
        unfold putL
        generalize turn1 a b l.1 = d
        by_cases e : b = d <;> simp [e]
      · simp at h
        have hv : turn1 a b x.2 = x.2 := by simp [turn1, h]
        rw [hsn, hv]
        unfold putL
        generalize turn1 a b l.1 = d
        by_cases e : x.2 = d <;> simp [e]
    · subst hi'
      refine ⟨fun h => by simp at h, fun _ => ⟨rfl, ?_⟩⟩
      rw [List.take_length]
      rfl
theorem turned_ok : PSpecOk PP 63 (Q [lab, i64, i64] [lab] (fun x => decide (x.1.2.length ≤ 1000000)) (fun x => (turnL x.1 x.2.1 x.2.2.1, ()))) := by
  refine pspec_Q mixed (fn := Tryd.f63) (c := c63) rfl rfl _ _ rfl ?_
  rintro ⟨l, a, b, ⟨⟩⟩ ⟨⟨-, ⟨hA, -⟩⟩, -⟩ hp
  simp only at hA
  simp at hp
  refine ⟨_, env_ok [] [s79] [] [] (turnedLoop l a b), rfl, hold (turned_vc l a b) ?_⟩
  simp only [true_and, and_true]
  refine ⟨fun h0 _ => ?_, fun h0 _ => ?_⟩
  all_goals
    simp at h0
    refine ⟨0, by simp, ⟨rfl, by simp [turn1, h0], by simp [turnR]⟩, ?_⟩
    intro i hi
    rcases get_cases l.2 i hi with ⟨x, hx, hi'⟩ | ⟨hx, hi'⟩
    · refine ⟨fun _ => ⟨by omega, fun y hy => ?_⟩, fun h => by simp at h; omega⟩
      obtain rfl : x = y := by simpa [hx] using hy
      have hlen := turnR_len (turn1 a b l.1) a b (l.2.take i)
      rw [List.length_take] at hlen
      have hsn := turnR_snoc (turn1 a b l.1) a b (l.2.take i) x
      rw [← take_snoc hx] at hsn
      refine ⟨fun h => ?_, fun h => ?_⟩
      · simp at h
        have hv : turn1 a b x.2 = b := by simp [turn1, h]
        rw [hv] at hsn
        refine ⟨fun e => ⟨by simp; omega, i + 1, by omega, by omega, wrap_succ hi' hA, ?_⟩, fun e => ⟨i + 1, by omega, by omega, wrap_succ hi' hA, ?_⟩⟩
        · rw [hsn, if_neg (by simpa using e)]
        · rw [hsn, if_pos (by simpa using e), List.append_nil]
      · simp at h
        have hv : turn1 a b x.2 = x.2 := by simp [turn1, h]
        rw [hv] at hsn
        refine ⟨fun e => ⟨by simp; omega, i + 1, by omega, by omega, wrap_succ hi' hA, ?_⟩, fun e => ⟨i + 1, by omega, by omega, wrap_succ hi' hA, ?_⟩⟩
        · rw [hsn, if_neg (by simpa using e)]
        · rw [hsn, if_pos (by simpa using e), List.append_nil]
    · subst hi'
      refine ⟨fun h => by simp at h, fun _ => ⟨rfl, ?_⟩⟩
      rw [List.take_length]
      rfl
end Go.Proofs.YtblhojadchbcnaaDoor
namespace Go.Proofs.YtblhojadchbcnaaDoor
open Go.Proofs.YtblhojadchbcnaaDoor.Gx
set_option maxRecDepth 100000
set_option maxHeartbeats 0
noncomputable def p70 : Pv PP := ⟨70, _, ⟨rfl, has_ok⟩⟩
noncomputable def p69 : Pv PP := ⟨69, _, ⟨rfl, turn_ok⟩⟩
noncomputable def p63 : Pv PP := ⟨63, _, ⟨rfl, turned_ok⟩⟩
noncomputable def p22 : Pv PP := ⟨22, _, ⟨rfl, leq_ok⟩⟩
theorem up_vc (l : Lab) : fvc PP (eP [p63]) Tryd.f25 c25 (ofArgs [lab] (l, ())) St0 (gives [lab] (upL l, ())) = (
  decide (l.snd.length ≤ (1000000 : Nat)) = true ∧ ((turnL (l.fst, l.snd) (0 : Int) (5 : Int)).fst = (upL l).fst ∧ (turnL (l.fst, l.snd) (0 : Int) (5 : Int)).snd = (upL l).snd ∧ True) ∧ True) := by kernel_rfl
theorem upN_vc (l : Lab) : fvc PP (eP [p69]) Tryd.f37 c37 (ofArgs [lab] (l, ())) St0 (gives [lab] (upL l, ())) = (
  decide (l.snd.length ≤ (1000000 : Nat)) = true ∧ ((turnL (l.fst, l.snd) (0 : Int) (5 : Int)).fst = (upL l).fst ∧ (turnL (l.fst, l.snd) (0 : Int) (5 : Int)).snd = (upL l).snd ∧ True) ∧ True) := by kernel_rfl
theorem plain_vc (l : Lab) : fvc PP (eP [p39, p70]) Tryd.f41 c41 (ofArgs [lab] (l, ())) St0 (gives [.bool] (plainL l, ())) = (
  true = true ∧ (rightL (l.fst, l.snd) = true → true = true ∧ (!hasL (l.fst, l.snd) (5 : Int)) = plainL l ∧ True) ∧ (rightL (l.fst, l.snd) = !true → false = plainL l ∧ True)) := by kernel_rfl
end Go.Proofs.YtblhojadchbcnaaDoor
namespace Go.Proofs.YtblhojadchbcnaaDoor
open Go.Proofs.YtblhojadchbcnaaDoor.Gx
set_option maxRecDepth 100000
set_option maxHeartbeats 2000000
set_option linter.unusedSimpArgs false
set_option linter.unusedVariables false
theorem up_ok : PSpecOk PP 25 (Q [lab] [lab] (fun x => decide (x.1.2.length ≤ 1000000)) (fun x => (upL x.1, ()))) := by
  refine pspec_Q mixed (fn := Tryd.f25) (c := c25) rfl rfl _ _ rfl ?_
  rintro ⟨l, ⟨⟩⟩ - hp
  refine ⟨_, env_ok [p63] [] [] [] [], rfl, hold (up_vc l) ?_⟩
  simp only [true_and, and_true]
  exact ⟨hp, rfl, rfl⟩
theorem upN_ok : PSpecOk PP 37 (Q [lab] [lab] (fun x => decide (x.1.2.length ≤ 1000000)) (fun x => (upL x.1, ()))) := by
  refine pspec_Q mixed (fn := Tryd.f37) (c := c37) rfl rfl _ _ rfl ?_
  rintro ⟨l, ⟨⟩⟩ - hp
  refine ⟨_, env_ok [p69] [] [] [] [], rfl, hold (upN_vc l) ?_⟩
  simp only [true_and, and_true]
  exact ⟨hp, rfl, rfl⟩
theorem plain_ok : PSpecOk PP 41 (Q [lab] [.bool] (fun _ => true) (fun x => (plainL x.1, ()))) := by
  refine pspec_Q mixed (fn := Tryd.f41) (c := c41) rfl rfl _ _ rfl ?_
  rintro ⟨l, ⟨⟩⟩ - -
  refine ⟨_, env_ok [p39, p70] [] [] [] [], rfl, hold (plain_vc l) ?_⟩
  simp only [true_and, and_true]
  constructor <;> intro h
  · have h : rightL l = true := h; simp [plainL, h]
  · have h : rightL l = !true := h; simp at h; simp [plainL, h]
theorem rightN_ok : PSpecOk PP 40 (Q [lab] [.bool] (fun _ => true) (fun x => (rightL x.1, ()))) := by
  refine pspec_Q mixed (fn := Tryd.f40) (c := c40) rfl rfl _ _ rfl ?_
  rintro ⟨l, ⟨⟩⟩ ⟨⟨-, ⟨hA, -⟩⟩, -⟩ -
  simp only at hA
  refine ⟨_, env_ok [p57, p56] [] [] [] (rightNLoop l), rfl, hold (rightN_vc l) ?_⟩
  simp only [true_and, and_true]
  refine ⟨fun h0 _ => ⟨fun h1 => ?_, fun h1 _ => ?_⟩, fun h0 => ?_⟩
  · simp at h1
    have : ¬ (l.2.length ≤ 16) := by omega
    simp [rightL, this]
  · simp at h0 h1
    have h1' : l.2.length ≤ 16 := by omega
    have hr : rightL l = rowsR l.1 0 l.2 := by simp [rightL, h0, h1']
    refine ⟨(0, 0), ⟨by simp, rfl, fun _ => rfl, fun y h => absurd rfl h⟩, rfl, ?_⟩
    rintro ⟨i, last⟩ ⟨hi, hinv, hl0, hl1⟩
    simp only at hi hinv hl0 hl1 ⊢
    rcases get_cases l.2 i hi with ⟨x, hx, hi'⟩ | ⟨hx, hi'⟩
    · rw [drop_get hx] at hinv
      simp only [rowsR] at hinv
      refine ⟨fun _ => ⟨by omega, fun y hy => ?_⟩, fun h => by simp at h; omega⟩
      obtain rfl : x = y := by simpa [hx] using hy
      have hpos : 0 ≤ last := by
        rcases Nat.eq_zero_or_pos i with h | h
        · rw [hl0 h]; omega
        · have := (hl1 l.2[i-1] (by omega) (List.getElem?_eq_getElem (by omega))).2; omega
      have hw : IntKind.i64.wrap ((i : Int) - 1) = (i : Int) - 1 := wrap64 (by omega) (by rw [maxLen_eq] at hA; omega)
      rw [hw]
      obtain ⟨c, hc⟩ : ∃ c, c = (catB x.1 && (levelB x.2 && (!(x.2 == l.1) && decide (last < x.1)))) := ⟨_, rfl⟩
      have key : ∀ r : Bool, (decide (last < x.1) && (decide (x.1 ≤ maxId) && (levelB x.2 && (!(x.2 == l.1) && r)))) = (c && r) := by
        intro r
        rw [hc, Bool.eq_iff_iff]
        simp [catB]
        constructor
        · rintro ⟨a, b, c, d, e⟩; exact ⟨⟨⟨by omega, b⟩, c, d, a⟩, e⟩
        · rintro ⟨⟨⟨a, b⟩, c, d, e⟩, f⟩; exact ⟨e, b, c, d, f⟩
      rw [key] at hinv
      refine ⟨!c, ?_, ?_, ?_⟩
      · rw [hc]
        refine ⟨fun e1 => ⟨fun e2 => ⟨fun e3 => ⟨fun e4 => ⟨?_, fun y hy => ?_⟩, fun e4 => ?_⟩, fun e3 => ?_⟩, fun e2 => ?_⟩, fun e1 => ?_⟩
        · simp at e4; omega
        · simp at e1 e2 e3 e4
          have hy' : l.2[i - 1]? = some y := by
            rw [show ((i : Int) - 1).toNat = i - 1 by omega] at hy; exact hy
          have := (hl1 y (by omega) hy').1
          rw [Bool.eq_iff_iff]
          simp [e1, e2, e3, this]
        · simp at e1 e2 e3 e4
          subst e4
          have := hl0 rfl
          subst this
          have hx0 : (0 : Int) < x.1 := by
            simp [catB] at e1
            have := e1.1
            omega
          simp [e1, e2, e3, hx0]
        · simp at e1 e2 e3; simp [e1, e2, e3]
        · simp at e1 e2; simp [e1, e2]
        · simp at e1; simp [e1]
      · intro hv
        simp at hv
        rw [hr, ← hinv, hv]; rfl
      · intro hv
        simp at hv
        rw [hv, Bool.true_and] at hinv
        have hcx : catB x.1 = true := by rw [hc] at hv; simp at hv; exact hv.1
        refine ⟨(i + 1, x.1), ⟨by omega, hinv, fun h => by simp at h, fun y _ hy => ?_⟩, by simp only; omega, wrap_succ hi' hA⟩
        have : x = y := by simpa [hx] using hy
        subst this
        refine ⟨rfl, ?_⟩
        simp [catB] at hcx; omega
    · subst hi'
      refine ⟨fun h => by simp at h, fun _ => ?_⟩
      rw [List.drop_length] at hinv
      rw [hr, ← hinv]; rfl
  · simp at h0; simp [rightL, h0]
end Go.Proofs.YtblhojadchbcnaaDoor
namespace Go.Proofs.YtblhojadchbcnaaDoor
open Go.Proofs.YtblhojadchbcnaaDoor.Gx
set_option maxRecDepth 100000
set_option maxHeartbeats 0
def namedLoop (ls : List Lab) : List (Nat × (St → Option LoopSpec)) :=
  [(3, fun _ => some { α := Nat, inv := fun i => i ≤ ls.length ∧ True, ov := fun i => [(13, .int .i64 (i : Int)), (3, .row 0)], rov := fun i => [(0, .row 0 i64 (namedL (ls.take i)))], meas := fun i => ls.length - i, mv := [(.slot 3, 0)] }),
   (6, fun (S : St) => match getT S.fr.tm 18, (S.res[0]? : Option Res) with
      | .rs (.pair (.int .i64) (.int .i64)) cs, some (Res.row _ (Ty.int IntKind.i64) base) => some { α := Nat, inv := fun j => j ≤ cs.length ∧ True, ov := fun j => [(20, .int .i64 (j : Int)), (3, .row 0)], rov := fun j => [(0, .row 0 i64 (addN base (cs.take j)))], meas := fun j => cs.length - j, mv := [(.slot 3, 0)] }
      | _, _ => none),
   (9, fun (S : St) => match (S.res[0]? : Option Res), (S.res[2]? : Option Res) with
      | some (Res.row _ (Ty.int IntKind.i64) base), some (Res.blk _ [SV.int _ c, _]) => some { α := Nat, inv := fun k => k ≤ base.length ∧ ∀ (m : Nat) (y : Int), m < k → base[m]? = some y → y < c, ov := fun k => [(8, .int .i64 (k : Int))], rov := fun _ => [], meas := fun k => base.length - k }
      | _, _ => none)]
theorem named_vc (ls : List Lab) : fvc PP (env PP [] [] [] [] (namedLoop ls)) Tryd.f58 c58 (ofArgs [.slice lab] (ls, ())) St0 (givesRow 3 i64 (namedL ls)) = (
  ls.length ≤ maxLen → ∃ (x0 : Nat), (x0 ≤ ls.length ∧ True) ∧ ((True ∧ True) ∧ ((0 : Int) = (↑x0 : Int) ∧ True ∧ (↑ls.length : Int) = (↑ls.length : Int) ∧ ls = ls ∧ SV.val (Value.slice none (0 : Nat) (0 : Nat)) = SV.val 
  (Value.slice none (0 : Nat) (0 : Nat)) ∧ ls = ls ∧ True) ∧ [] = namedL (List.take x0 ls) ∧ True) ∧ ∀ (x : Nat), x ≤ ls.length ∧ True → (decide ((↑x : Int) < (↑ls.length : Int)) = true → ((0 : Int) ≤ (↑x : Int) ∧ (↑x : 
  Int) < (↑ls.length : Int)) ∧ ∀ (y : Int × List (Int × Int)), ls[(↑x : Int).toNat]? = some y → y.snd.length ≤ maxLen → ∃ (x0 : Nat), (x0 ≤ y.snd.length ∧ True) ∧ ((True ∧ True) ∧ ((0 : Int) = (↑x0 : Int) ∧ True ∧ 
  (↑y.snd.length : Int) = (↑y.snd.length : Int) ∧ y.snd = y.snd ∧ True ∧ true = true ∧ (↑x : Int) = (↑x : Int) ∧ (↑ls.length : Int) = (↑ls.length : Int) ∧ ls = ls ∧ SV.val (Value.slice none (0 : Nat) (0 : Nat)) = SV.val 
  (Value.slice none (0 : Nat) (0 : Nat)) ∧ ls = ls ∧ True) ∧ namedL (List.take x ls) = addN (namedL (List.take x ls)) (List.take x0 y.snd) ∧ (y.fst = y.fst ∧ y.snd = y.snd ∧ True) ∧ True) ∧ ∀ (x_1 : Nat), x_1 ≤ 
  y.snd.length ∧ True → (decide ((↑x_1 : Int) < (↑y.snd.length : Int)) = true → ((0 : Int) ≤ (↑x_1 : Int) ∧ (↑x_1 : Int) < (↑y.snd.length : Int)) ∧ ∀ (y_1 : Int × Int), y.snd[(↑x_1 : Int).toNat]? = some y_1 → ∃ (x0 : 
  Nat), (x0 ≤ (addN (namedL (List.take x ls)) (List.take x_1 y.snd)).length ∧ ∀ (m : Nat) (y_2 : Int), m < x0 → (addN (namedL (List.take x ls)) (List.take x_1 y.snd))[m]? = some y_2 → y_2 < y_1.fst) ∧ ((True ∧ True) ∧ 
  ((0 : Int) = (↑x0 : Int) ∧ True ∧ true = true ∧ (↑x_1 : Int) = (↑x_1 : Int) ∧ True ∧ (↑y.snd.length : Int) = (↑y.snd.length : Int) ∧ y.snd = y.snd ∧ True ∧ true = true ∧ (↑x : Int) = (↑x : Int) ∧ (↑ls.length : Int) = 
  (↑ls.length : Int) ∧ ls = ls ∧ SV.val (Value.slice none (0 : Nat) (0 : Nat)) = SV.val (Value.slice none (0 : Nat) (0 : Nat)) ∧ ls = ls ∧ True) ∧ addN (namedL (List.take x ls)) (List.take x_1 y.snd) = addN (namedL 
  (List.take x ls)) (List.take x_1 y.snd) ∧ (y.fst = y.fst ∧ y.snd = y.snd ∧ True) ∧ (y_1.fst = y_1.fst ∧ y_1.snd = y_1.snd ∧ True) ∧ True) ∧ ∀ (x_2 : Nat), (x_2 ≤ (addN (namedL (List.take x ls)) (List.take x_1 
  y.snd)).length ∧ ∀ (m : Nat) (y_2 : Int), m < x_2 → (addN (namedL (List.take x ls)) (List.take x_1 y.snd))[m]? = some y_2 → y_2 < y_1.fst) → ∃ (v : Bool), ((decide ((↑x_2 : Int) < (↑(addN (namedL (List.take x ls)) 
  (List.take x_1 y.snd)).length : Int)) = true → ((0 : Int) ≤ (↑x_2 : Int) ∧ (↑x_2 : Int) < (↑(addN (namedL (List.take x ls)) (List.take x_1 y.snd)).length : Int)) ∧ (↑x_2 : Int).toNat < (addN (namedL (List.take x ls)) 
  (List.take x_1 y.snd)).length ∧ ∀ (y_2 : Int), (addN (namedL (List.take x ls)) (List.take x_1 y.snd))[(↑x_2 : Int).toNat]? = some y_2 → decide (y_2 < y_1.fst) = v) ∧ (decide ((↑x_2 : Int) < (↑(addN (namedL (List.take x 
  ls)) (List.take x_1 y.snd)).length : Int)) = !true → false = v)) ∧ (v = true → ∃ (x' : Nat), (x' ≤ (addN (namedL (List.take x ls)) (List.take x_1 y.snd)).length ∧ ∀ (m : Nat) (y_2 : Int), m < x' → (addN (namedL 
  (List.take x ls)) (List.take x_1 y.snd))[m]? = some y_2 → y_2 < y_1.fst) ∧ (addN (namedL (List.take x ls)) (List.take x_1 y.snd)).length - x' < (addN (namedL (List.take x ls)) (List.take x_1 y.snd)).length - x_2 ∧ 
  (True ∧ True) ∧ (IntKind.i64.wrap ((↑x_2 : Int) + (1 : Int)) = (↑x' : Int) ∧ True ∧ true = true ∧ (↑x_1 : Int) = (↑x_1 : Int) ∧ True ∧ (↑y.snd.length : Int) = (↑y.snd.length : Int) ∧ y.snd = y.snd ∧ True ∧ true = true 
  ∧ (↑x : Int) = (↑x : Int) ∧ (↑ls.length : Int) = (↑ls.length : Int) ∧ ls = ls ∧ SV.val (Value.slice none (0 : Nat) (0 : Nat)) = SV.val (Value.slice none (0 : Nat) (0 : Nat)) ∧ ls = ls ∧ True) ∧ addN (namedL (List.take 
  x ls)) (List.take x_1 y.snd) = addN (namedL (List.take x ls)) (List.take x_1 y.snd) ∧ (y.fst = y.fst ∧ y.snd = y.snd ∧ True) ∧ (y_1.fst = y_1.fst ∧ y_1.snd = y_1.snd ∧ True) ∧ True) ∧ (v = false → ∃ (v : Bool), 
  ((decide ((↑x_2 : Int) < (↑(addN (namedL (List.take x ls)) (List.take x_1 y.snd)).length : Int)) = true → ((0 : Int) ≤ (↑x_2 : Int) ∧ (↑x_2 : Int) < (↑(addN (namedL (List.take x ls)) (List.take x_1 y.snd)).length : 
  Int)) ∧ (↑x_2 : Int).toNat < (addN (namedL (List.take x ls)) (List.take x_1 y.snd)).length ∧ ∀ (y_2 : Int), (addN (namedL (List.take x ls)) (List.take x_1 y.snd))[(↑x_2 : Int).toNat]? = some y_2 → (y_2 == y_1.fst) = v) 
  ∧ (decide ((↑x_2 : Int) < (↑(addN (namedL (List.take x ls)) (List.take x_1 y.snd)).length : Int)) = !true → false = v)) ∧ (v = true → ∃ (x' : Nat), (x' ≤ y.snd.length ∧ True) ∧ y.snd.length - x' < y.snd.length - x_1 ∧ 
  (True ∧ True) ∧ (IntKind.i64.wrap ((↑x_1 : Int) + (1 : Int)) = (↑x' : Int) ∧ True ∧ (↑y.snd.length : Int) = (↑y.snd.length : Int) ∧ y.snd = y.snd ∧ True ∧ true = true ∧ (↑x : Int) = (↑x : Int) ∧ (↑ls.length : Int) = 
  (↑ls.length : Int) ∧ ls = ls ∧ SV.val (Value.slice none (0 : Nat) (0 : Nat)) = SV.val (Value.slice none (0 : Nat) (0 : Nat)) ∧ ls = ls ∧ True) ∧ addN (namedL (List.take x ls)) (List.take x_1 y.snd) = addN (namedL 
  (List.take x ls)) (List.take x' y.snd) ∧ (y.fst = y.fst ∧ y.snd = y.snd ∧ True) ∧ True) ∧ (v = false → ((0 : Int) ≤ (some (↑x_2 : Int)).getD (↑(addN (namedL (List.take x ls)) (List.take x_1 y.snd)).length : Int) ∧ 
  (some (↑x_2 : Int)).getD (↑(addN (namedL (List.take x ls)) (List.take x_1 y.snd)).length : Int) ≤ (↑(addN (namedL (List.take x ls)) (List.take x_1 y.snd)).length : Int) ∧ (0 : Int) ≤ none.getD (0 : Int) ∧ none.getD (0 
  : Int) ≤ (some (↑x_2 : Int)).getD (↑(addN (namedL (List.take x ls)) (List.take x_1 y.snd)).length : Int)) ∧ ((0 : Nat) + (List.drop (0 : Nat) (List.take ((some (↑x_2 : Int)).getD (↑(addN (namedL (List.take x ls)) 
  (List.take x_1 y.snd)).length : Int)).toNat (addN (namedL (List.take x ls)) (List.take x_1 y.snd)))).length) * (8 : Nat) ≤ (140737488355328 : Nat) ∧ (([] ++ List.drop (0 : Nat) (List.take ((some (↑x_2 : Int)).getD 
  (↑(addN (namedL (List.take x ls)) (List.take x_1 y.snd)).length : Int)).toNat (addN (namedL (List.take x ls)) (List.take x_1 y.snd)))).length + [y_1.fst].length) * (8 : Nat) ≤ (140737488355328 : Nat) ∧ ((0 : Int) ≤ 
  none.getD (↑(addN (namedL (List.take x ls)) (List.take x_1 y.snd)).length : Int) ∧ none.getD (↑(addN (namedL (List.take x ls)) (List.take x_1 y.snd)).length : Int) ≤ (↑(addN (namedL (List.take x ls)) (List.take x_1 
  y.snd)).length : Int) ∧ (0 : Int) ≤ (some (↑x_2 : Int)).getD (0 : Int) ∧ (some (↑x_2 : Int)).getD (0 : Int) ≤ none.getD (↑(addN (namedL (List.take x ls)) (List.take x_1 y.snd)).length : Int)) ∧ (([] ++ List.drop (0 : 
  Nat) (List.take ((some (↑x_2 : Int)).getD (↑(addN (namedL (List.take x ls)) (List.take x_1 y.snd)).length : Int)).toNat (addN (namedL (List.take x ls)) (List.take x_1 y.snd))) ++ [y_1.fst]).length + (List.drop ((some 
  (↑x_2 : Int)).getD (0 : Int)).toNat (List.take (none.getD (↑(addN (namedL (List.take x ls)) (List.take x_1 y.snd)).length : Int)).toNat (addN (namedL (List.take x ls)) (List.take x_1 y.snd)))).length) * (8 : Nat) ≤ 
  (140737488355328 : Nat) ∧ ∃ (x' : Nat), (x' ≤ y.snd.length ∧ True) ∧ y.snd.length - x' < y.snd.length - x_1 ∧ (True ∧ True) ∧ (IntKind.i64.wrap ((↑x_1 : Int) + (1 : Int)) = (↑x' : Int) ∧ True ∧ (↑y.snd.length : Int) = 
  (↑y.snd.length : Int) ∧ y.snd = y.snd ∧ True ∧ true = true ∧ (↑x : Int) = (↑x : Int) ∧ (↑ls.length : Int) = (↑ls.length : Int) ∧ ls = ls ∧ SV.val (Value.slice none (0 : Nat) (0 : Nat)) = SV.val (Value.slice none (0 : 
  Nat) (0 : Nat)) ∧ ls = ls ∧ True) ∧ [] ++ List.drop (0 : Nat) (List.take ((some (↑x_2 : Int)).getD (↑(addN (namedL (List.take x ls)) (List.take x_1 y.snd)).length : Int)).toNat (addN (namedL (List.take x ls)) 
  (List.take x_1 y.snd))) ++ [y_1.fst] ++ List.drop ((some (↑x_2 : Int)).getD (0 : Int)).toNat (List.take (none.getD (↑(addN (namedL (List.take x ls)) (List.take x_1 y.snd)).length : Int)).toNat (addN (namedL (List.take 
  x ls)) (List.take x_1 y.snd))) = addN (namedL (List.take x ls)) (List.take x' y.snd) ∧ (y.fst = y.fst ∧ y.snd = y.snd ∧ True) ∧ True))) ∧ (decide ((↑x_1 : Int) < (↑y.snd.length : Int)) = false → ∃ (x' : Nat), (x' ≤ 
  ls.length ∧ True) ∧ ls.length - x' < ls.length - x ∧ (True ∧ True) ∧ (IntKind.i64.wrap ((↑x : Int) + (1 : Int)) = (↑x' : Int) ∧ True ∧ (↑ls.length : Int) = (↑ls.length : Int) ∧ ls = ls ∧ SV.val (Value.slice none (0 : 
  Nat) (0 : Nat)) = SV.val (Value.slice none (0 : Nat) (0 : Nat)) ∧ ls = ls ∧ True) ∧ addN (namedL (List.take x ls)) (List.take x_1 y.snd) = namedL (List.take x' ls) ∧ True)) ∧ (decide ((↑x : Int) < (↑ls.length : Int)) = 
  false → namedL (List.take x ls) = namedL ls)) := by kernel_rfl
end Go.Proofs.YtblhojadchbcnaaDoor
namespace Go.Proofs.YtblhojadchbcnaaDoor
open Go.Proofs.YtblhojadchbcnaaDoor.Gx
set_option maxRecDepth 100000
set_option maxHeartbeats 2000000
set_option linter.unusedSimpArgs false
set_option linter.unusedVariables false
def smallLs (ls : List Lab) : Bool := decide (ls.length ≤ 1000) && ls.all (fun l => decide (l.2.length ≤ 1000000))
theorem take_snoc' {α : Type} {l : List α} {i : Nat} {x : α} (h : l[i]? = some x) : l.take (i + 1) = l.take i ++ [x] := by
  obtain ⟨hlt, rfl⟩ := List.getElem?_eq_some_iff.1 h
  rw [List.take_succ_eq_append_getElem hlt]
theorem namedL_len : (ls : List Lab) → (∀ l ∈ ls, l.2.length ≤ 1000000) → (namedL ls).length ≤ ls.length * 1000000 := by
  intro ls h
  have : ∀ (ls : List Lab) (o : List Int), (∀ l ∈ ls, l.2.length ≤ 1000000) → (ls.foldl (fun o l => addN o l.2) o).length ≤ o.length + ls.length * 1000000 := by
    intro ls
    induction ls with
    | nil => intro o _; simp
    | cons l ls ih =>
      intro o h
      have h1 := ih (addN o l.2) (fun x hx => h x (by simp [hx]))
      have h2 := addN_len l.2 o
      have h3 := h l (by simp)
      simp only [List.foldl_cons, List.length_cons]
      omega
  simpa [namedL] using this ls [] h
theorem named_own : OwnOk PP 58 [.slice lab] 3 i64 (fun x => smallLs x.1) (fun x => namedL x.1) := by
  refine own_Q mixed (fn := Tryd.f58) (c := c58) rfl rfl _ _ _ rfl ?_
  rintro ⟨ls, ⟨⟩⟩ ⟨⟨hA, hE⟩, -⟩ hp
  simp [smallLs] at hp
  obtain ⟨hp1, hp2⟩ := hp
  refine ⟨_, env_ok [] [] [] [] (namedLoop ls), rfl, hold (named_vc ls) ?_⟩
  simp only [true_and, and_true]
  intro _
  refine ⟨0, by simp, ⟨rfl, rfl⟩, ?_⟩
  intro i hi
  rcases get_cases ls i hi with ⟨l, hl, hi'⟩ | ⟨hl, hi'⟩
  · refine ⟨fun _ => ⟨by omega, fun y hy => ?_⟩, fun h => by simp at h; omega⟩
    obtain rfl : l = y := by simpa [hl] using hy
    have hll : l.2.length ≤ 1000000 := hp2 _ _ (List.mem_of_getElem? hl)
    have hbase : (namedL (ls.take i)).length ≤ i * 1000000 := by
      have := namedL_len (ls.take i) (fun l hl => hp2 _ _ (List.mem_of_mem_take hl))
      rw [List.length_take, Nat.min_eq_left hi] at this
      exact this
    intro hlm
    refine ⟨0, by simp, ⟨rfl, rfl⟩, ?_⟩
    intro j hj
    rcases get_cases l.2 j hj with ⟨x, hx, hj'⟩ | ⟨hx, hj'⟩
    · refine ⟨fun _ => ⟨by omega, fun y hy => ?_⟩, fun h => by simp at h; omega⟩
      obtain rfl : x = y := by simpa [hx] using hy
      have hsn : addN (namedL (ls.take i)) (l.2.take (j + 1)) = insN x.1 (addN (namedL (ls.take i)) (l.2.take j)) := by rw [take_snoc' hx, addN_snoc]
      have hlen := addN_len (l.2.take j) (namedL (ls.take i))
      rw [List.length_take, Nat.min_eq_left hj] at hlen
      generalize addN (namedL (ls.take i)) (l.2.take j) = o at *
      have hmul : i * 1000000 ≤ 1000000000 := by omega
      refine ⟨0, ⟨by simp, fun m y hm => by omega⟩, rfl, ?_⟩
      rintro k ⟨hk, hks⟩
      have hol : o.length ≤ maxLen := by rw [maxLen_eq]; omega
      have hins : (∀ y, o[k]? = some y → x.1 < y) → ∃ x' : Nat, x' ≤ l.2.length ∧ l.2.length - x' < l.2.length - j ∧ IntKind.i64.wrap ((j : Int) + 1) = (x' : Int) ∧ [] ++ o.take k ++ [x.1] ++ o.drop k = addN (namedL (ls.take i)) (l.2.take x') := by
        intro h
        refine ⟨j + 1, by omega, by omega, wrap_succ hj' hlm, ?_⟩
        rw [hsn, insN_new x.1 o k hk hks h]
        simp
      rcases get_cases o k hk with ⟨z, hz, hk'⟩ | ⟨hz, hk'⟩
      · refine ⟨decide (z < x.1), ?_, fun hv => ?_, fun hv => ⟨z == x.1, ?_, fun hv2 => ?_, fun hv2 => ?_⟩⟩
        · refine ⟨fun _ => ⟨by omega, by omega, fun y hy => ?_⟩, fun h => by simp at h; omega⟩
          obtain rfl : z = y := by simpa [hz] using hy
          rfl
        · refine ⟨k + 1, ⟨by omega, fun m y hm hy => ?_⟩, by omega, wrap_succ hk' hol⟩
          rcases Nat.lt_or_ge m k with h | h
          · exact hks m y h hy
          · obtain rfl : m = k := by omega
            rw [hz] at hy; cases hy; simpa using hv
        · refine ⟨fun _ => ⟨by omega, by omega, fun y hy => ?_⟩, fun h => by simp at h; omega⟩
          obtain rfl : z = y := by simpa [hz] using hy
          rfl
        · refine ⟨j + 1, by omega, by omega, wrap_succ hj' hlm, ?_⟩
          have : z = x.1 := by simpa using hv2
          rw [hsn, insN_skip x.1 o k hks (by rw [hz, this])]
        · have hlt : ∀ y, o[k]? = some y → x.1 < y := fun y hy => by
            rw [hz] at hy; cases hy; simp at hv hv2
            exact Int.lt_iff_le_and_ne.2 ⟨hv, fun e => hv2 e.symm⟩
          have := hins hlt
          simp only [Option.getD_some, Option.getD_none, Int.toNat_natCast, List.take_length, List.drop_zero]
          refine ⟨by omega, by simp; omega, by simp; omega, by omega, by simp; omega, this⟩
      · refine ⟨false, ?_, fun hv => by simp at hv, fun hv => ⟨false, ?_, fun hv2 => by simp at hv2, fun hv2 => ?_⟩⟩
        · refine ⟨fun h => by simp at h; omega, fun _ => rfl⟩
        · refine ⟨fun h => by simp at h; omega, fun _ => rfl⟩
        · have := hins (fun y hy => by rw [hz] at hy; cases hy)
          simp only [Option.getD_some, Option.getD_none, Int.toNat_natCast, List.take_length, List.drop_zero]
          refine ⟨by omega, by simp; omega, by simp; omega, by omega, by simp; omega, this⟩
    · subst hj'
      refine ⟨fun h => by simp at h, fun _ => ⟨i + 1, by omega, by omega, wrap_succ hi' hA, ?_⟩⟩
      rw [List.take_length, take_snoc' hl, namedL_snoc]
  · subst hi'
    refine ⟨fun h => by simp at h, fun _ => ?_⟩
    rw [List.take_length]
end Go.Proofs.YtblhojadchbcnaaDoor
namespace Go.Proofs.YtblhojadchbcnaaDoor
open Go.Proofs.YtblhojadchbcnaaDoor.Gx
set_option maxRecDepth 100000
set_option maxHeartbeats 0
noncomputable def p25 : Pv PP := ⟨25, _, ⟨rfl, up_ok⟩⟩
noncomputable def p37 : Pv PP := ⟨37, _, ⟨rfl, upN_ok⟩⟩
noncomputable def p41 : Pv PP := ⟨41, _, ⟨rfl, plain_ok⟩⟩
noncomputable def p40 : Pv PP := ⟨40, _, ⟨rfl, rightN_ok⟩⟩
noncomputable def p58 : Pv PP := ⟨58, _, ⟨rfl, pspec_of_own named_own⟩⟩
noncomputable def s58 : Sv PP := ⟨58, _, ⟨rfl, spec_Qo named_own⟩⟩
theorem free_vc (l : Lab) : fvc PP (eP [p41, p70]) Tryd.f42 c42 (ofArgs [lab] (l, ())) St0 (gives [.bool] (freeL l, ())) = (
  true = true ∧ (plainL (l.fst, l.snd) = true → true = true ∧ (!hasL (l.fst, l.snd) (0 : Int)) = freeL l ∧ True) ∧ (plainL (l.fst, l.snd) = !true → false = freeL l ∧ True)) := by kernel_rfl
theorem plainN_vc (l : Lab) : fvc PP (eP [p40, p62]) Tryd.f23 c23 (ofArgs [lab] (l, ())) St0 (gives [.bool] (plainL l, ())) = (
  true = true ∧ (rightL (l.fst, l.snd) = true → true = true ∧ (!hasL (l.fst, l.snd) (5 : Int)) = plainL l ∧ True) ∧ (rightL (l.fst, l.snd) = !true → false = plainL l ∧ True)) := by kernel_rfl
theorem sees_vc (t o : Lab) : fvc PP (eP [p22, p25]) Tryd.f18 c18 (ofArgs [lab, lab] (t, o, ())) St0 (gives [.bool] (seesM t o, ())) = (
  decide (t.snd.length ≤ (1000000 : Nat)) = true ∧ true = true ∧ leqM (o.fst, o.snd) ((upL (t.fst, t.snd)).fst, (upL (t.fst, t.snd)).snd) = seesM t o ∧ True) := by kernel_rfl
def leqNLoop (a b : Lab) : List (Nat × (St → Option LoopSpec)) :=
  [(2, fun _ => some { α := Nat, inv := fun i => i ≤ (namedL [a, b]).length ∧ ((namedL [a, b]).drop i).all (fun c => decide (atL a c ≤ atL b c)) = (namedL [a, b]).all (fun c => decide (atL a c ≤ atL b c)), ov := fun i => [(12, .int .i64 (i : Int))], rov := fun _ => [], meas := fun i => (namedL [a, b]).length - i })]
theorem leqN_vc (a b : Lab) : fvc PP (env PP [p58, p44] [] [] [] (leqNLoop a b)) Tryd.f31 c31 (ofArgs [lab, lab] (a, b, ())) St0 (gives [.bool] (leqN a b, ())) = (
  smallLs [(a.fst, a.snd), (b.fst, b.snd)] = true ∧ ((namedL [(a.fst, a.snd), (b.fst, b.snd)]).length ≤ maxLen → ∃ (x0 : Nat), (x0 ≤ (namedL [a, b]).length ∧ ((List.drop x0 (namedL [a, b])).all fun (c : Int) => decide 
  (atL a c ≤ atL b c)) = (namedL [a, b]).all fun (c : Int) => decide (atL a c ≤ atL b c)) ∧ ((True ∧ True) ∧ ((0 : Int) = (↑x0 : Int) ∧ (↑(namedL [(a.fst, a.snd), (b.fst, b.snd)]).length : Int) = (↑(namedL [(a.fst, 
  a.snd), (b.fst, b.snd)]).length : Int) ∧ namedL [(a.fst, a.snd), (b.fst, b.snd)] = namedL [(a.fst, a.snd), (b.fst, b.snd)] ∧ True ∧ True ∧ (a.fst = a.fst ∧ a.snd = a.snd ∧ True) ∧ (b.fst = b.fst ∧ b.snd = b.snd ∧ True) 
  ∧ True) ∧ (a.fst = a.fst ∧ a.snd = a.snd ∧ True) ∧ (b.fst = b.fst ∧ b.snd = b.snd ∧ True) ∧ True ∧ True) ∧ ∀ (x : Nat), (x ≤ (namedL [a, b]).length ∧ ((List.drop x (namedL [a, b])).all fun (c : Int) => decide (atL a c 
  ≤ atL b c)) = (namedL [a, b]).all fun (c : Int) => decide (atL a c ≤ atL b c)) → (decide ((↑x : Int) < (↑(namedL [(a.fst, a.snd), (b.fst, b.snd)]).length : Int)) = true → ((0 : Int) ≤ (↑x : Int) ∧ (↑x : Int) < 
  (↑(namedL [(a.fst, a.snd), (b.fst, b.snd)]).length : Int)) ∧ ∀ (y : Int), (namedL [(a.fst, a.snd), (b.fst, b.snd)])[(↑x : Int).toNat]? = some y → true = true ∧ true = true ∧ (decide (atL (a.fst, a.snd) y > atL (b.fst, 
  b.snd) y) = true → false = leqN a b ∧ True) ∧ (decide (atL (a.fst, a.snd) y > atL (b.fst, b.snd) y) = false → ∃ (x' : Nat), (x' ≤ (namedL [a, b]).length ∧ ((List.drop x' (namedL [a, b])).all fun (c : Int) => decide 
  (atL a c ≤ atL b c)) = (namedL [a, b]).all fun (c : Int) => decide (atL a c ≤ atL b c)) ∧ (namedL [a, b]).length - x' < (namedL [a, b]).length - x ∧ (True ∧ True) ∧ (IntKind.i64.wrap ((↑x : Int) + (1 : Int)) = (↑x' : 
  Int) ∧ (↑(namedL [(a.fst, a.snd), (b.fst, b.snd)]).length : Int) = (↑(namedL [(a.fst, a.snd), (b.fst, b.snd)]).length : Int) ∧ namedL [(a.fst, a.snd), (b.fst, b.snd)] = namedL [(a.fst, a.snd), (b.fst, b.snd)] ∧ True ∧ 
  True ∧ (a.fst = a.fst ∧ a.snd = a.snd ∧ True) ∧ (b.fst = b.fst ∧ b.snd = b.snd ∧ True) ∧ True) ∧ (a.fst = a.fst ∧ a.snd = a.snd ∧ True) ∧ (b.fst = b.fst ∧ b.snd = b.snd ∧ True) ∧ True ∧ True)) ∧ (decide ((↑x : Int) < 
  (↑(namedL [(a.fst, a.snd), (b.fst, b.snd)]).length : Int)) = false → decide (a.fst ≤ b.fst) = leqN a b ∧ True))) := by kernel_rfl
end Go.Proofs.YtblhojadchbcnaaDoor
namespace Go.Proofs.YtblhojadchbcnaaDoor
open Go.Proofs.YtblhojadchbcnaaDoor.Gx
set_option maxRecDepth 100000
set_option maxHeartbeats 2000000
set_option linter.unusedSimpArgs false
set_option linter.unusedVariables false
abbrev sml (l : Lab) : Bool := decide (l.2.length ≤ 1000000)
theorem free_ok : PSpecOk PP 42 (Q [lab] [.bool] (fun _ => true) (fun x => (freeL x.1, ()))) := by
  refine pspec_Q mixed (fn := Tryd.f42) (c := c42) rfl rfl _ _ rfl ?_
  rintro ⟨l, ⟨⟩⟩ - -
  refine ⟨_, env_ok [p41, p70] [] [] [] [], rfl, hold (free_vc l) ?_⟩
  simp only [true_and, and_true]
  constructor <;> intro h
  · have h : plainL l = true := h; simp [freeL, h]
  · have h : plainL l = !true := h; simp at h; simp [freeL, h]
theorem plainN_ok : PSpecOk PP 23 (Q [lab] [.bool] (fun _ => true) (fun x => (plainL x.1, ()))) := by
  refine pspec_Q mixed (fn := Tryd.f23) (c := c23) rfl rfl _ _ rfl ?_
  rintro ⟨l, ⟨⟩⟩ - -
  refine ⟨_, env_ok [p40, p62] [] [] [] [], rfl, hold (plainN_vc l) ?_⟩
  simp only [true_and, and_true]
  constructor <;> intro h
  · have h : rightL l = true := h; simp [plainL, h]
  · have h : rightL l = !true := h; simp at h; simp [plainL, h]
theorem sees_ok : PSpecOk PP 18 (Q [lab, lab] [.bool] (fun x => sml x.1) (fun x => (seesM x.1 x.2.1, ()))) := by
  refine pspec_Q mixed (fn := Tryd.f18) (c := c18) rfl rfl _ _ rfl ?_
  rintro ⟨t, o, ⟨⟩⟩ - hp
  refine ⟨_, env_ok [p22, p25] [] [] [] [], rfl, hold (sees_vc t o) ?_⟩
  simp only [true_and, and_true]
  exact ⟨hp, rfl⟩
theorem leqN_ok : PSpecOk PP 31 (Q [lab, lab] [.bool] (fun x => sml x.1 && sml x.2.1) (fun x => (leqN x.1 x.2.1, ()))) := by
  refine pspec_Q mixed (fn := Tryd.f31) (c := c31) rfl rfl _ _ rfl ?_
  rintro ⟨a, b, ⟨⟩⟩ - hp
  simp at hp
  refine ⟨_, env_ok [p58, p44] [] [] [] (leqNLoop a b), rfl, hold (leqN_vc a b) ?_⟩
  simp only [true_and, and_true]
  refine ⟨by simp [smallLs, hp], fun hA => ?_⟩
  change (namedL [a, b]).length ≤ maxLen at hA
  refine ⟨0, ⟨by simp, rfl⟩, rfl, ?_⟩
  rintro i ⟨hi, hinv⟩
  rcases get_cases (namedL [a, b]) i hi with ⟨x, hx, hi'⟩ | ⟨hx, hi'⟩
  · rw [drop_get hx, List.all_cons] at hinv
    refine ⟨fun _ => ⟨by change _ ∧ (i : Int) < ((namedL [a, b]).length : Int); omega, fun y hy => ?_⟩, fun h => by change decide ((i : Int) < ((namedL [a, b]).length : Int)) = false at h; simp at h; omega⟩
    change (namedL [a, b])[((i : Int)).toNat]? = some y at hy
    obtain rfl : x = y := by simpa [hx] using hy
    change (decide (atL a x > atL b x) = true → false = leqN a b) ∧ (decide (atL a x > atL b x) = false → _)
    refine ⟨fun h => ?_, fun h => ⟨i + 1, ⟨by omega, ?_⟩, by omega, wrap_succ hi' hA⟩⟩
    · simp at h
      have : ¬ atL a x ≤ atL b x := Int.not_le.2 h
      simp [leqN, ← hinv, this]
    · simp at h
      rw [← hinv]; simp [h]
  · subst hi'
    refine ⟨fun h => by simp at h, fun _ => ?_⟩
    rw [List.drop_length] at hinv
    simp [leqN, ← hinv]
end Go.Proofs.YtblhojadchbcnaaDoor
namespace Go.Proofs.YtblhojadchbcnaaDoor
open Go.Proofs.YtblhojadchbcnaaDoor.Gx
set_option maxRecDepth 100000
set_option maxHeartbeats 0
noncomputable def p42 : Pv PP := ⟨42, _, ⟨rfl, free_ok⟩⟩
noncomputable def p23 : Pv PP := ⟨23, _, ⟨rfl, plainN_ok⟩⟩
noncomputable def p18 : Pv PP := ⟨18, _, ⟨rfl, sees_ok⟩⟩
noncomputable def p31 : Pv PP := ⟨31, _, ⟨rfl, leqN_ok⟩⟩
theorem freeN_vc (l : Lab) : fvc PP (eP [p23, p62]) Tryd.f26 c26 (ofArgs [lab] (l, ())) St0 (gives [.bool] (freeL l, ())) = (
  true = true ∧ (plainL (l.fst, l.snd) = true → true = true ∧ (!hasL (l.fst, l.snd) (0 : Int)) = freeL l ∧ True) ∧ (plainL (l.fst, l.snd) = !true → false = freeL l ∧ True)) := by kernel_rfl
theorem seesN_vc (t o : Lab) : fvc PP (eP [p31, p37]) Tryd.f19 c19 (ofArgs [lab, lab] (t, o, ())) St0 (gives [.bool] (seesN t o, ())) = (
  decide (t.snd.length ≤ (1000000 : Nat)) = true ∧ (sml (o.fst, o.snd) && sml ((upL (t.fst, t.snd)).fst, (upL (t.fst, t.snd)).snd)) = true ∧ leqN (o.fst, o.snd) ((upL (t.fst, t.snd)).fst, (upL (t.fst, t.snd)).snd) = 
  seesN t o ∧ True) := by kernel_rfl
theorem alters_vc (t o : Lab) : fvc PP (eP [p22, p18]) Tryd.f20 c20 (ofArgs [lab, lab] (t, o, ())) St0 (gives [.bool] (altersM t o, ())) = (
  true = true ∧ (leqM (t.fst, t.snd) (o.fst, o.snd) = true → sml (t.fst, t.snd) = true ∧ seesM (t.fst, t.snd) (o.fst, o.snd) = altersM t o ∧ True) ∧ (leqM (t.fst, t.snd) (o.fst, o.snd) = !true → false = altersM t o ∧ 
  True)) := by kernel_rfl
def belowLoop (l a b : Lab) : List (Nat × (St → Option LoopSpec)) :=
  [(2, fun _ => some { α := Nat, inv := fun i => i ≤ (namedL [l, a, b] ++ [0]).length ∧ ((namedL [l, a, b] ++ [0]).drop i).all (fun c => decide (at0 l c ≤ max (at0 a c) (at0 b c))) = belowL l a b, ov := fun i => [(15, .int .i64 (i : Int))], rov := fun _ => [], meas := fun i => (namedL [l, a, b] ++ [0]).length - i })]
end Go.Proofs.YtblhojadchbcnaaDoor
namespace Go.Proofs.YtblhojadchbcnaaDoor
open Go.Proofs.YtblhojadchbcnaaDoor.Gx
set_option maxRecDepth 100000
set_option maxHeartbeats 2000000
set_option linter.unusedSimpArgs false
set_option linter.unusedVariables false
theorem maxI_eq (a b : Int) : maxI a b = max a b := by
  unfold maxI; split <;> omega
theorem upL_len (l : Lab) : (upL l).2.length ≤ l.2.length := turnR_len _ _ _ _
theorem sml_up {l : Lab} (h : sml l = true) : sml (upL l) = true := by
  simp at h ⊢; have := upL_len l; omega
theorem freeN_ok : PSpecOk PP 26 (Q [lab] [.bool] (fun _ => true) (fun x => (freeL x.1, ()))) := by
  refine pspec_Q mixed (fn := Tryd.f26) (c := c26) rfl rfl _ _ rfl ?_
  rintro ⟨l, ⟨⟩⟩ - -
  refine ⟨_, env_ok [p23, p62] [] [] [] [], rfl, hold (freeN_vc l) ?_⟩
  simp only [true_and, and_true, Prod.eta]
  constructor <;> intro h <;> simp_all [freeL]
theorem seesN_ok : PSpecOk PP 19 (Q [lab, lab] [.bool] (fun x => sml x.1 && sml x.2.1) (fun x => (seesN x.1 x.2.1, ()))) := by
  refine pspec_Q mixed (fn := Tryd.f19) (c := c19) rfl rfl _ _ rfl ?_
  rintro ⟨t, o, ⟨⟩⟩ - hp
  rw [Bool.and_eq_true] at hp
  refine ⟨_, env_ok [p31, p37] [] [] [] [], rfl, hold (seesN_vc t o) ?_⟩
  simp only [true_and, and_true, Prod.eta, Bool.and_eq_true]
  exact ⟨hp.1, ⟨hp.2, sml_up hp.1⟩, rfl⟩
theorem alters_ok : PSpecOk PP 20 (Q [lab, lab] [.bool] (fun x => sml x.1) (fun x => (altersM x.1 x.2.1, ()))) := by
  refine pspec_Q mixed (fn := Tryd.f20) (c := c20) rfl rfl _ _ rfl ?_
  rintro ⟨t, o, ⟨⟩⟩ - hp
  refine ⟨_, env_ok [p22, p18] [] [] [] [], rfl, hold (alters_vc t o) ?_⟩
  simp only [true_and, and_true, Prod.eta]
  refine ⟨fun h => ⟨hp, by simp [altersM, h]⟩, fun h => ?_⟩
  simp at h; simp [altersM, h]
end Go.Proofs.YtblhojadchbcnaaDoor
namespace Go.Proofs.YtblhojadchbcnaaDoor
open Go.Proofs.YtblhojadchbcnaaDoor.Gx
set_option maxRecDepth 100000
set_option maxHeartbeats 0
noncomputable def p19 : Pv PP := ⟨19, _, ⟨rfl, seesN_ok⟩⟩
theorem altersN_vc (t o : Lab) : fvc PP (eP [p31, p19]) Tryd.f21 c21 (ofArgs [lab, lab] (t, o, ())) St0 (gives [.bool] (altersN t o, ())) = (
  (sml (t.fst, t.snd) && sml (o.fst, o.snd)) = true ∧ (leqN (t.fst, t.snd) (o.fst, o.snd) = true → (sml (t.fst, t.snd) && sml (o.fst, o.snd)) = true ∧ seesN (t.fst, t.snd) (o.fst, o.snd) = altersN t o ∧ True) ∧ (leqN 
  (t.fst, t.snd) (o.fst, o.snd) = !true → false = altersN t o ∧ True)) := by kernel_rfl
/-- What a closure over a category gives of a label. -/
def catOf (S : St) : SV → Option Int
  | .ptr i _ => match (S.res[i]? : Option Res) with
    | some (Res.blk _ (SV.int _ c :: _)) => some c
    | some (Res.ro _ (SV.int _ c :: _)) => some c
    | _ => none
  | _ => none
def boxLs (S : St) : SV → Option (List Lab)
  | .ptr i _ => match (S.res[i]? : Option Res) with
    | some (Res.blk _ (SV.rs (.pair (.int .i64) (.slice (.pair (.int .i64) (.int .i64)))) bs :: _)) => some bs
    | some (Res.ro _ (SV.rs (.pair (.int .i64) (.slice (.pair (.int .i64) (.int .i64)))) bs :: _)) => some bs
    | _ => none
  | _ => none
def underLoop (l : Lab) (bs : List Lab) : List (Nat × (St → Option LoopSpec)) :=
  [(4, fun _ => some { α := Nat, inv := fun i => i ≤ (l :: bs).length ∧ ((l :: bs).drop i).all (undB l bs) = (l :: bs).all (undB l bs), ov := fun i => [(18, .int .i64 (i : Int))], rov := fun _ => [], meas := fun i => (l :: bs).length - i }),
   (7, fun (S : St) => match getT S.fr.tm 23 with
      | .rs (.pair (.int .i64) (.int .i64)) cs => some { α := Nat, inv := fun j => j ≤ cs.length ∧ (cs.drop j).all (fun x => decide (atL l x.1 ≤ topF (fun b => atL b x.1) bs)) = cs.all (fun x => decide (atL l x.1 ≤ topF (fun b => atL b x.1) bs)), ov := fun j => [(25, .int .i64 (j : Int))], rov := fun _ => [], meas := fun j => cs.length - j }
      | _ => none)]
end Go.Proofs.YtblhojadchbcnaaDoor
namespace Go.Proofs.YtblhojadchbcnaaDoor
open Go.Proofs.YtblhojadchbcnaaDoor.Gx
set_option maxRecDepth 100000
set_option maxHeartbeats 2000000
set_option linter.unusedSimpArgs false
set_option linter.unusedVariables false
theorem altersN_ok : PSpecOk PP 21 (Q [lab, lab] [.bool] (fun x => sml x.1 && sml x.2.1) (fun x => (altersN x.1 x.2.1, ()))) := by
  refine pspec_Q mixed (fn := Tryd.f21) (c := c21) rfl rfl _ _ rfl ?_
  rintro ⟨t, o, ⟨⟩⟩ - hp
  refine ⟨_, env_ok [p31, p19] [] [] [] [], rfl, hold (altersN_vc t o) ?_⟩
  simp only [true_and, and_true, Prod.eta]
  refine ⟨hp, fun h => ⟨hp, by simp [altersN, h]⟩, fun h => ?_⟩
  simp at h; simp [altersN, h]
theorem topF_part (f : Lab → Int) (bs : List Lab) (hA : bs.length ≤ maxLen) : ∃ x0 : Nat, x0 ≤ bs.length ∧ ((0:Int) = (x0:Int) ∧ (0:Int) = topF f (bs.take x0)) ∧
    ∀ (x : Nat), x ≤ bs.length → (decide ((x:Int) < (bs.length:Int)) = true → ((0:Int) ≤ (x:Int) ∧ (x:Int) < (bs.length:Int)) ∧ ∀ y, bs[((x:Int)).toNat]? = some y → ∃ x', x' ≤ bs.length ∧ bs.length - x' < bs.length - x ∧ IntKind.i64.wrap ((x:Int)+1) = (x':Int) ∧ maxI (topF f (bs.take x)) (f y) = topF f (bs.take x')) ∧
      (decide ((x:Int) < (bs.length:Int)) = false → topF f (bs.take x) = topF f bs) := by
  refine ⟨0, by simp, ⟨rfl, rfl⟩, ?_⟩
  intro i hi
  rcases get_cases bs i hi with ⟨x, hx, hi'⟩ | ⟨hx, hi'⟩
  · refine ⟨fun _ => ⟨by omega, fun y hy => ?_⟩, fun h => by simp at h; omega⟩
    obtain rfl : x = y := by simpa [hx] using hy
    refine ⟨i + 1, by omega, by omega, wrap_succ hi' hA, ?_⟩
    rw [take_snoc' hx, maxI_eq]
    simp [topF]
  · subst hi'
    refine ⟨fun h => by simp at h, fun _ => ?_⟩
    rw [List.take_length]
theorem underL_eq (l : Lab) (bs : List Lab) : underL l bs = ((l :: bs).all (undB l bs) && decide (l.1 ≤ topF (fun l => l.1) bs)) := rfl
end Go.Proofs.YtblhojadchbcnaaDoor
namespace Go.Proofs.YtblhojadchbcnaaDoor
open Go.Proofs.YtblhojadchbcnaaDoor.Gx
set_option maxRecDepth 100000
set_option maxHeartbeats 0
noncomputable def p20 : Pv PP := ⟨20, _, ⟨rfl, alters_ok⟩⟩
noncomputable def p21 : Pv PP := ⟨21, _, ⟨rfl, altersN_ok⟩⟩
noncomputable def p26 : Pv PP := ⟨26, _, ⟨rfl, freeN_ok⟩⟩
def rightsLoop (ls : List Lab) : List (Nat × (St → Option LoopSpec)) :=
  [(2, fun _ => some { α := Nat, inv := fun i => i ≤ ls.length ∧ (ls.drop i).all rightL = ls.all rightL, ov := fun i => [(7, .int .i64 (i : Int))], rov := fun _ => [], meas := fun i => ls.length - i })]
theorem rights_vc (ls : List Lab) : fvc PP (env PP [p40] [] [] [] (rightsLoop ls)) Tryd.f17 c17 (ofArgs [.slice lab] (ls, ())) St0 (gives [.bool] (rightsL ls, ())) = (
  ls.length ≤ maxLen → ∃ (x0 : Nat), (x0 ≤ ls.length ∧ (List.drop x0 ls).all rightL = ls.all rightL) ∧ ((True ∧ True) ∧ ((0 : Int) = (↑x0 : Int) ∧ (↑ls.length : Int) = (↑ls.length : Int) ∧ ls = ls ∧ ls = ls ∧ True) ∧ 
  True) ∧ ∀ (x : Nat), x ≤ ls.length ∧ (List.drop x ls).all rightL = ls.all rightL → (decide ((↑x : Int) < (↑ls.length : Int)) = true → ((0 : Int) ≤ (↑x : Int) ∧ (↑x : Int) < (↑ls.length : Int)) ∧ ∀ (y : Int × List (Int 
  × Int)), ls[(↑x : Int).toNat]? = some y → true = true ∧ ((!rightL (y.fst, y.snd)) = true → false = rightsL ls ∧ True) ∧ ((!rightL (y.fst, y.snd)) = false → ∃ (x' : Nat), (x' ≤ ls.length ∧ (List.drop x' ls).all rightL = 
  ls.all rightL) ∧ ls.length - x' < ls.length - x ∧ (True ∧ True) ∧ (IntKind.i64.wrap ((↑x : Int) + (1 : Int)) = (↑x' : Int) ∧ (↑ls.length : Int) = (↑ls.length : Int) ∧ ls = ls ∧ ls = ls ∧ True) ∧ True)) ∧ (decide ((↑x : 
  Int) < (↑ls.length : Int)) = false → true = rightsL ls ∧ True)) := by kernel_rfl
def boxLab (S : St) : SV → Option Lab
  | .ptr i _ => match (S.res[i]? : Option Res) with
    | some (Res.blk _ [SV.int _ d, SV.rs (.pair (.int .i64) (.int .i64)) cs]) => some (d, cs)
    | some (Res.ro _ [SV.int _ d, SV.rs (.pair (.int .i64) (.int .i64)) cs]) => some (d, cs)
    | _ => none
  | _ => none
def enterLoop (t g w : Lab) : List (Nat × (St → Option LoopSpec)) :=
  [(7, fun _ => some { α := Nat × Bool, inv := fun x => x.1 ≤ [t, g, w].length ∧ (x.2 && ([t, g, w].drop x.1).all (aboveL t g w)) = floorM t g w, ov := fun x => [(33, .int .i64 (x.1 : Int)), (15, .bool x.2)], rov := fun _ => [], meas := fun x => [t, g, w].length - x.1 }),
   (10, fun (S : St) => match getT S.fr.tm 38, getT S.fr.tm 15 with
      | .rs (.pair (.int .i64) (.int .i64)) cs, .bool fl => some { α := Nat × Bool, inv := fun x => x.1 ≤ cs.length ∧ (x.2 && (cs.drop x.1).all fun x => aboveB t g w (fun m => atL m x.1)) = (fl && cs.all fun x => aboveB t g w (fun m => atL m x.1)), ov := fun x => [(40, .int .i64 (x.1 : Int)), (15, .bool x.2)], rov := fun _ => [], meas := fun x => cs.length - x.1 }
      | _, _ => none)]
def enterNLoop (t c g gc w wc : Lab) : List (Nat × (St → Option LoopSpec)) :=
  [(5, fun _ => some { α := Nat × Bool, inv := fun x => x.1 ≤ (namedL [t, g, w] ++ [0]).length ∧ (x.2 && ((namedL [t, g, w] ++ [0]).drop x.1).all fun k => decide (floorN t g k ≤ at0 w k)) = (okN t c gc w wc && (namedL [t, g, w] ++ [0]).all fun k => decide (floorN t g k ≤ at0 w k)), ov := fun x => [(44, .int .i64 (x.1 : Int)), (13, .bool x.2)], rov := fun _ => [], meas := fun x => (namedL [t, g, w] ++ [0]).length - x.1 })]
end Go.Proofs.YtblhojadchbcnaaDoor
namespace Go.Proofs.YtblhojadchbcnaaDoor
open Go.Proofs.YtblhojadchbcnaaDoor.Gx
set_option maxRecDepth 100000
set_option maxHeartbeats 2000000
set_option linter.unusedSimpArgs false
set_option linter.unusedVariables false
theorem rights_ok : PSpecOk PP 17 (Q [.slice lab] [.bool] (fun _ => true) (fun x => (rightsL x.1, ()))) := by
  refine pspec_Q mixed (fn := Tryd.f17) (c := c17) rfl rfl _ _ rfl ?_
  rintro ⟨ls, ⟨⟩⟩ ⟨⟨hA, -⟩, -⟩ -
  refine ⟨_, env_ok [p40] [] [] [] (rightsLoop ls), rfl, hold (rights_vc ls) ?_⟩
  simp only [true_and, and_true, Prod.eta]
  intro hA
  refine ⟨0, ⟨by simp, rfl⟩, rfl, ?_⟩
  rintro i ⟨hi, hinv⟩
  rcases get_cases ls i hi with ⟨x, hx, hi'⟩ | ⟨hx, hi'⟩
  · rw [drop_get hx, List.all_cons] at hinv
    refine ⟨fun _ => ⟨by omega, fun y hy => ?_⟩, fun h => by simp at h; omega⟩
    obtain rfl : x = y := by simpa [hx] using hy
    refine ⟨fun h => ?_, fun h => ⟨i + 1, ⟨by omega, ?_⟩, by omega, wrap_succ hi' hA⟩⟩
    · simp at h; rw [h] at hinv; exact hinv
    · simp at h; rw [h] at hinv; simpa using hinv
  · subst hi'
    refine ⟨fun h => by simp at h, fun _ => ?_⟩
    rw [List.drop_length] at hinv
    exact hinv
theorem above_conj (t g w : Lab) (f : Lab → Int) : (((f t == 0) = false → (f g == 0) = (f t == 0 || f g == 0)) ∧ ((f t == 0) = !false → true = (f t == 0 || f g == 0))) ∧
    ((f t == 0 || f g == 0) = false → decide (f w ≥ max (f t) (f g)) = aboveB t g w f) ∧ ((f t == 0 || f g == 0) = !false → true = aboveB t g w f) := by
  unfold aboveB
  cases f t == 0 <;> cases f g == 0 <;> simp
end Go.Proofs.YtblhojadchbcnaaDoor
namespace Go.Proofs.YtblhojadchbcnaaDoor
open Go.Proofs.YtblhojadchbcnaaDoor.Gx
set_option maxRecDepth 100000
set_option maxHeartbeats 0
abbrev thr : Ty := .pair lab lab
noncomputable def p17 : Pv PP := ⟨17, _, ⟨rfl, rights_ok⟩⟩
end Go.Proofs.YtblhojadchbcnaaDoor
namespace Go.Proofs.YtblhojadchbcnaaDoor
open Go.Proofs.YtblhojadchbcnaaDoor.Gx
set_option maxRecDepth 100000
set_option maxHeartbeats 2000000
set_option linter.unusedSimpArgs false
set_option linter.unusedVariables false
end Go.Proofs.YtblhojadchbcnaaDoor
