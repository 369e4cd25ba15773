/- Meets, and joins and meets of the reference; the laws that compare labels; conditions: lengths below a hundred. -/
import Derived.Test.YtblhojadchbcnaaDoorLc3
import Derived.Test.YtblhojadchbcnaaDoorPa3
namespace Go.Proofs.YtblhojadchbcnaaDoor
open Go.Proofs.YtblhojadchbcnaaDoor.Gx
set_option maxRecDepth 100000
set_option maxHeartbeats 0
noncomputable def c29 : Code := Tryd.f29.body.getD .skip
noncomputable def c66 : Code := Tryd.f66.body.getD .skip
noncomputable def c28 : Code := Tryd.f28.body.getD .skip
noncomputable def c30 : Code := Tryd.f30.body.getD .skip
noncomputable def s66 : Sv PP := ⟨66, inl PP e0 Tryd.f66 c66, ⟨rfl, inl_ok (env_ok ..) rfl mixed rfl rfl⟩⟩
noncomputable def eBothM (f : Int → Int → Int) (a b : Lab) : Env := env PP [p55] [s66, ⟨61, inl PP (env PP [] [] [] [] []) Tryd.f61 c61, ⟨rfl, inl_ok (env_ok ..) rfl mixed rfl rfl⟩⟩]
  [⟨78, inlY PP (env PP [] [] [] [] (bothLoop f a b)) Tryd.f78 c78, ⟨rfl, inlY_ok (env_ok ..) mixed rfl rfl⟩⟩] [] []
noncomputable def s64m (f : Int → Int → Int) (a b : Lab) : Sv PP := ⟨64, inl PP (eBothM f a b) Tryd.f64 c64, ⟨rfl, inl_ok (env_ok ..) rfl mixed rfl rfl⟩⟩
theorem meet_vc (a b : Lab) : fvc PP (env PP [] [s64m minI a b] [] [] []) Tryd.f29 c29 (ofArgs [lab, lab] (a, b, ())) St0 (gives [lab, i64] ((bothL min a b).1, (bothL min a b).2, ())) = (
  ∃ (x0 : Nat × Nat × List (Int × Int)), ((x0.fst ≤ a.snd.length ∧ x0.snd.fst ≤ b.snd.length) ∧ x0.snd.snd.length ≤ x0.fst + x0.snd.fst ∧ x0.snd.snd ++ bothR minI (minI a.fst b.fst) (levL a b x0.fst x0.snd.fst) = bothR 
  minI (minI a.fst b.fst) (levL a b (0 : Nat) (0 : Nat))) ∧ ((((True ∧ True ∧ True) ∧ True ∧ (0 : Int) = (0 : Int) ∧ True ∧ True ∧ True ∧ True ∧ (a.fst = a.fst ∧ a.snd = a.snd ∧ True) ∧ (b.fst = b.fst ∧ b.snd = b.snd ∧ 
  True) ∧ True ∧ True) ∧ ((b.fst = b.fst ∧ b.snd = b.snd ∧ True) ∧ (a.fst = a.fst ∧ a.snd = a.snd ∧ True) ∧ (0 : Int) = (0 : Int) ∧ True ∧ True ∧ True ∧ (a.fst = a.fst ∧ a.snd = a.snd ∧ True) ∧ (b.fst = b.fst ∧ b.snd = 
  b.snd ∧ True) ∧ True) ∧ True ∧ True) ∧ ((0 : Int) = (↑x0.fst : Int) ∧ (0 : Int) = (↑x0.snd.fst : Int) ∧ True ∧ True ∧ True ∧ True) ∧ (a.fst = a.fst ∧ a.snd = a.snd ∧ True) ∧ (b.fst = b.fst ∧ b.snd = b.snd ∧ True) ∧ ((0 
  : Int) = (0 : Int) ∧ SV.val (Value.slice none (0 : Nat) (0 : Nat)) = SV.val (Value.slice none (0 : Nat) (0 : Nat)) ∧ True) ∧ (a.fst = a.fst ∧ a.snd = a.snd ∧ True) ∧ (b.fst = b.fst ∧ b.snd = b.snd ∧ True) ∧ (True ∧ 
  True) ∧ ((0 : Int) = (0 : Int) ∧ SV.val (Value.slice none (0 : Nat) (0 : Nat)) = SV.val (Value.slice none (0 : Nat) (0 : Nat)) ∧ True) ∧ (minI a.fst b.fst = minI a.fst b.fst ∧ True ∧ True) ∧ (a.fst = a.fst ∧ a.snd = 
  a.snd ∧ True) ∧ (b.fst = b.fst ∧ b.snd = b.snd ∧ True) ∧ True ∧ ((True ∧ True ∧ True) ∧ True ∧ (0 : Int) = (0 : Int) ∧ True ∧ True ∧ True ∧ True ∧ (a.fst = a.fst ∧ a.snd = a.snd ∧ True) ∧ (b.fst = b.fst ∧ b.snd = b.snd 
  ∧ True) ∧ True ∧ True) ∧ [] = x0.snd.snd ∧ True) ∧ ∀ (x : Nat × Nat × List (Int × Int)), (x.fst ≤ a.snd.length ∧ x.snd.fst ≤ b.snd.length) ∧ x.snd.snd.length ≤ x.fst + x.snd.fst ∧ x.snd.snd ++ bothR minI (minI a.fst 
  b.fst) (levL a b x.fst x.snd.fst) = bothR minI (minI a.fst b.fst) (levL a b (0 : Nat) (0 : Nat)) → ∃ (v : Bool), (a.snd.length ≤ maxLen → (decide ((↑x.fst : Int) < (↑a.snd.length : Int)) = false → b.snd.length ≤ maxLen 
  → decide ((↑x.snd.fst : Int) < (↑b.snd.length : Int)) = v) ∧ (decide ((↑x.fst : Int) < (↑a.snd.length : Int)) = !false → true = v)) ∧ (v = true → ∃ (v : Bool), ((decide ((↑x.snd.fst : Int) ≥ (↑b.snd.length : Int)) = 
  false → (decide ((↑x.fst : Int) < (↑a.snd.length : Int)) = true → ((0 : Int) ≤ (↑x.fst : Int) ∧ (↑x.fst : Int) < (↑a.snd.length : Int)) ∧ ∀ (y : Int × Int), a.snd[(↑x.fst : Int).toNat]? = some y → ((0 : Int) ≤ 
  (↑x.snd.fst : Int) ∧ (↑x.snd.fst : Int) < (↑b.snd.length : Int)) ∧ ∀ (y_1 : Int × Int), b.snd[(↑x.snd.fst : Int).toNat]? = some y_1 → decide (y.fst ≤ y_1.fst) = v) ∧ (decide ((↑x.fst : Int) < (↑a.snd.length : Int)) = 
  !true → false = v)) ∧ (decide ((↑x.snd.fst : Int) ≥ (↑b.snd.length : Int)) = !false → true = v)) ∧ ∃ (v_1 : Bool), ((decide ((↑x.fst : Int) ≥ (↑a.snd.length : Int)) = false → (decide ((↑x.snd.fst : Int) < 
  (↑b.snd.length : Int)) = true → ((0 : Int) ≤ (↑x.snd.fst : Int) ∧ (↑x.snd.fst : Int) < (↑b.snd.length : Int)) ∧ ∀ (y : Int × Int), b.snd[(↑x.snd.fst : Int).toNat]? = some y → ((0 : Int) ≤ (↑x.fst : Int) ∧ (↑x.fst : 
  Int) < (↑a.snd.length : Int)) ∧ ∀ (y_1 : Int × Int), a.snd[(↑x.fst : Int).toNat]? = some y_1 → decide (y.fst ≤ y_1.fst) = v_1) ∧ (decide ((↑x.snd.fst : Int) < (↑b.snd.length : Int)) = !true → false = v_1)) ∧ (decide 
  ((↑x.fst : Int) ≥ (↑a.snd.length : Int)) = !false → true = v_1)) ∧ (v = true → ((0 : Int) ≤ (↑x.fst : Int) ∧ (↑x.fst : Int) < (↑a.snd.length : Int)) ∧ ∀ (y : Int × Int), a.snd[(↑x.fst : Int).toNat]? = some y → (v_1 = 
  true → ((0 : Int) ≤ (↑x.snd.fst : Int) ∧ (↑x.snd.fst : Int) < (↑b.snd.length : Int)) ∧ ∀ (y_1 : Int × Int), b.snd[(↑x.snd.fst : Int).toNat]? = some y_1 → ((0 : Int) ≤ (0 : Int) ∧ (0 : Int) < (↑(2 : Nat) : Int)) ∧ ((0 : 
  Int) ≤ (1 : Int) ∧ (1 : Int) < (↑(2 : Nat) : Int)) ∧ ((minI y.snd y_1.snd != minI a.fst b.fst) = true → (x.snd.snd.length + [(maxI y.fst y_1.fst, minI y.snd y_1.snd)].length) * (16 : Nat) ≤ (140737488355328 : Nat) ∧ ∃ 
  (x' : Nat × Nat × List (Int × Int)), ((x'.fst ≤ a.snd.length ∧ x'.snd.fst ≤ b.snd.length) ∧ x'.snd.snd.length ≤ x'.fst + x'.snd.fst ∧ x'.snd.snd ++ bothR minI (minI a.fst b.fst) (levL a b x'.fst x'.snd.fst) = bothR 
  minI (minI a.fst b.fst) (levL a b (0 : Nat) (0 : Nat))) ∧ a.snd.length + b.snd.length - x'.fst - x'.snd.fst < a.snd.length + b.snd.length - x.fst - x.snd.fst ∧ (((True ∧ True ∧ True) ∧ True ∧ (0 : Int) = (0 : Int) ∧ 
  True ∧ True ∧ True ∧ True ∧ (a.fst = a.fst ∧ a.snd = a.snd ∧ True) ∧ (b.fst = b.fst ∧ b.snd = b.snd ∧ True) ∧ True ∧ True) ∧ ((b.fst = b.fst ∧ b.snd = b.snd ∧ True) ∧ (a.fst = a.fst ∧ a.snd = a.snd ∧ True) ∧ (0 : Int) 
  = (0 : Int) ∧ True ∧ True ∧ True ∧ (a.fst = a.fst ∧ a.snd = a.snd ∧ True) ∧ (b.fst = b.fst ∧ b.snd = b.snd ∧ True) ∧ True) ∧ True ∧ True) ∧ (IntKind.i64.wrap ((↑x.fst : Int) + (1 : Int)) = (↑x'.fst : Int) ∧ 
  IntKind.i64.wrap ((↑x.snd.fst : Int) + (1 : Int)) = (↑x'.snd.fst : Int) ∧ True ∧ True ∧ True ∧ True) ∧ (a.fst = a.fst ∧ a.snd = a.snd ∧ True) ∧ (b.fst = b.fst ∧ b.snd = b.snd ∧ True) ∧ ((0 : Int) = (0 : Int) ∧ SV.val 
  (Value.slice none (0 : Nat) (0 : Nat)) = SV.val (Value.slice none (0 : Nat) (0 : Nat)) ∧ True) ∧ (a.fst = a.fst ∧ a.snd = a.snd ∧ True) ∧ (b.fst = b.fst ∧ b.snd = b.snd ∧ True) ∧ (True ∧ True) ∧ ((0 : Int) = (0 : Int) 
  ∧ SV.val (Value.slice none (0 : Nat) (0 : Nat)) = SV.val (Value.slice none (0 : Nat) (0 : Nat)) ∧ True) ∧ (minI a.fst b.fst = minI a.fst b.fst ∧ True ∧ True) ∧ (a.fst = a.fst ∧ a.snd = a.snd ∧ True) ∧ (b.fst = b.fst ∧ 
  b.snd = b.snd ∧ True) ∧ True ∧ ((True ∧ True ∧ True) ∧ True ∧ (0 : Int) = (0 : Int) ∧ True ∧ True ∧ True ∧ True ∧ (a.fst = a.fst ∧ a.snd = a.snd ∧ True) ∧ (b.fst = b.fst ∧ b.snd = b.snd ∧ True) ∧ True ∧ True) ∧ 
  x.snd.snd ++ [(maxI y.fst y_1.fst, minI y.snd y_1.snd)] = x'.snd.snd ∧ True) ∧ ((minI y.snd y_1.snd != minI a.fst b.fst) = false → ∃ (x' : Nat × Nat × List (Int × Int)), ((x'.fst ≤ a.snd.length ∧ x'.snd.fst ≤ 
  b.snd.length) ∧ x'.snd.snd.length ≤ x'.fst + x'.snd.fst ∧ x'.snd.snd ++ bothR minI (minI a.fst b.fst) (levL a b x'.fst x'.snd.fst) = bothR minI (minI a.fst b.fst) (levL a b (0 : Nat) (0 : Nat))) ∧ a.snd.length + 
  b.snd.length - x'.fst - x'.snd.fst < a.snd.length + b.snd.length - x.fst - x.snd.fst ∧ (((True ∧ True ∧ True) ∧ True ∧ (0 : Int) = (0 : Int) ∧ True ∧ True ∧ True ∧ True ∧ (a.fst = a.fst ∧ a.snd = a.snd ∧ True) ∧ (b.fst 
  = b.fst ∧ b.snd = b.snd ∧ True) ∧ True ∧ True) ∧ ((b.fst = b.fst ∧ b.snd = b.snd ∧ True) ∧ (a.fst = a.fst ∧ a.snd = a.snd ∧ True) ∧ (0 : Int) = (0 : Int) ∧ True ∧ True ∧ True ∧ (a.fst = a.fst ∧ a.snd = a.snd ∧ True) ∧ 
  (b.fst = b.fst ∧ b.snd = b.snd ∧ True) ∧ True) ∧ True ∧ True) ∧ (IntKind.i64.wrap ((↑x.fst : Int) + (1 : Int)) = (↑x'.fst : Int) ∧ IntKind.i64.wrap ((↑x.snd.fst : Int) + (1 : Int)) = (↑x'.snd.fst : Int) ∧ True ∧ True ∧ 
  True ∧ True) ∧ (a.fst = a.fst ∧ a.snd = a.snd ∧ True) ∧ (b.fst = b.fst ∧ b.snd = b.snd ∧ True) ∧ ((0 : Int) = (0 : Int) ∧ SV.val (Value.slice none (0 : Nat) (0 : Nat)) = SV.val (Value.slice none (0 : Nat) (0 : Nat)) ∧ 
  True) ∧ (a.fst = a.fst ∧ a.snd = a.snd ∧ True) ∧ (b.fst = b.fst ∧ b.snd = b.snd ∧ True) ∧ (True ∧ True) ∧ ((0 : Int) = (0 : Int) ∧ SV.val (Value.slice none (0 : Nat) (0 : Nat)) = SV.val (Value.slice none (0 : Nat) (0 : 
  Nat)) ∧ True) ∧ (minI a.fst b.fst = minI a.fst b.fst ∧ True ∧ True) ∧ (a.fst = a.fst ∧ a.snd = a.snd ∧ True) ∧ (b.fst = b.fst ∧ b.snd = b.snd ∧ True) ∧ True ∧ ((True ∧ True ∧ True) ∧ True ∧ (0 : Int) = (0 : Int) ∧ True 
  ∧ True ∧ True ∧ True ∧ (a.fst = a.fst ∧ a.snd = a.snd ∧ True) ∧ (b.fst = b.fst ∧ b.snd = b.snd ∧ True) ∧ True ∧ True) ∧ x.snd.snd = x'.snd.snd ∧ True)) ∧ (v_1 = false → ((0 : Int) ≤ (0 : Int) ∧ (0 : Int) < (↑(2 : Nat) 
  : Int)) ∧ ((0 : Int) ≤ (1 : Int) ∧ (1 : Int) < (↑(2 : Nat) : Int)) ∧ ((minI y.snd b.fst != minI a.fst b.fst) = true → (x.snd.snd.length + [(maxI y.fst (0 : Int), minI y.snd b.fst)].length) * (16 : Nat) ≤ 
  (140737488355328 : Nat) ∧ ∃ (x' : Nat × Nat × List (Int × Int)), ((x'.fst ≤ a.snd.length ∧ x'.snd.fst ≤ b.snd.length) ∧ x'.snd.snd.length ≤ x'.fst + x'.snd.fst ∧ x'.snd.snd ++ bothR minI (minI a.fst b.fst) (levL a b 
  x'.fst x'.snd.fst) = bothR minI (minI a.fst b.fst) (levL a b (0 : Nat) (0 : Nat))) ∧ a.snd.length + b.snd.length - x'.fst - x'.snd.fst < a.snd.length + b.snd.length - x.fst - x.snd.fst ∧ (((True ∧ True ∧ True) ∧ True ∧ 
  (0 : Int) = (0 : Int) ∧ True ∧ True ∧ True ∧ True ∧ (a.fst = a.fst ∧ a.snd = a.snd ∧ True) ∧ (b.fst = b.fst ∧ b.snd = b.snd ∧ True) ∧ True ∧ True) ∧ ((b.fst = b.fst ∧ b.snd = b.snd ∧ True) ∧ (a.fst = a.fst ∧ a.snd = 
  a.snd ∧ True) ∧ (0 : Int) = (0 : Int) ∧ True ∧ True ∧ True ∧ (a.fst = a.fst ∧ a.snd = a.snd ∧ True) ∧ (b.fst = b.fst ∧ b.snd = b.snd ∧ True) ∧ True) ∧ True ∧ True) ∧ (IntKind.i64.wrap ((↑x.fst : Int) + (1 : Int)) = 
  (↑x'.fst : Int) ∧ (↑x.snd.fst : Int) = (↑x'.snd.fst : Int) ∧ True ∧ True ∧ True ∧ True) ∧ (a.fst = a.fst ∧ a.snd = a.snd ∧ True) ∧ (b.fst = b.fst ∧ b.snd = b.snd ∧ True) ∧ ((0 : Int) = (0 : Int) ∧ SV.val (Value.slice 
  none (0 : Nat) (0 : Nat)) = SV.val (Value.slice none (0 : Nat) (0 : Nat)) ∧ True) ∧ (a.fst = a.fst ∧ a.snd = a.snd ∧ True) ∧ (b.fst = b.fst ∧ b.snd = b.snd ∧ True) ∧ (True ∧ True) ∧ ((0 : Int) = (0 : Int) ∧ SV.val 
  (Value.slice none (0 : Nat) (0 : Nat)) = SV.val (Value.slice none (0 : Nat) (0 : Nat)) ∧ True) ∧ (minI a.fst b.fst = minI a.fst b.fst ∧ True ∧ True) ∧ (a.fst = a.fst ∧ a.snd = a.snd ∧ True) ∧ (b.fst = b.fst ∧ b.snd = 
  b.snd ∧ True) ∧ True ∧ ((True ∧ True ∧ True) ∧ True ∧ (0 : Int) = (0 : Int) ∧ True ∧ True ∧ True ∧ True ∧ (a.fst = a.fst ∧ a.snd = a.snd ∧ True) ∧ (b.fst = b.fst ∧ b.snd = b.snd ∧ True) ∧ True ∧ True) ∧ x.snd.snd ++ 
  [(maxI y.fst (0 : Int), minI y.snd b.fst)] = x'.snd.snd ∧ True) ∧ ((minI y.snd b.fst != minI a.fst b.fst) = false → ∃ (x' : Nat × Nat × List (Int × Int)), ((x'.fst ≤ a.snd.length ∧ x'.snd.fst ≤ b.snd.length) ∧ 
  x'.snd.snd.length ≤ x'.fst + x'.snd.fst ∧ x'.snd.snd ++ bothR minI (minI a.fst b.fst) (levL a b x'.fst x'.snd.fst) = bothR minI (minI a.fst b.fst) (levL a b (0 : Nat) (0 : Nat))) ∧ a.snd.length + b.snd.length - x'.fst 
  - x'.snd.fst < a.snd.length + b.snd.length - x.fst - x.snd.fst ∧ (((True ∧ True ∧ True) ∧ True ∧ (0 : Int) = (0 : Int) ∧ True ∧ True ∧ True ∧ True ∧ (a.fst = a.fst ∧ a.snd = a.snd ∧ True) ∧ (b.fst = b.fst ∧ b.snd = 
  b.snd ∧ True) ∧ True ∧ True) ∧ ((b.fst = b.fst ∧ b.snd = b.snd ∧ True) ∧ (a.fst = a.fst ∧ a.snd = a.snd ∧ True) ∧ (0 : Int) = (0 : Int) ∧ True ∧ True ∧ True ∧ (a.fst = a.fst ∧ a.snd = a.snd ∧ True) ∧ (b.fst = b.fst ∧ 
  b.snd = b.snd ∧ True) ∧ True) ∧ True ∧ True) ∧ (IntKind.i64.wrap ((↑x.fst : Int) + (1 : Int)) = (↑x'.fst : Int) ∧ (↑x.snd.fst : Int) = (↑x'.snd.fst : Int) ∧ True ∧ True ∧ True ∧ True) ∧ (a.fst = a.fst ∧ a.snd = a.snd ∧ 
  True) ∧ (b.fst = b.fst ∧ b.snd = b.snd ∧ True) ∧ ((0 : Int) = (0 : Int) ∧ SV.val (Value.slice none (0 : Nat) (0 : Nat)) = SV.val (Value.slice none (0 : Nat) (0 : Nat)) ∧ True) ∧ (a.fst = a.fst ∧ a.snd = a.snd ∧ True) ∧ 
  (b.fst = b.fst ∧ b.snd = b.snd ∧ True) ∧ (True ∧ True) ∧ ((0 : Int) = (0 : Int) ∧ SV.val (Value.slice none (0 : Nat) (0 : Nat)) = SV.val (Value.slice none (0 : Nat) (0 : Nat)) ∧ True) ∧ (minI a.fst b.fst = minI a.fst 
  b.fst ∧ True ∧ True) ∧ (a.fst = a.fst ∧ a.snd = a.snd ∧ True) ∧ (b.fst = b.fst ∧ b.snd = b.snd ∧ True) ∧ True ∧ ((True ∧ True ∧ True) ∧ True ∧ (0 : Int) = (0 : Int) ∧ True ∧ True ∧ True ∧ True ∧ (a.fst = a.fst ∧ a.snd 
  = a.snd ∧ True) ∧ (b.fst = b.fst ∧ b.snd = b.snd ∧ True) ∧ True ∧ True) ∧ x.snd.snd = x'.snd.snd ∧ True))) ∧ (v = false → (v_1 = true → ((0 : Int) ≤ (↑x.snd.fst : Int) ∧ (↑x.snd.fst : Int) < (↑b.snd.length : Int)) ∧ ∀ 
  (y : Int × Int), b.snd[(↑x.snd.fst : Int).toNat]? = some y → ((0 : Int) ≤ (0 : Int) ∧ (0 : Int) < (↑(2 : Nat) : Int)) ∧ ((0 : Int) ≤ (1 : Int) ∧ (1 : Int) < (↑(2 : Nat) : Int)) ∧ ((minI a.fst y.snd != minI a.fst b.fst) 
  = true → (x.snd.snd.length + [(maxI (0 : Int) y.fst, minI a.fst y.snd)].length) * (16 : Nat) ≤ (140737488355328 : Nat) ∧ ∃ (x' : Nat × Nat × List (Int × Int)), ((x'.fst ≤ a.snd.length ∧ x'.snd.fst ≤ b.snd.length) ∧ 
  x'.snd.snd.length ≤ x'.fst + x'.snd.fst ∧ x'.snd.snd ++ bothR minI (minI a.fst b.fst) (levL a b x'.fst x'.snd.fst) = bothR minI (minI a.fst b.fst) (levL a b (0 : Nat) (0 : Nat))) ∧ a.snd.length + b.snd.length - x'.fst 
  - x'.snd.fst < a.snd.length + b.snd.length - x.fst - x.snd.fst ∧ (((True ∧ True ∧ True) ∧ True ∧ (0 : Int) = (0 : Int) ∧ True ∧ True ∧ True ∧ True ∧ (a.fst = a.fst ∧ a.snd = a.snd ∧ True) ∧ (b.fst = b.fst ∧ b.snd = 
  b.snd ∧ True) ∧ True ∧ True) ∧ ((b.fst = b.fst ∧ b.snd = b.snd ∧ True) ∧ (a.fst = a.fst ∧ a.snd = a.snd ∧ True) ∧ (0 : Int) = (0 : Int) ∧ True ∧ True ∧ True ∧ (a.fst = a.fst ∧ a.snd = a.snd ∧ True) ∧ (b.fst = b.fst ∧ 
  b.snd = b.snd ∧ True) ∧ True) ∧ True ∧ True) ∧ ((↑x.fst : Int) = (↑x'.fst : Int) ∧ IntKind.i64.wrap ((↑x.snd.fst : Int) + (1 : Int)) = (↑x'.snd.fst : Int) ∧ True ∧ True ∧ True ∧ True) ∧ (a.fst = a.fst ∧ a.snd = a.snd ∧ 
  True) ∧ (b.fst = b.fst ∧ b.snd = b.snd ∧ True) ∧ ((0 : Int) = (0 : Int) ∧ SV.val (Value.slice none (0 : Nat) (0 : Nat)) = SV.val (Value.slice none (0 : Nat) (0 : Nat)) ∧ True) ∧ (a.fst = a.fst ∧ a.snd = a.snd ∧ True) ∧ 
  (b.fst = b.fst ∧ b.snd = b.snd ∧ True) ∧ (True ∧ True) ∧ ((0 : Int) = (0 : Int) ∧ SV.val (Value.slice none (0 : Nat) (0 : Nat)) = SV.val (Value.slice none (0 : Nat) (0 : Nat)) ∧ True) ∧ (minI a.fst b.fst = minI a.fst 
  b.fst ∧ True ∧ True) ∧ (a.fst = a.fst ∧ a.snd = a.snd ∧ True) ∧ (b.fst = b.fst ∧ b.snd = b.snd ∧ True) ∧ True ∧ ((True ∧ True ∧ True) ∧ True ∧ (0 : Int) = (0 : Int) ∧ True ∧ True ∧ True ∧ True ∧ (a.fst = a.fst ∧ a.snd 
  = a.snd ∧ True) ∧ (b.fst = b.fst ∧ b.snd = b.snd ∧ True) ∧ True ∧ True) ∧ x.snd.snd ++ [(maxI (0 : Int) y.fst, minI a.fst y.snd)] = x'.snd.snd ∧ True) ∧ ((minI a.fst y.snd != minI a.fst b.fst) = false → ∃ (x' : Nat × 
  Nat × List (Int × Int)), ((x'.fst ≤ a.snd.length ∧ x'.snd.fst ≤ b.snd.length) ∧ x'.snd.snd.length ≤ x'.fst + x'.snd.fst ∧ x'.snd.snd ++ bothR minI (minI a.fst b.fst) (levL a b x'.fst x'.snd.fst) = bothR minI (minI 
  a.fst b.fst) (levL a b (0 : Nat) (0 : Nat))) ∧ a.snd.length + b.snd.length - x'.fst - x'.snd.fst < a.snd.length + b.snd.length - x.fst - x.snd.fst ∧ (((True ∧ True ∧ True) ∧ True ∧ (0 : Int) = (0 : Int) ∧ True ∧ True ∧ 
  True ∧ True ∧ (a.fst = a.fst ∧ a.snd = a.snd ∧ True) ∧ (b.fst = b.fst ∧ b.snd = b.snd ∧ True) ∧ True ∧ True) ∧ ((b.fst = b.fst ∧ b.snd = b.snd ∧ True) ∧ (a.fst = a.fst ∧ a.snd = a.snd ∧ True) ∧ (0 : Int) = (0 : Int) ∧ 
  True ∧ True ∧ True ∧ (a.fst = a.fst ∧ a.snd = a.snd ∧ True) ∧ (b.fst = b.fst ∧ b.snd = b.snd ∧ True) ∧ True) ∧ True ∧ True) ∧ ((↑x.fst : Int) = (↑x'.fst : Int) ∧ IntKind.i64.wrap ((↑x.snd.fst : Int) + (1 : Int)) = 
  (↑x'.snd.fst : Int) ∧ True ∧ True ∧ True ∧ True) ∧ (a.fst = a.fst ∧ a.snd = a.snd ∧ True) ∧ (b.fst = b.fst ∧ b.snd = b.snd ∧ True) ∧ ((0 : Int) = (0 : Int) ∧ SV.val (Value.slice none (0 : Nat) (0 : Nat)) = SV.val 
  (Value.slice none (0 : Nat) (0 : Nat)) ∧ True) ∧ (a.fst = a.fst ∧ a.snd = a.snd ∧ True) ∧ (b.fst = b.fst ∧ b.snd = b.snd ∧ True) ∧ (True ∧ True) ∧ ((0 : Int) = (0 : Int) ∧ SV.val (Value.slice none (0 : Nat) (0 : Nat)) 
  = SV.val (Value.slice none (0 : Nat) (0 : Nat)) ∧ True) ∧ (minI a.fst b.fst = minI a.fst b.fst ∧ True ∧ True) ∧ (a.fst = a.fst ∧ a.snd = a.snd ∧ True) ∧ (b.fst = b.fst ∧ b.snd = b.snd ∧ True) ∧ True ∧ ((True ∧ True ∧ 
  True) ∧ True ∧ (0 : Int) = (0 : Int) ∧ True ∧ True ∧ True ∧ True ∧ (a.fst = a.fst ∧ a.snd = a.snd ∧ True) ∧ (b.fst = b.fst ∧ b.snd = b.snd ∧ True) ∧ True ∧ True) ∧ x.snd.snd = x'.snd.snd ∧ True)) ∧ (v_1 = false → ((0 : 
  Int) ≤ (0 : Int) ∧ (0 : Int) < (↑(2 : Nat) : Int)) ∧ ((0 : Int) ≤ (1 : Int) ∧ (1 : Int) < (↑(2 : Nat) : Int)) ∧ ((minI a.fst b.fst != minI a.fst b.fst) = true → (x.snd.snd.length + [(maxI (0 : Int) (0 : Int), minI 
  a.fst b.fst)].length) * (16 : Nat) ≤ (140737488355328 : Nat) ∧ ∃ (x' : Nat × Nat × List (Int × Int)), ((x'.fst ≤ a.snd.length ∧ x'.snd.fst ≤ b.snd.length) ∧ x'.snd.snd.length ≤ x'.fst + x'.snd.fst ∧ x'.snd.snd ++ bothR 
  minI (minI a.fst b.fst) (levL a b x'.fst x'.snd.fst) = bothR minI (minI a.fst b.fst) (levL a b (0 : Nat) (0 : Nat))) ∧ a.snd.length + b.snd.length - x'.fst - x'.snd.fst < a.snd.length + b.snd.length - x.fst - x.snd.fst 
  ∧ (((True ∧ True ∧ True) ∧ True ∧ (0 : Int) = (0 : Int) ∧ True ∧ True ∧ True ∧ True ∧ (a.fst = a.fst ∧ a.snd = a.snd ∧ True) ∧ (b.fst = b.fst ∧ b.snd = b.snd ∧ True) ∧ True ∧ True) ∧ ((b.fst = b.fst ∧ b.snd = b.snd ∧ 
  True) ∧ (a.fst = a.fst ∧ a.snd = a.snd ∧ True) ∧ (0 : Int) = (0 : Int) ∧ True ∧ True ∧ True ∧ (a.fst = a.fst ∧ a.snd = a.snd ∧ True) ∧ (b.fst = b.fst ∧ b.snd = b.snd ∧ True) ∧ True) ∧ True ∧ True) ∧ ((↑x.fst : Int) = 
  (↑x'.fst : Int) ∧ (↑x.snd.fst : Int) = (↑x'.snd.fst : Int) ∧ True ∧ True ∧ True ∧ True) ∧ (a.fst = a.fst ∧ a.snd = a.snd ∧ True) ∧ (b.fst = b.fst ∧ b.snd = b.snd ∧ True) ∧ ((0 : Int) = (0 : Int) ∧ SV.val (Value.slice 
  none (0 : Nat) (0 : Nat)) = SV.val (Value.slice none (0 : Nat) (0 : Nat)) ∧ True) ∧ (a.fst = a.fst ∧ a.snd = a.snd ∧ True) ∧ (b.fst = b.fst ∧ b.snd = b.snd ∧ True) ∧ (True ∧ True) ∧ ((0 : Int) = (0 : Int) ∧ SV.val 
  (Value.slice none (0 : Nat) (0 : Nat)) = SV.val (Value.slice none (0 : Nat) (0 : Nat)) ∧ True) ∧ (minI a.fst b.fst = minI a.fst b.fst ∧ True ∧ True) ∧ (a.fst = a.fst ∧ a.snd = a.snd ∧ True) ∧ (b.fst = b.fst ∧ b.snd = 
  b.snd ∧ True) ∧ True ∧ ((True ∧ True ∧ True) ∧ True ∧ (0 : Int) = (0 : Int) ∧ True ∧ True ∧ True ∧ True ∧ (a.fst = a.fst ∧ a.snd = a.snd ∧ True) ∧ (b.fst = b.fst ∧ b.snd = b.snd ∧ True) ∧ True ∧ True) ∧ x.snd.snd ++ 
  [(maxI (0 : Int) (0 : Int), minI a.fst b.fst)] = x'.snd.snd ∧ True) ∧ ((minI a.fst b.fst != minI a.fst b.fst) = false → ∃ (x' : Nat × Nat × List (Int × Int)), ((x'.fst ≤ a.snd.length ∧ x'.snd.fst ≤ b.snd.length) ∧ 
  x'.snd.snd.length ≤ x'.fst + x'.snd.fst ∧ x'.snd.snd ++ bothR minI (minI a.fst b.fst) (levL a b x'.fst x'.snd.fst) = bothR minI (minI a.fst b.fst) (levL a b (0 : Nat) (0 : Nat))) ∧ a.snd.length + b.snd.length - x'.fst 
  - x'.snd.fst < a.snd.length + b.snd.length - x.fst - x.snd.fst ∧ (((True ∧ True ∧ True) ∧ True ∧ (0 : Int) = (0 : Int) ∧ True ∧ True ∧ True ∧ True ∧ (a.fst = a.fst ∧ a.snd = a.snd ∧ True) ∧ (b.fst = b.fst ∧ b.snd = 
  b.snd ∧ True) ∧ True ∧ True) ∧ ((b.fst = b.fst ∧ b.snd = b.snd ∧ True) ∧ (a.fst = a.fst ∧ a.snd = a.snd ∧ True) ∧ (0 : Int) = (0 : Int) ∧ True ∧ True ∧ True ∧ (a.fst = a.fst ∧ a.snd = a.snd ∧ True) ∧ (b.fst = b.fst ∧ 
  b.snd = b.snd ∧ True) ∧ True) ∧ True ∧ True) ∧ ((↑x.fst : Int) = (↑x'.fst : Int) ∧ (↑x.snd.fst : Int) = (↑x'.snd.fst : Int) ∧ True ∧ True ∧ True ∧ True) ∧ (a.fst = a.fst ∧ a.snd = a.snd ∧ True) ∧ (b.fst = b.fst ∧ b.snd 
  = b.snd ∧ True) ∧ ((0 : Int) = (0 : Int) ∧ SV.val (Value.slice none (0 : Nat) (0 : Nat)) = SV.val (Value.slice none (0 : Nat) (0 : Nat)) ∧ True) ∧ (a.fst = a.fst ∧ a.snd = a.snd ∧ True) ∧ (b.fst = b.fst ∧ b.snd = b.snd 
  ∧ True) ∧ (True ∧ True) ∧ ((0 : Int) = (0 : Int) ∧ SV.val (Value.slice none (0 : Nat) (0 : Nat)) = SV.val (Value.slice none (0 : Nat) (0 : Nat)) ∧ True) ∧ (minI a.fst b.fst = minI a.fst b.fst ∧ True ∧ True) ∧ (a.fst = 
  a.fst ∧ a.snd = a.snd ∧ True) ∧ (b.fst = b.fst ∧ b.snd = b.snd ∧ True) ∧ True ∧ ((True ∧ True ∧ True) ∧ True ∧ (0 : Int) = (0 : Int) ∧ True ∧ True ∧ True ∧ True ∧ (a.fst = a.fst ∧ a.snd = a.snd ∧ True) ∧ (b.fst = b.fst 
  ∧ b.snd = b.snd ∧ True) ∧ True ∧ True) ∧ x.snd.snd = x'.snd.snd ∧ True)))) ∧ (v = false → true = true ∧ (((wholeL (minI a.fst b.fst, x.snd.snd)).fst.fst = (bothL min a b).fst.fst ∧ (wholeL (minI a.fst b.fst, 
  x.snd.snd)).fst.snd = (bothL min a b).fst.snd ∧ True) ∧ (wholeL (minI a.fst b.fst, x.snd.snd)).snd = (bothL min a b).snd ∧ True) ∧ True)) := by kernel_rfl
def joinNLoop (f : Int → Int → Int) (a b : Lab) : List (Nat × (St → Option LoopSpec)) :=
  [(3, fun (S : St) => match getT S.fr.tm 6 with
      | .ptr q _ => some { α := Nat, inv := fun i => i ≤ (namedL [a, b]).length ∧ True, ov := fun i => [(20, .int .i64 (i : Int))], rov := fun i => [(q, .blk 0 [.int .i64 (f a.1 b.1), .rs ent (buildR (f a.1 b.1) (fun k => f (atL a k) (atL b k)) ((namedL [a, b]).take i))])], meas := fun i => (namedL [a, b]).length - i }
      | _ => none)]
def bothNL (f : Int → Int → Int) (a b : Lab) : Lab × Int := wholeL (f a.1 b.1, buildR (f a.1 b.1) (fun k => f (atL a k) (atL b k)) (namedL [a, b]))
theorem joinN_vc (a b : Lab) : fvc PP (env PP [p58, p44, p59, p60] [] [] [] (joinNLoop max a b)) Tryd.f28 c28 (ofArgs [lab, lab] (a, b, ())) St0 (gives [lab, i64] ((bothNL max a b).1, (bothNL max a b).2, ())) = (
  smallLs [(a.fst, a.snd), (b.fst, b.snd)] = true ∧ ((namedL [(a.fst, a.snd), (b.fst, b.snd)]).length ≤ maxLen → ∃ (x0 : Nat), (x0 ≤ (namedL [a, b]).length ∧ True) ∧ ((True ∧ True) ∧ ((0 : Int) = (↑x0 : Int) ∧ (↑(namedL 
  [(a.fst, a.snd), (b.fst, b.snd)]).length : Int) = (↑(namedL [(a.fst, a.snd), (b.fst, b.snd)]).length : Int) ∧ namedL [(a.fst, a.snd), (b.fst, b.snd)] = namedL [(a.fst, a.snd), (b.fst, b.snd)] ∧ True ∧ (0 : Int) = (0 : 
  Int) ∧ True ∧ True ∧ True ∧ (a.fst = a.fst ∧ a.snd = a.snd ∧ True) ∧ (b.fst = b.fst ∧ b.snd = b.snd ∧ True) ∧ True) ∧ (a.fst = a.fst ∧ a.snd = a.snd ∧ True) ∧ (b.fst = b.fst ∧ b.snd = b.snd ∧ True) ∧ ((0 : Int) = (0 : 
  Int) ∧ SV.val (Value.slice none (0 : Nat) (0 : Nat)) = SV.val (Value.slice none (0 : Nat) (0 : Nat)) ∧ True) ∧ (maxI a.fst b.fst = max a.fst b.fst ∧ buildR (max a.fst b.fst) (fun (k : Int) => max (atL a k) (atL b k)) 
  (List.take x0 (namedL [a, b])) = [] ∧ True) ∧ True ∧ True) ∧ ∀ (x : Nat), x ≤ (namedL [a, b]).length ∧ True → (decide ((↑x : Int) < (↑(namedL [(a.fst, a.snd), (b.fst, b.snd)]).length : Int)) = true → ((0 : Int) ≤ (↑x : 
  Int) ∧ (↑x : Int) < (↑(namedL [(a.fst, a.snd), (b.fst, b.snd)]).length : Int)) ∧ ∀ (y : Int), (namedL [(a.fst, a.snd), (b.fst, b.snd)])[(↑x : Int).toNat]? = some y → true = true ∧ true = true ∧ decide ((buildR (max 
  a.fst b.fst) (fun (k : Int) => max (atL a k) (atL b k)) (List.take x (namedL [a, b]))).length ≤ (1000000 : Nat)) = true ∧ ∃ (x' : Nat), (x' ≤ (namedL [a, b]).length ∧ True) ∧ (namedL [a, b]).length - x' < (namedL [a, 
  b]).length - x ∧ (True ∧ True) ∧ (IntKind.i64.wrap ((↑x : Int) + (1 : Int)) = (↑x' : Int) ∧ (↑(namedL [(a.fst, a.snd), (b.fst, b.snd)]).length : Int) = (↑(namedL [(a.fst, a.snd), (b.fst, b.snd)]).length : Int) ∧ namedL 
  [(a.fst, a.snd), (b.fst, b.snd)] = namedL [(a.fst, a.snd), (b.fst, b.snd)] ∧ True ∧ (0 : Int) = (0 : Int) ∧ True ∧ True ∧ True ∧ (a.fst = a.fst ∧ a.snd = a.snd ∧ True) ∧ (b.fst = b.fst ∧ b.snd = b.snd ∧ True) ∧ True) ∧ 
  (a.fst = a.fst ∧ a.snd = a.snd ∧ True) ∧ (b.fst = b.fst ∧ b.snd = b.snd ∧ True) ∧ ((0 : Int) = (0 : Int) ∧ SV.val (Value.slice none (0 : Nat) (0 : Nat)) = SV.val (Value.slice none (0 : Nat) (0 : Nat)) ∧ True) ∧ ((putL 
  (max a.fst b.fst, buildR (max a.fst b.fst) (fun (k : Int) => max (atL a k) (atL b k)) (List.take x (namedL [a, b]))) y (maxI (atL (a.fst, a.snd) y) (atL (b.fst, b.snd) y))).fst = max a.fst b.fst ∧ (putL (max a.fst 
  b.fst, buildR (max a.fst b.fst) (fun (k : Int) => max (atL a k) (atL b k)) (List.take x (namedL [a, b]))) y (maxI (atL (a.fst, a.snd) y) (atL (b.fst, b.snd) y))).snd = buildR (max a.fst b.fst) (fun (k : Int) => max 
  (atL a k) (atL b k)) (List.take x' (namedL [a, b])) ∧ True) ∧ True ∧ True) ∧ (decide ((↑x : Int) < (↑(namedL [(a.fst, a.snd), (b.fst, b.snd)]).length : Int)) = false → true = true ∧ (((wholeL (max a.fst b.fst, buildR 
  (max a.fst b.fst) (fun (k : Int) => max (atL a k) (atL b k)) (List.take x (namedL [a, b])))).fst.fst = (bothNL max a b).fst.fst ∧ (wholeL (max a.fst b.fst, buildR (max a.fst b.fst) (fun (k : Int) => max (atL a k) (atL 
  b k)) (List.take x (namedL [a, b])))).fst.snd = (bothNL max a b).fst.snd ∧ True) ∧ (wholeL (max a.fst b.fst, buildR (max a.fst b.fst) (fun (k : Int) => max (atL a k) (atL b k)) (List.take x (namedL [a, b])))).snd = 
  (bothNL max a b).snd ∧ True) ∧ True))) := by kernel_rfl
theorem meetN_vc (a b : Lab) : fvc PP (env PP [p58, p44, p59, p60] [] [] [] (joinNLoop min a b)) Tryd.f30 c30 (ofArgs [lab, lab] (a, b, ())) St0 (gives [lab, i64] ((bothNL min a b).1, (bothNL min a b).2, ())) = (
  smallLs [(a.fst, a.snd), (b.fst, b.snd)] = true ∧ ((namedL [(a.fst, a.snd), (b.fst, b.snd)]).length ≤ maxLen → ∃ (x0 : Nat), (x0 ≤ (namedL [a, b]).length ∧ True) ∧ ((True ∧ True) ∧ ((0 : Int) = (↑x0 : Int) ∧ (↑(namedL 
  [(a.fst, a.snd), (b.fst, b.snd)]).length : Int) = (↑(namedL [(a.fst, a.snd), (b.fst, b.snd)]).length : Int) ∧ namedL [(a.fst, a.snd), (b.fst, b.snd)] = namedL [(a.fst, a.snd), (b.fst, b.snd)] ∧ True ∧ (0 : Int) = (0 : 
  Int) ∧ True ∧ True ∧ True ∧ (a.fst = a.fst ∧ a.snd = a.snd ∧ True) ∧ (b.fst = b.fst ∧ b.snd = b.snd ∧ True) ∧ True) ∧ (a.fst = a.fst ∧ a.snd = a.snd ∧ True) ∧ (b.fst = b.fst ∧ b.snd = b.snd ∧ True) ∧ ((0 : Int) = (0 : 
  Int) ∧ SV.val (Value.slice none (0 : Nat) (0 : Nat)) = SV.val (Value.slice none (0 : Nat) (0 : Nat)) ∧ True) ∧ (minI a.fst b.fst = min a.fst b.fst ∧ buildR (min a.fst b.fst) (fun (k : Int) => min (atL a k) (atL b k)) 
  (List.take x0 (namedL [a, b])) = [] ∧ True) ∧ True ∧ True) ∧ ∀ (x : Nat), x ≤ (namedL [a, b]).length ∧ True → (decide ((↑x : Int) < (↑(namedL [(a.fst, a.snd), (b.fst, b.snd)]).length : Int)) = true → ((0 : Int) ≤ (↑x : 
  Int) ∧ (↑x : Int) < (↑(namedL [(a.fst, a.snd), (b.fst, b.snd)]).length : Int)) ∧ ∀ (y : Int), (namedL [(a.fst, a.snd), (b.fst, b.snd)])[(↑x : Int).toNat]? = some y → true = true ∧ true = true ∧ decide ((buildR (min 
  a.fst b.fst) (fun (k : Int) => min (atL a k) (atL b k)) (List.take x (namedL [a, b]))).length ≤ (1000000 : Nat)) = true ∧ ∃ (x' : Nat), (x' ≤ (namedL [a, b]).length ∧ True) ∧ (namedL [a, b]).length - x' < (namedL [a, 
  b]).length - x ∧ (True ∧ True) ∧ (IntKind.i64.wrap ((↑x : Int) + (1 : Int)) = (↑x' : Int) ∧ (↑(namedL [(a.fst, a.snd), (b.fst, b.snd)]).length : Int) = (↑(namedL [(a.fst, a.snd), (b.fst, b.snd)]).length : Int) ∧ namedL 
  [(a.fst, a.snd), (b.fst, b.snd)] = namedL [(a.fst, a.snd), (b.fst, b.snd)] ∧ True ∧ (0 : Int) = (0 : Int) ∧ True ∧ True ∧ True ∧ (a.fst = a.fst ∧ a.snd = a.snd ∧ True) ∧ (b.fst = b.fst ∧ b.snd = b.snd ∧ True) ∧ True) ∧ 
  (a.fst = a.fst ∧ a.snd = a.snd ∧ True) ∧ (b.fst = b.fst ∧ b.snd = b.snd ∧ True) ∧ ((0 : Int) = (0 : Int) ∧ SV.val (Value.slice none (0 : Nat) (0 : Nat)) = SV.val (Value.slice none (0 : Nat) (0 : Nat)) ∧ True) ∧ ((putL 
  (min a.fst b.fst, buildR (min a.fst b.fst) (fun (k : Int) => min (atL a k) (atL b k)) (List.take x (namedL [a, b]))) y (minI (atL (a.fst, a.snd) y) (atL (b.fst, b.snd) y))).fst = min a.fst b.fst ∧ (putL (min a.fst 
  b.fst, buildR (min a.fst b.fst) (fun (k : Int) => min (atL a k) (atL b k)) (List.take x (namedL [a, b]))) y (minI (atL (a.fst, a.snd) y) (atL (b.fst, b.snd) y))).snd = buildR (min a.fst b.fst) (fun (k : Int) => min 
  (atL a k) (atL b k)) (List.take x' (namedL [a, b])) ∧ True) ∧ True ∧ True) ∧ (decide ((↑x : Int) < (↑(namedL [(a.fst, a.snd), (b.fst, b.snd)]).length : Int)) = false → true = true ∧ (((wholeL (min a.fst b.fst, buildR 
  (min a.fst b.fst) (fun (k : Int) => min (atL a k) (atL b k)) (List.take x (namedL [a, b])))).fst.fst = (bothNL min a b).fst.fst ∧ (wholeL (min a.fst b.fst, buildR (min a.fst b.fst) (fun (k : Int) => min (atL a k) (atL 
  b k)) (List.take x (namedL [a, b])))).fst.snd = (bothNL min a b).fst.snd ∧ True) ∧ (wholeL (min a.fst b.fst, buildR (min a.fst b.fst) (fun (k : Int) => min (atL a k) (atL b k)) (List.take x (namedL [a, b])))).snd = 
  (bothNL min a b).snd ∧ True) ∧ True))) := by kernel_rfl
end Go.Proofs.YtblhojadchbcnaaDoor
namespace Go.Proofs.YtblhojadchbcnaaDoor
open Go.Proofs.YtblhojadchbcnaaDoor.Gx
set_option maxRecDepth 100000
set_option maxHeartbeats 4000000
set_option linter.unusedSimpArgs false
set_option linter.unusedVariables false
theorem minI_eq (a b : Int) : minI a b = min a b := by
  unfold minI; split <;> omega
theorem minI_fun : minI = min := by funext a b; exact minI_eq a b
abbrev sm100 (l : Lab) : Bool := decide (l.2.length ≤ 100)
theorem meet_ok : PSpecOk PP 29 (Q [lab, lab] [lab, i64] (fun x => sml x.1 && sml x.2.1) (fun x => ((bothL min x.1 x.2.1).1, (bothL min x.1 x.2.1).2, ()))) := by
  refine pspec_Q mixed (fn := Tryd.f29) (c := c29) rfl rfl _ _ rfl ?_
  rintro ⟨a, b, ⟨⟩⟩ ⟨⟨-, ⟨hA, -⟩⟩, ⟨-, ⟨hB, -⟩⟩, -⟩ hp
  simp only at hA hB
  simp at hp
  obtain ⟨hp1, hp2⟩ := hp
  refine ⟨_, env_ok [] [s64m minI a b] [] [] [], rfl, hold (meet_vc a b) ?_⟩
  simp only [true_and, and_true, Prod.eta, minI_fun, maxI_fun]
  refine ⟨(0, 0, []), ⟨⟨by simp, by simp⟩, by simp, by simp⟩, ⟨⟨rfl, rfl⟩, rfl⟩, ?_⟩
  rintro ⟨i, k, out⟩ ⟨⟨hi, hk⟩, hol, hinv⟩
  simp only at hi hk hol hinv ⊢
  have hbytes : ∀ x : Int × Int, (out.length + [x].length) * 16 ≤ 140737488355328 := fun x => by simp only [List.length_cons, List.length_nil]; omega
  rcases get_cases a.2 i hi with ⟨x, hx, hi'⟩ | ⟨hx, hi'⟩ <;> rcases get_cases b.2 k hk with ⟨y, hy, hk'⟩ | ⟨hy, hk'⟩
  · refine ⟨true, by intro _; constructor <;> (intros; simp_all), ?_, by simp⟩
    intro _
    refine ⟨decide (x.1 ≤ y.1), ?_, decide (y.1 ≤ x.1), ?_, ?_, ?_⟩
    · simp [hx, hy]; omega
    · simp [hx, hy]; omega
    · intro hv
      refine ⟨⟨by omega, by omega⟩, fun x' hx' => ?_⟩
      obtain rfl : x = x' := by simpa [hx] using hx'
      refine ⟨fun hv1 => ⟨⟨by omega, by omega⟩, fun y' hy' => ?_⟩, fun hv1 => ?_⟩
      · obtain rfl : y = y' := by simpa [hy] using hy'
        have hs := bothR_step hinv (lev_both hx hy (by simpa using hv) (by simpa using hv1))
        refine ⟨by omega, by omega, fun hg => ⟨hbytes _, (i + 1, k + 1, _), ⟨⟨by simp only; omega, by simp only; omega⟩, ?_, hs.1 (by simpa using hg)⟩, by simp only; omega, ⟨wrap_succ hi' hA, wrap_succ hk' hB⟩, rfl⟩, fun hg => ⟨(i + 1, k + 1, out), ⟨⟨by simp only; omega, by simp only; omega⟩, by simp only; omega, hs.2 (by simpa using hg)⟩, by simp only; omega, ⟨wrap_succ hi' hA, wrap_succ hk' hB⟩, rfl⟩⟩
        simp only [List.length_append, List.length_cons, List.length_nil]; omega
      · have hs := bothR_step hinv (lev_first hx hk (fun y' hy' => by rw [hy] at hy'; cases hy'; simp at hv hv1; omega))
        refine ⟨by omega, by omega, fun hg => ⟨hbytes _, (i + 1, k, _), ⟨⟨by simp only; omega, by simp only; omega⟩, ?_, hs.1 (by simpa using hg)⟩, by simp only; omega, ⟨wrap_succ hi' hA, rfl⟩, rfl⟩, fun hg => ⟨(i + 1, k, out), ⟨⟨by simp only; omega, by simp only; omega⟩, by simp only; omega, hs.2 (by simpa using hg)⟩, by simp only; omega, ⟨wrap_succ hi' hA, rfl⟩, rfl⟩⟩
        simp only [List.length_append, List.length_cons, List.length_nil]; omega
    · intro hv
      refine ⟨fun hv1 => ⟨⟨by omega, by omega⟩, fun y' hy' => ?_⟩, fun hv1 => by simp at hv hv1; omega⟩
      obtain rfl : y = y' := by simpa [hy] using hy'
      have hs := bothR_step hinv (lev_second hy hi (fun x' hx' => by rw [hx] at hx'; cases hx'; simp at hv hv1; omega))
      refine ⟨by omega, by omega, fun hg => ⟨hbytes _, (i, k + 1, _), ⟨⟨by simp only; omega, by simp only; omega⟩, ?_, hs.1 (by simpa using hg)⟩, by simp only; omega, ⟨rfl, wrap_succ hk' hB⟩, rfl⟩, fun hg => ⟨(i, k + 1, out), ⟨⟨by simp only; omega, by simp only; omega⟩, by simp only; omega, hs.2 (by simpa using hg)⟩, by simp only; omega, ⟨rfl, wrap_succ hk' hB⟩, rfl⟩⟩
      simp only [List.length_append, List.length_cons, List.length_nil]; omega
  · refine ⟨true, by intro _; constructor <;> (intros; simp_all), ?_, by simp⟩
    intro _
    refine ⟨true, ?_, false, ?_, ?_, ?_⟩
    · simp [hx, hy]; omega
    · simp [hx, hy]; omega
    · intro hv
      refine ⟨⟨by omega, by omega⟩, fun x' hx' => ?_⟩
      obtain rfl : x = x' := by simpa [hx] using hx'
      refine ⟨fun hv1 => (by simp at hv1), fun hv1 => ?_⟩
      have hs := bothR_step hinv (lev_first hx hk (fun y' hy' => by rw [hy] at hy'; cases hy'))
      refine ⟨by omega, by omega, fun hg => ⟨hbytes _, (i + 1, k, _), ⟨⟨by simp only; omega, by simp only; omega⟩, ?_, hs.1 (by simpa using hg)⟩, by simp only; omega, ⟨wrap_succ hi' hA, rfl⟩, rfl⟩, fun hg => ⟨(i + 1, k, out), ⟨⟨by simp only; omega, by simp only; omega⟩, by simp only; omega, hs.2 (by simpa using hg)⟩, by simp only; omega, ⟨wrap_succ hi' hA, rfl⟩, rfl⟩⟩
      simp only [List.length_append, List.length_cons, List.length_nil]; omega
    · intro hv; simp at hv
  · refine ⟨true, by intro _; constructor <;> (intros; simp_all), ?_, by simp⟩
    intro _
    refine ⟨false, ?_, true, ?_, ?_, ?_⟩
    · simp [hx, hy]; omega
    · simp [hx, hy]; omega
    · intro hv; simp at hv
    · intro hv
      refine ⟨fun hv1 => ⟨⟨by omega, by omega⟩, fun y' hy' => ?_⟩, fun hv1 => by simp at hv1⟩
      obtain rfl : y = y' := by simpa [hy] using hy'
      have hs := bothR_step hinv (lev_second hy hi (fun x' hx' => by rw [hx] at hx'; cases hx'))
      refine ⟨by omega, by omega, fun hg => ⟨hbytes _, (i, k + 1, _), ⟨⟨by simp only; omega, by simp only; omega⟩, ?_, hs.1 (by simpa using hg)⟩, by simp only; omega, ⟨rfl, wrap_succ hk' hB⟩, rfl⟩, fun hg => ⟨(i, k + 1, out), ⟨⟨by simp only; omega, by simp only; omega⟩, by simp only; omega, hs.2 (by simpa using hg)⟩, by simp only; omega, ⟨rfl, wrap_succ hk' hB⟩, rfl⟩⟩
      simp only [List.length_append, List.length_cons, List.length_nil]; omega
  · refine ⟨false, by intro _; constructor <;> (intros; simp_all), by simp, ?_⟩
    intro _
    have he : levL a b i k = [] := by
      rw [hi', hk']
      simp [levL]
      cases a.2.length + b.2.length - a.2.length - b.2.length <;> simp [mrg]
    rw [he] at hinv
    have : bothL min a b = wholeL (min a.1 b.1, out) := by
      unfold bothL
      rw [← hinv]; simp [bothR]
    rw [this]
    exact ⟨⟨rfl, rfl⟩, rfl⟩
theorem joinN_ok : PSpecOk PP 28 (Q [lab, lab] [lab, i64] (fun x => sm100 x.1 && sm100 x.2.1) (fun x => ((bothNL max x.1 x.2.1).1, (bothNL max x.1 x.2.1).2, ()))) := by
  refine pspec_Q mixed (fn := Tryd.f28) (c := c28) rfl rfl _ _ rfl ?_
  rintro ⟨a, b, ⟨⟩⟩ - hp
  rw [Bool.and_eq_true] at hp
  have ha : a.2.length ≤ 100 := of_decide_eq_true hp.1
  have hb : b.2.length ≤ 100 := of_decide_eq_true hp.2
  refine ⟨_, env_ok [p58, p44, p59, p60] [] [] [] (joinNLoop max a b), rfl, hold (joinN_vc a b) ?_⟩
  simp only [true_and, and_true, Prod.eta, maxI_fun]
  refine ⟨by simp only [smallLs, Bool.and_eq_true, decide_eq_true_eq, List.all_cons, List.all_nil, and_true]; exact ⟨by simp, by omega, by omega⟩, fun hA => ?_⟩
  have hlen := namedL2_len a b
  have hW : bothNL max a b = wholeL (max a.1 b.1, buildR (max a.1 b.1) (fun k => max (atL a k) (atL b k)) (namedL [a, b])) := rfl
  rw [hW]
  generalize namedL [a, b] = ns at *
  refine ⟨0, by simp, ⟨rfl, by simp [buildR]⟩, fun i hi => ?_⟩
  rcases get_cases ns i hi with ⟨x, hx, hi'⟩ | ⟨hx, hi'⟩
  · refine ⟨fun _ => ⟨by omega, fun y hy => ?_⟩, fun h => by simp at h; omega⟩
    obtain rfl : x = y := by simpa [hx] using hy
    have hbl := build_len (max a.1 b.1) (fun k => max (atL a k) (atL b k)) (ns.take i)
    rw [List.length_take] at hbl
    refine ⟨decide_eq_true (by omega), i + 1, by omega, by omega, wrap_succ hi' hA, ?_⟩
    rw [build_take (max a.1 b.1) (fun k => max (atL a k) (atL b k)) ns i x _ hx rfl]
    exact ⟨rfl, rfl⟩
  · subst hi'
    refine ⟨fun h => by simp at h, fun _ => ?_⟩
    rw [List.take_length]
    exact ⟨⟨rfl, rfl⟩, rfl⟩
theorem meetN_ok : PSpecOk PP 30 (Q [lab, lab] [lab, i64] (fun x => sm100 x.1 && sm100 x.2.1) (fun x => ((bothNL min x.1 x.2.1).1, (bothNL min x.1 x.2.1).2, ()))) := by
  refine pspec_Q mixed (fn := Tryd.f30) (c := c30) rfl rfl _ _ rfl ?_
  rintro ⟨a, b, ⟨⟩⟩ - hp
  rw [Bool.and_eq_true] at hp
  have ha : a.2.length ≤ 100 := of_decide_eq_true hp.1
  have hb : b.2.length ≤ 100 := of_decide_eq_true hp.2
  refine ⟨_, env_ok [p58, p44, p59, p60] [] [] [] (joinNLoop min a b), rfl, hold (meetN_vc a b) ?_⟩
  simp only [true_and, and_true, Prod.eta, minI_fun, maxI_fun]
  refine ⟨by simp only [smallLs, Bool.and_eq_true, decide_eq_true_eq, List.all_cons, List.all_nil, and_true]; exact ⟨by simp, by omega, by omega⟩, fun hA => ?_⟩
  have hlen := namedL2_len a b
  have hW : bothNL min a b = wholeL (min a.1 b.1, buildR (min a.1 b.1) (fun k => min (atL a k) (atL b k)) (namedL [a, b])) := rfl
  rw [hW]
  generalize namedL [a, b] = ns at *
  refine ⟨0, by simp, ⟨rfl, by simp [buildR]⟩, fun i hi => ?_⟩
  rcases get_cases ns i hi with ⟨x, hx, hi'⟩ | ⟨hx, hi'⟩
  · refine ⟨fun _ => ⟨by omega, fun y hy => ?_⟩, fun h => by simp at h; omega⟩
    obtain rfl : x = y := by simpa [hx] using hy
    have hbl := build_len (min a.1 b.1) (fun k => min (atL a k) (atL b k)) (ns.take i)
    rw [List.length_take] at hbl
    refine ⟨decide_eq_true (by omega), i + 1, by omega, by omega, wrap_succ hi' hA, ?_⟩
    rw [build_take (min a.1 b.1) (fun k => min (atL a k) (atL b k)) ns i x _ hx rfl]
    exact ⟨rfl, rfl⟩
  · subst hi'
    refine ⟨fun h => by simp at h, fun _ => ?_⟩
    rw [List.take_length]
    exact ⟨⟨rfl, rfl⟩, rfl⟩
end Go.Proofs.YtblhojadchbcnaaDoor
namespace Go.Proofs.YtblhojadchbcnaaDoor
open Go.Proofs.YtblhojadchbcnaaDoor.Gx
set_option maxRecDepth 100000
set_option maxHeartbeats 0
noncomputable def c7 : Code := Tryd.f7.body.getD .skip
noncomputable def c8 : Code := Tryd.f8.body.getD .skip
noncomputable def p28 : Pv PP := ⟨28, _, ⟨rfl, joinN_ok⟩⟩
noncomputable def p29 : Pv PP := ⟨29, _, ⟨rfl, meet_ok⟩⟩
noncomputable def p30 : Pv PP := ⟨30, _, ⟨rfl, meetN_ok⟩⟩
theorem compares_vc (a b : Lab) : fvc PP (eP [p13, p17, p27, p28, p29, p30, p16, p22, p31]) Tryd.f7 c7 (ofArgs [lab, lab] (a, b, ())) St0 (gives [.bool] (true, ())) = (
  true = true ∧ ((!true) = true → false = true ∧ True) ∧ ((!true) = false → true = true ∧ ((!rightsL [(a.fst, a.snd), (b.fst, b.snd)]) = true → true = true ∧ True) ∧ ((!rightsL [(a.fst, a.snd), (b.fst, b.snd)]) = false → 
  (sml (a.fst, a.snd) && sml (b.fst, b.snd)) = true ∧ (sm100 (a.fst, a.snd) && sm100 (b.fst, b.snd)) = true ∧ (sml (a.fst, a.snd) && sml (b.fst, b.snd)) = true ∧ (sm100 (a.fst, a.snd) && sm100 (b.fst, b.snd)) = true ∧ ∃ 
  (v : Bool), ((((bothL max (a.fst, a.snd) (b.fst, b.snd)).snd == (bothNL max (a.fst, a.snd) (b.fst, b.snd)).snd) = true → (((bothL min (a.fst, a.snd) (b.fst, b.snd)).snd == (bothNL min (a.fst, a.snd) (b.fst, 
  b.snd)).snd) = true → true = true ∧ (sameL ((bothL max (a.fst, a.snd) (b.fst, b.snd)).fst.fst, (bothL max (a.fst, a.snd) (b.fst, b.snd)).fst.snd) ((bothNL max (a.fst, a.snd) (b.fst, b.snd)).fst.fst, (bothNL max (a.fst, 
  a.snd) (b.fst, b.snd)).fst.snd) = true → true = true ∧ (sameL ((bothL min (a.fst, a.snd) (b.fst, b.snd)).fst.fst, (bothL min (a.fst, a.snd) (b.fst, b.snd)).fst.snd) ((bothNL min (a.fst, a.snd) (b.fst, b.snd)).fst.fst, 
  (bothNL min (a.fst, a.snd) (b.fst, b.snd)).fst.snd) = true → true = true ∧ (sml (a.fst, a.snd) && sml (b.fst, b.snd)) = true ∧ (leqM (a.fst, a.snd) (b.fst, b.snd) == leqN (a.fst, a.snd) (b.fst, b.snd)) = v) ∧ (sameL 
  ((bothL min (a.fst, a.snd) (b.fst, b.snd)).fst.fst, (bothL min (a.fst, a.snd) (b.fst, b.snd)).fst.snd) ((bothNL min (a.fst, a.snd) (b.fst, b.snd)).fst.fst, (bothNL min (a.fst, a.snd) (b.fst, b.snd)).fst.snd) = !true → 
  false = v)) ∧ (sameL ((bothL max (a.fst, a.snd) (b.fst, b.snd)).fst.fst, (bothL max (a.fst, a.snd) (b.fst, b.snd)).fst.snd) ((bothNL max (a.fst, a.snd) (b.fst, b.snd)).fst.fst, (bothNL max (a.fst, a.snd) (b.fst, 
  b.snd)).fst.snd) = !true → false = v)) ∧ (((bothL min (a.fst, a.snd) (b.fst, b.snd)).snd == (bothNL min (a.fst, a.snd) (b.fst, b.snd)).snd) = !true → false = v)) ∧ (((bothL max (a.fst, a.snd) (b.fst, b.snd)).snd == 
  (bothNL max (a.fst, a.snd) (b.fst, b.snd)).snd) = !true → false = v)) ∧ v = true ∧ True))) := by kernel_rfl
theorem bounds_vc (a b c : Lab) : fvc PP (eP [p13, p17, p27, p29, p16, p22]) Tryd.f8 c8 (ofArgs [lab, lab, lab] (a, b, c, ())) St0 (gives [.bool] (true, ())) = (
  true = true ∧ ((!true) = true → false = true ∧ True) ∧ ((!true) = false → true = true ∧ ((!rightsL [(a.fst, a.snd), (b.fst, b.snd), (c.fst, c.snd)]) = true → true = true ∧ True) ∧ ((!rightsL [(a.fst, a.snd), (b.fst, 
  b.snd), (c.fst, c.snd)]) = false → (sml (a.fst, a.snd) && sml (b.fst, b.snd)) = true ∧ (((bothL max (a.fst, a.snd) (b.fst, b.snd)).snd == (0 : Int)) = true → true = true ∧ ((!leqM (a.fst, a.snd) ((bothL max (a.fst, 
  a.snd) (b.fst, b.snd)).fst.fst, (bothL max (a.fst, a.snd) (b.fst, b.snd)).fst.snd)) = false → true = true ∧ ((!leqM (b.fst, b.snd) ((bothL max (a.fst, a.snd) (b.fst, b.snd)).fst.fst, (bothL max (a.fst, a.snd) (b.fst, 
  b.snd)).fst.snd)) = false → true = true ∧ (leqM (a.fst, a.snd) (c.fst, c.snd) = true → true = true ∧ (leqM (b.fst, b.snd) (c.fst, c.snd) = true → true = true ∧ ((!leqM ((bothL max (a.fst, a.snd) (b.fst, 
  b.snd)).fst.fst, (bothL max (a.fst, a.snd) (b.fst, b.snd)).fst.snd) (c.fst, c.snd)) = true → false = true ∧ True) ∧ ((!leqM ((bothL max (a.fst, a.snd) (b.fst, b.snd)).fst.fst, (bothL max (a.fst, a.snd) (b.fst, 
  b.snd)).fst.snd) (c.fst, c.snd)) = false → (sml (a.fst, a.snd) && sml (b.fst, b.snd)) = true ∧ (((bothL min (a.fst, a.snd) (b.fst, b.snd)).snd == (0 : Int)) = true → true = true ∧ ((!leqM ((bothL min (a.fst, a.snd) 
  (b.fst, b.snd)).fst.fst, (bothL min (a.fst, a.snd) (b.fst, b.snd)).fst.snd) (a.fst, a.snd)) = false → true = true ∧ ((!leqM ((bothL min (a.fst, a.snd) (b.fst, b.snd)).fst.fst, (bothL min (a.fst, a.snd) (b.fst, 
  b.snd)).fst.snd) (b.fst, b.snd)) = false → true = true ∧ (leqM (c.fst, c.snd) (a.fst, a.snd) = true → true = true ∧ (leqM (c.fst, c.snd) (b.fst, b.snd) = true → true = true ∧ ((!leqM (c.fst, c.snd) ((bothL min (a.fst, 
  a.snd) (b.fst, b.snd)).fst.fst, (bothL min (a.fst, a.snd) (b.fst, b.snd)).fst.snd)) = true → false = true ∧ True) ∧ ((!leqM (c.fst, c.snd) ((bothL min (a.fst, a.snd) (b.fst, b.snd)).fst.fst, (bothL min (a.fst, a.snd) 
  (b.fst, b.snd)).fst.snd)) = false → (sml (b.fst, b.snd) && sml (a.fst, a.snd)) = true ∧ (((bothL max (b.fst, b.snd) (a.fst, a.snd)).snd == (bothL max (a.fst, a.snd) (b.fst, b.snd)).snd) = true → true = true ∧ sameL 
  ((bothL max (a.fst, a.snd) (b.fst, b.snd)).fst.fst, (bothL max (a.fst, a.snd) (b.fst, b.snd)).fst.snd) ((bothL max (b.fst, b.snd) (a.fst, a.snd)).fst.fst, (bothL max (b.fst, b.snd) (a.fst, a.snd)).fst.snd) = true ∧ 
  True) ∧ (((bothL max (b.fst, b.snd) (a.fst, a.snd)).snd == (bothL max (a.fst, a.snd) (b.fst, b.snd)).snd) = !true → false = true ∧ True))) ∧ (leqM (c.fst, c.snd) (b.fst, b.snd) = !true → (sml (b.fst, b.snd) && sml 
  (a.fst, a.snd)) = true ∧ (((bothL max (b.fst, b.snd) (a.fst, a.snd)).snd == (bothL max (a.fst, a.snd) (b.fst, b.snd)).snd) = true → true = true ∧ sameL ((bothL max (a.fst, a.snd) (b.fst, b.snd)).fst.fst, (bothL max 
  (a.fst, a.snd) (b.fst, b.snd)).fst.snd) ((bothL max (b.fst, b.snd) (a.fst, a.snd)).fst.fst, (bothL max (b.fst, b.snd) (a.fst, a.snd)).fst.snd) = true ∧ True) ∧ (((bothL max (b.fst, b.snd) (a.fst, a.snd)).snd == (bothL 
  max (a.fst, a.snd) (b.fst, b.snd)).snd) = !true → false = true ∧ True))) ∧ (leqM (c.fst, c.snd) (a.fst, a.snd) = !true → (sml (b.fst, b.snd) && sml (a.fst, a.snd)) = true ∧ (((bothL max (b.fst, b.snd) (a.fst, 
  a.snd)).snd == (bothL max (a.fst, a.snd) (b.fst, b.snd)).snd) = true → true = true ∧ sameL ((bothL max (a.fst, a.snd) (b.fst, b.snd)).fst.fst, (bothL max (a.fst, a.snd) (b.fst, b.snd)).fst.snd) ((bothL max (b.fst, 
  b.snd) (a.fst, a.snd)).fst.fst, (bothL max (b.fst, b.snd) (a.fst, a.snd)).fst.snd) = true ∧ True) ∧ (((bothL max (b.fst, b.snd) (a.fst, a.snd)).snd == (bothL max (a.fst, a.snd) (b.fst, b.snd)).snd) = !true → false = 
  true ∧ True))) ∧ ((!leqM ((bothL min (a.fst, a.snd) (b.fst, b.snd)).fst.fst, (bothL min (a.fst, a.snd) (b.fst, b.snd)).fst.snd) (b.fst, b.snd)) = !false → false = true ∧ True)) ∧ ((!leqM ((bothL min (a.fst, a.snd) 
  (b.fst, b.snd)).fst.fst, (bothL min (a.fst, a.snd) (b.fst, b.snd)).fst.snd) (a.fst, a.snd)) = !false → false = true ∧ True)) ∧ (((bothL min (a.fst, a.snd) (b.fst, b.snd)).snd == (0 : Int)) = !true → (sml (b.fst, b.snd) 
  && sml (a.fst, a.snd)) = true ∧ (((bothL max (b.fst, b.snd) (a.fst, a.snd)).snd == (bothL max (a.fst, a.snd) (b.fst, b.snd)).snd) = true → true = true ∧ sameL ((bothL max (a.fst, a.snd) (b.fst, b.snd)).fst.fst, (bothL 
  max (a.fst, a.snd) (b.fst, b.snd)).fst.snd) ((bothL max (b.fst, b.snd) (a.fst, a.snd)).fst.fst, (bothL max (b.fst, b.snd) (a.fst, a.snd)).fst.snd) = true ∧ True) ∧ (((bothL max (b.fst, b.snd) (a.fst, a.snd)).snd == 
  (bothL max (a.fst, a.snd) (b.fst, b.snd)).snd) = !true → false = true ∧ True)))) ∧ (leqM (b.fst, b.snd) (c.fst, c.snd) = !true → (sml (a.fst, a.snd) && sml (b.fst, b.snd)) = true ∧ (((bothL min (a.fst, a.snd) (b.fst, 
  b.snd)).snd == (0 : Int)) = true → true = true ∧ ((!leqM ((bothL min (a.fst, a.snd) (b.fst, b.snd)).fst.fst, (bothL min (a.fst, a.snd) (b.fst, b.snd)).fst.snd) (a.fst, a.snd)) = false → true = true ∧ ((!leqM ((bothL 
  min (a.fst, a.snd) (b.fst, b.snd)).fst.fst, (bothL min (a.fst, a.snd) (b.fst, b.snd)).fst.snd) (b.fst, b.snd)) = false → true = true ∧ (leqM (c.fst, c.snd) (a.fst, a.snd) = true → true = true ∧ (leqM (c.fst, c.snd) 
  (b.fst, b.snd) = true → true = true ∧ ((!leqM (c.fst, c.snd) ((bothL min (a.fst, a.snd) (b.fst, b.snd)).fst.fst, (bothL min (a.fst, a.snd) (b.fst, b.snd)).fst.snd)) = true → false = true ∧ True) ∧ ((!leqM (c.fst, 
  c.snd) ((bothL min (a.fst, a.snd) (b.fst, b.snd)).fst.fst, (bothL min (a.fst, a.snd) (b.fst, b.snd)).fst.snd)) = false → (sml (b.fst, b.snd) && sml (a.fst, a.snd)) = true ∧ (((bothL max (b.fst, b.snd) (a.fst, 
  a.snd)).snd == (bothL max (a.fst, a.snd) (b.fst, b.snd)).snd) = true → true = true ∧ sameL ((bothL max (a.fst, a.snd) (b.fst, b.snd)).fst.fst, (bothL max (a.fst, a.snd) (b.fst, b.snd)).fst.snd) ((bothL max (b.fst, 
  b.snd) (a.fst, a.snd)).fst.fst, (bothL max (b.fst, b.snd) (a.fst, a.snd)).fst.snd) = true ∧ True) ∧ (((bothL max (b.fst, b.snd) (a.fst, a.snd)).snd == (bothL max (a.fst, a.snd) (b.fst, b.snd)).snd) = !true → false = 
  true ∧ True))) ∧ (leqM (c.fst, c.snd) (b.fst, b.snd) = !true → (sml (b.fst, b.snd) && sml (a.fst, a.snd)) = true ∧ (((bothL max (b.fst, b.snd) (a.fst, a.snd)).snd == (bothL max (a.fst, a.snd) (b.fst, b.snd)).snd) = 
  true → true = true ∧ sameL ((bothL max (a.fst, a.snd) (b.fst, b.snd)).fst.fst, (bothL max (a.fst, a.snd) (b.fst, b.snd)).fst.snd) ((bothL max (b.fst, b.snd) (a.fst, a.snd)).fst.fst, (bothL max (b.fst, b.snd) (a.fst, 
  a.snd)).fst.snd) = true ∧ True) ∧ (((bothL max (b.fst, b.snd) (a.fst, a.snd)).snd == (bothL max (a.fst, a.snd) (b.fst, b.snd)).snd) = !true → false = true ∧ True))) ∧ (leqM (c.fst, c.snd) (a.fst, a.snd) = !true → (sml 
  (b.fst, b.snd) && sml (a.fst, a.snd)) = true ∧ (((bothL max (b.fst, b.snd) (a.fst, a.snd)).snd == (bothL max (a.fst, a.snd) (b.fst, b.snd)).snd) = true → true = true ∧ sameL ((bothL max (a.fst, a.snd) (b.fst, 
  b.snd)).fst.fst, (bothL max (a.fst, a.snd) (b.fst, b.snd)).fst.snd) ((bothL max (b.fst, b.snd) (a.fst, a.snd)).fst.fst, (bothL max (b.fst, b.snd) (a.fst, a.snd)).fst.snd) = true ∧ True) ∧ (((bothL max (b.fst, b.snd) 
  (a.fst, a.snd)).snd == (bothL max (a.fst, a.snd) (b.fst, b.snd)).snd) = !true → false = true ∧ True))) ∧ ((!leqM ((bothL min (a.fst, a.snd) (b.fst, b.snd)).fst.fst, (bothL min (a.fst, a.snd) (b.fst, b.snd)).fst.snd) 
  (b.fst, b.snd)) = !false → false = true ∧ True)) ∧ ((!leqM ((bothL min (a.fst, a.snd) (b.fst, b.snd)).fst.fst, (bothL min (a.fst, a.snd) (b.fst, b.snd)).fst.snd) (a.fst, a.snd)) = !false → false = true ∧ True)) ∧ 
  (((bothL min (a.fst, a.snd) (b.fst, b.snd)).snd == (0 : Int)) = !true → (sml (b.fst, b.snd) && sml (a.fst, a.snd)) = true ∧ (((bothL max (b.fst, b.snd) (a.fst, a.snd)).snd == (bothL max (a.fst, a.snd) (b.fst, 
  b.snd)).snd) = true → true = true ∧ sameL ((bothL max (a.fst, a.snd) (b.fst, b.snd)).fst.fst, (bothL max (a.fst, a.snd) (b.fst, b.snd)).fst.snd) ((bothL max (b.fst, b.snd) (a.fst, a.snd)).fst.fst, (bothL max (b.fst, 
  b.snd) (a.fst, a.snd)).fst.snd) = true ∧ True) ∧ (((bothL max (b.fst, b.snd) (a.fst, a.snd)).snd == (bothL max (a.fst, a.snd) (b.fst, b.snd)).snd) = !true → false = true ∧ True)))) ∧ (leqM (a.fst, a.snd) (c.fst, c.snd) 
  = !true → (sml (a.fst, a.snd) && sml (b.fst, b.snd)) = true ∧ (((bothL min (a.fst, a.snd) (b.fst, b.snd)).snd == (0 : Int)) = true → true = true ∧ ((!leqM ((bothL min (a.fst, a.snd) (b.fst, b.snd)).fst.fst, (bothL min 
  (a.fst, a.snd) (b.fst, b.snd)).fst.snd) (a.fst, a.snd)) = false → true = true ∧ ((!leqM ((bothL min (a.fst, a.snd) (b.fst, b.snd)).fst.fst, (bothL min (a.fst, a.snd) (b.fst, b.snd)).fst.snd) (b.fst, b.snd)) = false → 
  true = true ∧ (leqM (c.fst, c.snd) (a.fst, a.snd) = true → true = true ∧ (leqM (c.fst, c.snd) (b.fst, b.snd) = true → true = true ∧ ((!leqM (c.fst, c.snd) ((bothL min (a.fst, a.snd) (b.fst, b.snd)).fst.fst, (bothL min 
  (a.fst, a.snd) (b.fst, b.snd)).fst.snd)) = true → false = true ∧ True) ∧ ((!leqM (c.fst, c.snd) ((bothL min (a.fst, a.snd) (b.fst, b.snd)).fst.fst, (bothL min (a.fst, a.snd) (b.fst, b.snd)).fst.snd)) = false → (sml 
  (b.fst, b.snd) && sml (a.fst, a.snd)) = true ∧ (((bothL max (b.fst, b.snd) (a.fst, a.snd)).snd == (bothL max (a.fst, a.snd) (b.fst, b.snd)).snd) = true → true = true ∧ sameL ((bothL max (a.fst, a.snd) (b.fst, 
  b.snd)).fst.fst, (bothL max (a.fst, a.snd) (b.fst, b.snd)).fst.snd) ((bothL max (b.fst, b.snd) (a.fst, a.snd)).fst.fst, (bothL max (b.fst, b.snd) (a.fst, a.snd)).fst.snd) = true ∧ True) ∧ (((bothL max (b.fst, b.snd) 
  (a.fst, a.snd)).snd == (bothL max (a.fst, a.snd) (b.fst, b.snd)).snd) = !true → false = true ∧ True))) ∧ (leqM (c.fst, c.snd) (b.fst, b.snd) = !true → (sml (b.fst, b.snd) && sml (a.fst, a.snd)) = true ∧ (((bothL max 
  (b.fst, b.snd) (a.fst, a.snd)).snd == (bothL max (a.fst, a.snd) (b.fst, b.snd)).snd) = true → true = true ∧ sameL ((bothL max (a.fst, a.snd) (b.fst, b.snd)).fst.fst, (bothL max (a.fst, a.snd) (b.fst, b.snd)).fst.snd) 
  ((bothL max (b.fst, b.snd) (a.fst, a.snd)).fst.fst, (bothL max (b.fst, b.snd) (a.fst, a.snd)).fst.snd) = true ∧ True) ∧ (((bothL max (b.fst, b.snd) (a.fst, a.snd)).snd == (bothL max (a.fst, a.snd) (b.fst, b.snd)).snd) 
  = !true → false = true ∧ True))) ∧ (leqM (c.fst, c.snd) (a.fst, a.snd) = !true → (sml (b.fst, b.snd) && sml (a.fst, a.snd)) = true ∧ (((bothL max (b.fst, b.snd) (a.fst, a.snd)).snd == (bothL max (a.fst, a.snd) (b.fst, 
  b.snd)).snd) = true → true = true ∧ sameL ((bothL max (a.fst, a.snd) (b.fst, b.snd)).fst.fst, (bothL max (a.fst, a.snd) (b.fst, b.snd)).fst.snd) ((bothL max (b.fst, b.snd) (a.fst, a.snd)).fst.fst, (bothL max (b.fst, 
  b.snd) (a.fst, a.snd)).fst.snd) = true ∧ True) ∧ (((bothL max (b.fst, b.snd) (a.fst, a.snd)).snd == (bothL max (a.fst, a.snd) (b.fst, b.snd)).snd) = !true → false = true ∧ True))) ∧ ((!leqM ((bothL min (a.fst, a.snd) 
  (b.fst, b.snd)).fst.fst, (bothL min (a.fst, a.snd) (b.fst, b.snd)).fst.snd) (b.fst, b.snd)) = !false → false = true ∧ True)) ∧ ((!leqM ((bothL min (a.fst, a.snd) (b.fst, b.snd)).fst.fst, (bothL min (a.fst, a.snd) 
  (b.fst, b.snd)).fst.snd) (a.fst, a.snd)) = !false → false = true ∧ True)) ∧ (((bothL min (a.fst, a.snd) (b.fst, b.snd)).snd == (0 : Int)) = !true → (sml (b.fst, b.snd) && sml (a.fst, a.snd)) = true ∧ (((bothL max 
  (b.fst, b.snd) (a.fst, a.snd)).snd == (bothL max (a.fst, a.snd) (b.fst, b.snd)).snd) = true → true = true ∧ sameL ((bothL max (a.fst, a.snd) (b.fst, b.snd)).fst.fst, (bothL max (a.fst, a.snd) (b.fst, b.snd)).fst.snd) 
  ((bothL max (b.fst, b.snd) (a.fst, a.snd)).fst.fst, (bothL max (b.fst, b.snd) (a.fst, a.snd)).fst.snd) = true ∧ True) ∧ (((bothL max (b.fst, b.snd) (a.fst, a.snd)).snd == (bothL max (a.fst, a.snd) (b.fst, b.snd)).snd) 
  = !true → false = true ∧ True)))) ∧ ((!leqM (b.fst, b.snd) ((bothL max (a.fst, a.snd) (b.fst, b.snd)).fst.fst, (bothL max (a.fst, a.snd) (b.fst, b.snd)).fst.snd)) = !false → false = true ∧ True)) ∧ ((!leqM (a.fst, 
  a.snd) ((bothL max (a.fst, a.snd) (b.fst, b.snd)).fst.fst, (bothL max (a.fst, a.snd) (b.fst, b.snd)).fst.snd)) = !false → false = true ∧ True)) ∧ (((bothL max (a.fst, a.snd) (b.fst, b.snd)).snd == (0 : Int)) = !true → 
  (sml (a.fst, a.snd) && sml (b.fst, b.snd)) = true ∧ (((bothL min (a.fst, a.snd) (b.fst, b.snd)).snd == (0 : Int)) = true → true = true ∧ ((!leqM ((bothL min (a.fst, a.snd) (b.fst, b.snd)).fst.fst, (bothL min (a.fst, 
  a.snd) (b.fst, b.snd)).fst.snd) (a.fst, a.snd)) = false → true = true ∧ ((!leqM ((bothL min (a.fst, a.snd) (b.fst, b.snd)).fst.fst, (bothL min (a.fst, a.snd) (b.fst, b.snd)).fst.snd) (b.fst, b.snd)) = false → true = 
  true ∧ (leqM (c.fst, c.snd) (a.fst, a.snd) = true → true = true ∧ (leqM (c.fst, c.snd) (b.fst, b.snd) = true → true = true ∧ ((!leqM (c.fst, c.snd) ((bothL min (a.fst, a.snd) (b.fst, b.snd)).fst.fst, (bothL min (a.fst, 
  a.snd) (b.fst, b.snd)).fst.snd)) = true → false = true ∧ True) ∧ ((!leqM (c.fst, c.snd) ((bothL min (a.fst, a.snd) (b.fst, b.snd)).fst.fst, (bothL min (a.fst, a.snd) (b.fst, b.snd)).fst.snd)) = false → (sml (b.fst, 
  b.snd) && sml (a.fst, a.snd)) = true ∧ (((bothL max (b.fst, b.snd) (a.fst, a.snd)).snd == (bothL max (a.fst, a.snd) (b.fst, b.snd)).snd) = true → true = true ∧ sameL ((bothL max (a.fst, a.snd) (b.fst, b.snd)).fst.fst, 
  (bothL max (a.fst, a.snd) (b.fst, b.snd)).fst.snd) ((bothL max (b.fst, b.snd) (a.fst, a.snd)).fst.fst, (bothL max (b.fst, b.snd) (a.fst, a.snd)).fst.snd) = true ∧ True) ∧ (((bothL max (b.fst, b.snd) (a.fst, a.snd)).snd 
  == (bothL max (a.fst, a.snd) (b.fst, b.snd)).snd) = !true → false = true ∧ True))) ∧ (leqM (c.fst, c.snd) (b.fst, b.snd) = !true → (sml (b.fst, b.snd) && sml (a.fst, a.snd)) = true ∧ (((bothL max (b.fst, b.snd) (a.fst, 
  a.snd)).snd == (bothL max (a.fst, a.snd) (b.fst, b.snd)).snd) = true → true = true ∧ sameL ((bothL max (a.fst, a.snd) (b.fst, b.snd)).fst.fst, (bothL max (a.fst, a.snd) (b.fst, b.snd)).fst.snd) ((bothL max (b.fst, 
  b.snd) (a.fst, a.snd)).fst.fst, (bothL max (b.fst, b.snd) (a.fst, a.snd)).fst.snd) = true ∧ True) ∧ (((bothL max (b.fst, b.snd) (a.fst, a.snd)).snd == (bothL max (a.fst, a.snd) (b.fst, b.snd)).snd) = !true → false = 
  true ∧ True))) ∧ (leqM (c.fst, c.snd) (a.fst, a.snd) = !true → (sml (b.fst, b.snd) && sml (a.fst, a.snd)) = true ∧ (((bothL max (b.fst, b.snd) (a.fst, a.snd)).snd == (bothL max (a.fst, a.snd) (b.fst, b.snd)).snd) = 
  true → true = true ∧ sameL ((bothL max (a.fst, a.snd) (b.fst, b.snd)).fst.fst, (bothL max (a.fst, a.snd) (b.fst, b.snd)).fst.snd) ((bothL max (b.fst, b.snd) (a.fst, a.snd)).fst.fst, (bothL max (b.fst, b.snd) (a.fst, 
  a.snd)).fst.snd) = true ∧ True) ∧ (((bothL max (b.fst, b.snd) (a.fst, a.snd)).snd == (bothL max (a.fst, a.snd) (b.fst, b.snd)).snd) = !true → false = true ∧ True))) ∧ ((!leqM ((bothL min (a.fst, a.snd) (b.fst, 
  b.snd)).fst.fst, (bothL min (a.fst, a.snd) (b.fst, b.snd)).fst.snd) (b.fst, b.snd)) = !false → false = true ∧ True)) ∧ ((!leqM ((bothL min (a.fst, a.snd) (b.fst, b.snd)).fst.fst, (bothL min (a.fst, a.snd) (b.fst, 
  b.snd)).fst.snd) (a.fst, a.snd)) = !false → false = true ∧ True)) ∧ (((bothL min (a.fst, a.snd) (b.fst, b.snd)).snd == (0 : Int)) = !true → (sml (b.fst, b.snd) && sml (a.fst, a.snd)) = true ∧ (((bothL max (b.fst, 
  b.snd) (a.fst, a.snd)).snd == (bothL max (a.fst, a.snd) (b.fst, b.snd)).snd) = true → true = true ∧ sameL ((bothL max (a.fst, a.snd) (b.fst, b.snd)).fst.fst, (bothL max (a.fst, a.snd) (b.fst, b.snd)).fst.snd) ((bothL 
  max (b.fst, b.snd) (a.fst, a.snd)).fst.fst, (bothL max (b.fst, b.snd) (a.fst, a.snd)).fst.snd) = true ∧ True) ∧ (((bothL max (b.fst, b.snd) (a.fst, a.snd)).snd == (bothL max (a.fst, a.snd) (b.fst, b.snd)).snd) = !true 
  → false = true ∧ True)))))) := by kernel_rfl
end Go.Proofs.YtblhojadchbcnaaDoor
namespace Go.Proofs.YtblhojadchbcnaaDoor
open Go.Proofs.YtblhojadchbcnaaDoor.Gx
set_option maxRecDepth 100000
set_option maxHeartbeats 4000000
set_option linter.unusedSimpArgs false
set_option linter.unusedVariables false
theorem sm_right {l : Lab} (h : rightL l = true) : sm100 l = true := by
  have := right_len h; exact decide_eq_true (by omega)
theorem both_eqN {f : Int → Int → Int} {a b : Lab} (ha : rightL a = true) (hb : rightL b = true) : bothL f a b = bothNL f a b := by
  unfold bothL bothNL
  rw [both_row ha hb]
theorem compares_ok : PSpecOk PP 7 (Q [lab, lab] [.bool] (fun _ => true) (fun _ => (true, ()))) := by
  refine pspec_Q mixed (fn := Tryd.f7) (c := c7) rfl rfl _ _ rfl ?_
  rintro ⟨a, b, ⟨⟩⟩ - -
  refine ⟨_, env_ok [p13, p17, p27, p28, p29, p30, p16, p22, p31] [] [] [] [], rfl, hold (compares_vc a b) ?_⟩
  simp only [true_and, and_true, Prod.eta]
  refine ⟨fun h => by simp at h, fun _ => ⟨fun _ => trivial, fun h => ?_⟩⟩
  simp [rightsL] at h
  obtain ⟨h1, h2⟩ := h
  simp only [sml_right h1, sml_right h2, sm_right h1, sm_right h2, Bool.and_self, true_and, both_eqN h1 h2, same_self, beq_self_eq_true, leq_eq (right_srt h1) (right_srt h2)]
  simp
theorem bounds_ok : PSpecOk PP 8 (Q [lab, lab, lab] [.bool] (fun _ => true) (fun _ => (true, ()))) := by
  refine pspec_Q mixed (fn := Tryd.f8) (c := c8) rfl rfl _ _ rfl ?_
  rintro ⟨a, b, c, ⟨⟩⟩ - -
  refine ⟨_, env_ok [p13, p17, p27, p29, p16, p22] [] [] [] [], rfl, hold (bounds_vc a b c) ?_⟩
  simp only [true_and, and_true, Prod.eta]
  refine ⟨fun h => by simp at h, fun _ => ⟨fun _ => trivial, fun h => ?_⟩⟩
  simp [rightsL] at h
  obtain ⟨h1, h2, h3⟩ := h
  have hcomm : bothL max b a = bothL max a b := both_comm (fun x y => by omega) h2 h1
  have J := fun e => join_le h1 h2 h3 e
  have M := fun e => meet_le h1 h2 h3 e
  simp only [sml_right h1, sml_right h2, Bool.and_self, true_and, hcomm, same_self, beq_self_eq_true, Bool.not_true, Bool.not_false, forall_const, and_true]
  generalize bothL max a b = j at *
  generalize bothL min a b = m at *
  by_cases e1 : j.2 = 0 <;> by_cases e2 : m.2 = 0
  · obtain ⟨j1, j2, j3⟩ := J e1
    obtain ⟨m1, m2, m3⟩ := M e2
    clear J M
    cases hac : leqM a c <;> cases hbc : leqM b c <;> cases hca : leqM c a <;> cases hcb : leqM c b <;> simp_all
  · obtain ⟨j1, j2, j3⟩ := J e1
    clear J M
    cases hac : leqM a c <;> cases hbc : leqM b c <;> simp_all
  · obtain ⟨m1, m2, m3⟩ := M e2
    clear J M
    cases hca : leqM c a <;> cases hcb : leqM c b <;> simp_all
  · simp_all
end Go.Proofs.YtblhojadchbcnaaDoor
