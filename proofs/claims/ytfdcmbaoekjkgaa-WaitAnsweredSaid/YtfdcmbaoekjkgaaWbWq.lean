/- What the functions of the program give, one by one, and the law. -/
import Derived.Test.YtfdcmbaoekjkgaaWaWq
import Derived.Test.YtfdcmbaoekjkgaaGdWq
namespace Go.Proofs.Ytfdcmbaoekjkgaa
open Go.Proofs.Ytfdcmbaoekjkgaa.Gx
set_option maxRecDepth 100000
set_option linter.unusedVariables false
set_option maxHeartbeats 0

theorem ans_vc (sc : List opT.den) : (fvc PP (env PP [p8] [m9, m10, m11, m12, m13, m14, m16, m17, m20, m21, b15, b19] [] [] (ansLoop sc)) Try.f5 c5 (ofArgs [.slice opT] (sc, ())) St0 (gives [.bool] (true, ()))) = (
  true = true ∧ ((!true) = true → false = true ∧ True) ∧ ((!true) = false → True ∧ True ∧ True ∧ (∀ (y : Unit), True → sc.length ≤ maxLen → ∃ (x0 : Nat × Rm × List Int), ((x0.fst ≤ sc.length ∧ x0.fst ≤ (200 : Nat)) ∧ 
  Wait1 x0.snd.fst x0.fst ∧ x0.snd.snd = allW x0.snd.fst) ∧ ((True ∧ True) ∧ ((0 : Int) = (↑x0.fst : Int) ∧ True ∧ (↑sc.length : Int) = (↑sc.length : Int) ∧ sc = sc ∧ True ∧ false = false ∧ sc = sc ∧ True) ∧ (KR.cust = 
  KR.cust ∧ ((0 : Int), [], []) = x0.snd.fst) ∧ [] = x0.snd.snd ∧ True) ∧ ∀ (x : Nat × Rm × List Int), (x.fst ≤ sc.length ∧ x.fst ≤ (200 : Nat)) ∧ Wait1 x.snd.fst x.fst ∧ x.snd.snd = allW x.snd.fst → (decide ((↑x.fst : 
  Int) < (↑sc.length : Int)) = true → ((0 : Int) ≤ (↑x.fst : Int) ∧ (↑x.fst : Int) < (↑sc.length : Int)) ∧ ∀ (y : Int × Int × Int × Int × Int), sc[(↑x.fst : Int).toNat]? = some y → (decide ((↑x.fst : Int) ≥ (200 : Int)) 
  = true → true = true ∧ True) ∧ (decide ((↑x.fst : Int) ≥ (200 : Int)) = false → ((y.fst == (1 : Int)) = true → True ∧ (True ∧ y.snd.fst = y.snd.fst ∧ y.snd.snd.fst = y.snd.snd.fst ∧ y.snd.snd.snd.fst = 
  y.snd.snd.snd.fst ∧ True) ∧ ((KR.cust = KR.cust ∧ x.snd.fst = waitC.inn (x.snd.fst, y.snd.fst, y.snd.snd.fst, y.snd.snd.snd.fst)) ∧ True) ∧ (∀ (y_1 : Unit), True → (((waitR x.snd.fst y.snd.fst y.snd.snd.fst 
  y.snd.snd.snd.fst).fst == (0 : Int)) = true → true = true ∧ (inL x.snd.snd y.snd.fst = true → false = true ∧ True) ∧ (inL x.snd.snd y.snd.fst = false → (x.snd.snd.length + [y.snd.fst].length) * (8 : Nat) ≤ 
  (140737488355328 : Nat) ∧ ∃ (x0 : Nat), x0.le (0 : Nat) ∧ ((True ∧ True) ∧ ((0 : Int) = (↑x0 : Int) ∧ True ∧ True ∧ (0 : Int) = (0 : Int) ∧ false = false ∧ true = true ∧ true = true ∧ y.fst = y.fst ∧ SV.val 
  (Value.slice none (0 : Nat) (0 : Nat)) = SV.val (Value.slice none (0 : Nat) (0 : Nat)) ∧ false = false ∧ (↑x.fst : Int) = (↑x.fst : Int) ∧ True ∧ true = true ∧ (↑x.fst : Int) = (↑x.fst : Int) ∧ (↑sc.length : Int) = 
  (↑sc.length : Int) ∧ sc = sc ∧ True ∧ false = false ∧ sc = sc ∧ True) ∧ (KR.cust = KR.cust ∧ (waitR x.snd.fst y.snd.fst y.snd.snd.fst y.snd.snd.snd.fst).snd = (waitR x.snd.fst y.snd.fst y.snd.snd.fst 
  y.snd.snd.snd.fst).snd) ∧ x.snd.snd ++ [y.snd.fst] = without (x.snd.snd ++ [y.snd.fst]) (List.take x0 []) ∧ (y.fst = y.fst ∧ y.snd.fst = y.snd.fst ∧ y.snd.snd.fst = y.snd.snd.fst ∧ y.snd.snd.snd.fst = y.snd.snd.snd.fst 
  ∧ y.snd.snd.snd.snd = y.snd.snd.snd.snd ∧ True) ∧ [y.snd.fst] = [y.snd.fst] ∧ ([] : List Int) = [] ∧ True) ∧ ∀ (x_1 : Nat), x_1.le (0 : Nat) → (decide ((↑x_1 : Int) < (0 : Int)) = true → ((0 : Int) ≤ (↑x_1 : Int) ∧ 
  (↑x_1 : Int) < (↑(0 : Nat) : Int)) ∧ (↑x_1 : Int).toNat < (0 : Nat) ∧ ∀ (y_2 : Int), ([] : List Int)[(↑x_1 : Int).toNat]? = some y_2 → true = true ∧ ((!inL (without (x.snd.snd ++ [y.snd.fst]) (List.take x_1 [])) y_2) = 
  true → false = true ∧ True) ∧ ((!inL (without (x.snd.snd ++ [y.snd.fst]) (List.take x_1 [])) y_2) = false → (without (x.snd.snd ++ [y.snd.fst]) (List.take x_1 [])).length ≤ maxLen → ∃ (x0 : Nat), x0.le (without 
  (x.snd.snd ++ [y.snd.fst]) (List.take x_1 [])).length ∧ ((True ∧ True) ∧ ((0 : Int) = (↑x0 : Int) ∧ True ∧ (↑(without (x.snd.snd ++ [y.snd.fst]) (List.take x_1 [])).length : Int) = (↑(without (x.snd.snd ++ [y.snd.fst]) 
  (List.take x_1 [])).length : Int) ∧ True ∧ false = false ∧ y_2 = y_2 ∧ true = true ∧ (↑x_1 : Int) = (↑x_1 : Int) ∧ True ∧ True ∧ (0 : Int) = (0 : Int) ∧ false = false ∧ true = true ∧ true = true ∧ y.fst = y.fst ∧ 
  SV.val (Value.slice none (0 : Nat) (0 : Nat)) = SV.val (Value.slice none (0 : Nat) (0 : Nat)) ∧ false = false ∧ (↑x.fst : Int) = (↑x.fst : Int) ∧ True ∧ true = true ∧ (↑x.fst : Int) = (↑x.fst : Int) ∧ (↑sc.length : 
  Int) = (↑sc.length : Int) ∧ sc = sc ∧ True ∧ false = false ∧ sc = sc ∧ True) ∧ (KR.cust = KR.cust ∧ (waitR x.snd.fst y.snd.fst y.snd.snd.fst y.snd.snd.snd.fst).snd = (waitR x.snd.fst y.snd.fst y.snd.snd.fst 
  y.snd.snd.snd.fst).snd) ∧ without (x.snd.snd ++ [y.snd.fst]) (List.take x_1 []) = without (x.snd.snd ++ [y.snd.fst]) (List.take x_1 []) ∧ (y.fst = y.fst ∧ y.snd.fst = y.snd.fst ∧ y.snd.snd.fst = y.snd.snd.fst ∧ 
  y.snd.snd.snd.fst = y.snd.snd.snd.fst ∧ y.snd.snd.snd.snd = y.snd.snd.snd.snd ∧ True) ∧ [y.snd.fst] = [y.snd.fst] ∧ ([] : List Int) = [] ∧ [] = List.filter (fun (x : Int) => x != y_2) (List.take x0 (without (x.snd.snd 
  ++ [y.snd.fst]) (List.take x_1 []))) ∧ True) ∧ ∀ (x_2 : Nat), x_2.le (without (x.snd.snd ++ [y.snd.fst]) (List.take x_1 [])).length → (decide ((↑x_2 : Int) < (↑(without (x.snd.snd ++ [y.snd.fst]) (List.take x_1 
  [])).length : Int)) = true → ((0 : Int) ≤ (↑x_2 : Int) ∧ (↑x_2 : Int) < (↑(without (x.snd.snd ++ [y.snd.fst]) (List.take x_1 [])).length : Int)) ∧ (↑x_2 : Int).toNat < (without (x.snd.snd ++ [y.snd.fst]) (List.take x_1 
  [])).length ∧ ∀ (y_3 : Int), (without (x.snd.snd ++ [y.snd.fst]) (List.take x_1 []))[(↑x_2 : Int).toNat]? = some y_3 → ((y_3 != y_2) = true → ((List.filter (fun (x : Int) => x != y_2) (List.take x_2 (without (x.snd.snd 
  ++ [y.snd.fst]) (List.take x_1 [])))).length + [y_3].length) * (8 : Nat) ≤ (140737488355328 : Nat) ∧ ∃ (x' : Nat), x'.le (without (x.snd.snd ++ [y.snd.fst]) (List.take x_1 [])).length ∧ (without (x.snd.snd ++ 
  [y.snd.fst]) (List.take x_1 [])).length - x' < (without (x.snd.snd ++ [y.snd.fst]) (List.take x_1 [])).length - x_2 ∧ (True ∧ True) ∧ (IntKind.i64.wrap ((↑x_2 : Int) + (1 : Int)) = (↑x' : Int) ∧ True ∧ (↑(without 
  (x.snd.snd ++ [y.snd.fst]) (List.take x_1 [])).length : Int) = (↑(without (x.snd.snd ++ [y.snd.fst]) (List.take x_1 [])).length : Int) ∧ True ∧ false = false ∧ y_2 = y_2 ∧ true = true ∧ (↑x_1 : Int) = (↑x_1 : Int) ∧ 
  True ∧ True ∧ (0 : Int) = (0 : Int) ∧ false = false ∧ true = true ∧ true = true ∧ y.fst = y.fst ∧ SV.val (Value.slice none (0 : Nat) (0 : Nat)) = SV.val (Value.slice none (0 : Nat) (0 : Nat)) ∧ false = false ∧ (↑x.fst 
  : Int) = (↑x.fst : Int) ∧ True ∧ true = true ∧ (↑x.fst : Int) = (↑x.fst : Int) ∧ (↑sc.length : Int) = (↑sc.length : Int) ∧ sc = sc ∧ True ∧ false = false ∧ sc = sc ∧ True) ∧ (KR.cust = KR.cust ∧ (waitR x.snd.fst 
  y.snd.fst y.snd.snd.fst y.snd.snd.snd.fst).snd = (waitR x.snd.fst y.snd.fst y.snd.snd.fst y.snd.snd.snd.fst).snd) ∧ without (x.snd.snd ++ [y.snd.fst]) (List.take x_1 []) = without (x.snd.snd ++ [y.snd.fst]) (List.take 
  x_1 []) ∧ (y.fst = y.fst ∧ y.snd.fst = y.snd.fst ∧ y.snd.snd.fst = y.snd.snd.fst ∧ y.snd.snd.snd.fst = y.snd.snd.snd.fst ∧ y.snd.snd.snd.snd = y.snd.snd.snd.snd ∧ True) ∧ [y.snd.fst] = [y.snd.fst] ∧ ([] : List Int) = 
  [] ∧ List.filter (fun (x : Int) => x != y_2) (List.take x_2 (without (x.snd.snd ++ [y.snd.fst]) (List.take x_1 []))) ++ [y_3] = List.filter (fun (x : Int) => x != y_2) (List.take x' (without (x.snd.snd ++ [y.snd.fst]) 
  (List.take x_1 []))) ∧ True) ∧ ((y_3 != y_2) = false → ∃ (x' : Nat), x'.le (without (x.snd.snd ++ [y.snd.fst]) (List.take x_1 [])).length ∧ (without (x.snd.snd ++ [y.snd.fst]) (List.take x_1 [])).length - x' < (without 
  (x.snd.snd ++ [y.snd.fst]) (List.take x_1 [])).length - x_2 ∧ (True ∧ True) ∧ (IntKind.i64.wrap ((↑x_2 : Int) + (1 : Int)) = (↑x' : Int) ∧ True ∧ (↑(without (x.snd.snd ++ [y.snd.fst]) (List.take x_1 [])).length : Int) 
  = (↑(without (x.snd.snd ++ [y.snd.fst]) (List.take x_1 [])).length : Int) ∧ True ∧ false = false ∧ y_2 = y_2 ∧ true = true ∧ (↑x_1 : Int) = (↑x_1 : Int) ∧ True ∧ True ∧ (0 : Int) = (0 : Int) ∧ false = false ∧ true = 
  true ∧ true = true ∧ y.fst = y.fst ∧ SV.val (Value.slice none (0 : Nat) (0 : Nat)) = SV.val (Value.slice none (0 : Nat) (0 : Nat)) ∧ false = false ∧ (↑x.fst : Int) = (↑x.fst : Int) ∧ True ∧ true = true ∧ (↑x.fst : Int) 
  = (↑x.fst : Int) ∧ (↑sc.length : Int) = (↑sc.length : Int) ∧ sc = sc ∧ True ∧ false = false ∧ sc = sc ∧ True) ∧ (KR.cust = KR.cust ∧ (waitR x.snd.fst y.snd.fst y.snd.snd.fst y.snd.snd.snd.fst).snd = (waitR x.snd.fst 
  y.snd.fst y.snd.snd.fst y.snd.snd.snd.fst).snd) ∧ without (x.snd.snd ++ [y.snd.fst]) (List.take x_1 []) = without (x.snd.snd ++ [y.snd.fst]) (List.take x_1 []) ∧ (y.fst = y.fst ∧ y.snd.fst = y.snd.fst ∧ y.snd.snd.fst = 
  y.snd.snd.fst ∧ y.snd.snd.snd.fst = y.snd.snd.snd.fst ∧ y.snd.snd.snd.snd = y.snd.snd.snd.snd ∧ True) ∧ [y.snd.fst] = [y.snd.fst] ∧ ([] : List Int) = [] ∧ List.filter (fun (x : Int) => x != y_2) (List.take x_2 (without 
  (x.snd.snd ++ [y.snd.fst]) (List.take x_1 []))) = List.filter (fun (x : Int) => x != y_2) (List.take x' (without (x.snd.snd ++ [y.snd.fst]) (List.take x_1 []))) ∧ True)) ∧ (decide ((↑x_2 : Int) < (↑(without (x.snd.snd 
  ++ [y.snd.fst]) (List.take x_1 [])).length : Int)) = false → ∃ (x' : Nat), x'.le (0 : Nat) ∧ (0 : Nat) - x' < (0 : Nat) - x_1 ∧ (True ∧ True) ∧ (IntKind.i64.wrap ((↑x_1 : Int) + (1 : Int)) = (↑x' : Int) ∧ True ∧ True ∧ 
  (0 : Int) = (0 : Int) ∧ false = false ∧ true = true ∧ true = true ∧ y.fst = y.fst ∧ SV.val (Value.slice none (0 : Nat) (0 : Nat)) = SV.val (Value.slice none (0 : Nat) (0 : Nat)) ∧ false = false ∧ (↑x.fst : Int) = 
  (↑x.fst : Int) ∧ True ∧ true = true ∧ (↑x.fst : Int) = (↑x.fst : Int) ∧ (↑sc.length : Int) = (↑sc.length : Int) ∧ sc = sc ∧ True ∧ false = false ∧ sc = sc ∧ True) ∧ (KR.cust = KR.cust ∧ (waitR x.snd.fst y.snd.fst 
  y.snd.snd.fst y.snd.snd.snd.fst).snd = (waitR x.snd.fst y.snd.fst y.snd.snd.fst y.snd.snd.snd.fst).snd) ∧ List.filter (fun (x : Int) => x != y_2) (List.take x_2 (without (x.snd.snd ++ [y.snd.fst]) (List.take x_1 []))) 
  = without (x.snd.snd ++ [y.snd.fst]) (List.take x' []) ∧ (y.fst = y.fst ∧ y.snd.fst = y.snd.fst ∧ y.snd.snd.fst = y.snd.snd.fst ∧ y.snd.snd.snd.fst = y.snd.snd.snd.fst ∧ y.snd.snd.snd.snd = y.snd.snd.snd.snd ∧ True) ∧ 
  [y.snd.fst] = [y.snd.fst] ∧ ([] : List Int) = [] ∧ True))) ∧ (decide ((↑x_1 : Int) < (0 : Int)) = false → True ∧ (True ∧ True) ∧ ((KR.cust = KR.cust ∧ (waitR x.snd.fst y.snd.fst y.snd.snd.fst y.snd.snd.snd.fst).snd = 
  lenC.inn (waitR x.snd.fst y.snd.fst y.snd.snd.fst y.snd.snd.snd.fst).snd) ∧ True) ∧ (∀ (y_2 : Unit), True → (without (x.snd.snd ++ [y.snd.fst]) (List.take x_1 [])).length ≤ maxLen → (((↑(tks (waitR x.snd.fst y.snd.fst 
  y.snd.snd.fst y.snd.snd.snd.fst).snd).length : Int) != (↑(without (x.snd.snd ++ [y.snd.fst]) (List.take x_1 [])).length : Int)) = true → false = true ∧ True) ∧ (((↑(tks (waitR x.snd.fst y.snd.fst y.snd.snd.fst 
  y.snd.snd.snd.fst).snd).length : Int) != (↑(without (x.snd.snd ++ [y.snd.fst]) (List.take x_1 [])).length : Int)) = false → (without (x.snd.snd ++ [y.snd.fst]) (List.take x_1 [])).length ≤ maxLen → ∃ (x0 : Nat), x0.le 
  (without (x.snd.snd ++ [y.snd.fst]) (List.take x_1 [])).length ∧ ((True ∧ True) ∧ ((0 : Int) = (↑x0 : Int) ∧ (↑(without (x.snd.snd ++ [y.snd.fst]) (List.take x_1 [])).length : Int) = (↑(without (x.snd.snd ++ 
  [y.snd.fst]) (List.take x_1 [])).length : Int) ∧ True ∧ false = false ∧ false = false ∧ (↑x_1 : Int) = (↑x_1 : Int) ∧ True ∧ True ∧ (0 : Int) = (0 : Int) ∧ false = false ∧ true = true ∧ true = true ∧ y.fst = y.fst ∧ 
  SV.val (Value.slice none (0 : Nat) (0 : Nat)) = SV.val (Value.slice none (0 : Nat) (0 : Nat)) ∧ false = false ∧ (↑x.fst : Int) = (↑x.fst : Int) ∧ True ∧ true = true ∧ (↑x.fst : Int) = (↑x.fst : Int) ∧ (↑sc.length : 
  Int) = (↑sc.length : Int) ∧ sc = sc ∧ True ∧ false = false ∧ sc = sc ∧ True) ∧ (KR.cust = KR.cust ∧ (waitR x.snd.fst y.snd.fst y.snd.snd.fst y.snd.snd.snd.fst).snd = (waitR x.snd.fst y.snd.fst y.snd.snd.fst 
  y.snd.snd.snd.fst).snd) ∧ without (x.snd.snd ++ [y.snd.fst]) (List.take x_1 []) = without (x.snd.snd ++ [y.snd.fst]) (List.take x_1 []) ∧ (y.fst = y.fst ∧ y.snd.fst = y.snd.fst ∧ y.snd.snd.fst = y.snd.snd.fst ∧ 
  y.snd.snd.snd.fst = y.snd.snd.snd.fst ∧ y.snd.snd.snd.snd = y.snd.snd.snd.snd ∧ True) ∧ [y.snd.fst] = [y.snd.fst] ∧ ([] : List Int) = [] ∧ True) ∧ ∀ (x_2 : Nat), x_2.le (without (x.snd.snd ++ [y.snd.fst]) (List.take 
  x_1 [])).length → (decide ((↑x_2 : Int) < (↑(without (x.snd.snd ++ [y.snd.fst]) (List.take x_1 [])).length : Int)) = true → ((0 : Int) ≤ (↑x_2 : Int) ∧ (↑x_2 : Int) < (↑(without (x.snd.snd ++ [y.snd.fst]) (List.take 
  x_1 [])).length : Int)) ∧ (↑x_2 : Int).toNat < (without (x.snd.snd ++ [y.snd.fst]) (List.take x_1 [])).length ∧ ∀ (y_3 : Int), (without (x.snd.snd ++ [y.snd.fst]) (List.take x_1 []))[(↑x_2 : Int).toNat]? = some y_3 → 
  True ∧ (True ∧ y_3 = y_3 ∧ True) ∧ ((KR.cust = KR.cust ∧ (waitR x.snd.fst y.snd.fst y.snd.snd.fst y.snd.snd.snd.fst).snd = whereC.inn ((waitR x.snd.fst y.snd.fst y.snd.snd.fst y.snd.snd.snd.fst).snd, y_3)) ∧ True) ∧ (∀ 
  (y_4 : Unit), True → ((!(lookL (tks (waitR x.snd.fst y.snd.fst y.snd.snd.fst y.snd.snd.snd.fst).snd) y_3).isSome) = false → (tks (waitR x.snd.fst y.snd.fst y.snd.snd.fst y.snd.snd.snd.fst).snd).length.le (1000000000000 
  : Nat) ∧ (True ∧ (placeOf (waitR x.snd.fst y.snd.fst y.snd.snd.fst y.snd.snd.snd.fst).snd y_3).fst = (placeOf (waitR x.snd.fst y.snd.fst y.snd.snd.fst y.snd.snd.snd.fst).snd y_3).fst ∧ (placeOf (waitR x.snd.fst 
  y.snd.fst y.snd.snd.fst y.snd.snd.snd.fst).snd y_3).snd = (placeOf (waitR x.snd.fst y.snd.fst y.snd.snd.fst y.snd.snd.snd.fst).snd y_3).snd ∧ True) ∧ ((KR.cust = KR.cust ∧ (waitR x.snd.fst y.snd.fst y.snd.snd.fst 
  y.snd.snd.snd.fst).snd = listC.inn ((waitR x.snd.fst y.snd.fst y.snd.snd.fst y.snd.snd.snd.fst).snd, (placeOf (waitR x.snd.fst y.snd.fst y.snd.snd.fst y.snd.snd.snd.fst).snd y_3).fst, (placeOf (waitR x.snd.fst 
  y.snd.fst y.snd.snd.fst y.snd.snd.snd.fst).snd y_3).snd)) ∧ True) ∧ (∀ (y_5 : List Int), Row (tks (waitR x.snd.fst y.snd.fst y.snd.snd.fst y.snd.snd.snd.fst).snd) (keysAt (tks (waitR x.snd.fst y.snd.fst y.snd.snd.fst 
  y.snd.snd.snd.fst).snd) (atP (placeOf (waitR x.snd.fst y.snd.fst y.snd.snd.fst y.snd.snd.snd.fst).snd y_3).fst (placeOf (waitR x.snd.fst y.snd.fst y.snd.snd.fst y.snd.snd.snd.fst).snd y_3).snd)) y_5 → true = true ∧ 
  ((!inL y_5 y_3) = true → false = true ∧ True) ∧ ((!inL y_5 y_3) = false → ∃ (x' : Nat), x'.le (without (x.snd.snd ++ [y.snd.fst]) (List.take x_1 [])).length ∧ (without (x.snd.snd ++ [y.snd.fst]) (List.take x_1 
  [])).length - x' < (without (x.snd.snd ++ [y.snd.fst]) (List.take x_1 [])).length - x_2 ∧ (True ∧ True) ∧ (IntKind.i64.wrap ((↑x_2 : Int) + (1 : Int)) = (↑x' : Int) ∧ (↑(without (x.snd.snd ++ [y.snd.fst]) (List.take 
  x_1 [])).length : Int) = (↑(without (x.snd.snd ++ [y.snd.fst]) (List.take x_1 [])).length : Int) ∧ True ∧ false = false ∧ false = false ∧ (↑x_1 : Int) = (↑x_1 : Int) ∧ True ∧ True ∧ (0 : Int) = (0 : Int) ∧ false = 
  false ∧ true = true ∧ true = true ∧ y.fst = y.fst ∧ SV.val (Value.slice none (0 : Nat) (0 : Nat)) = SV.val (Value.slice none (0 : Nat) (0 : Nat)) ∧ false = false ∧ (↑x.fst : Int) = (↑x.fst : Int) ∧ True ∧ true = true ∧ 
  (↑x.fst : Int) = (↑x.fst : Int) ∧ (↑sc.length : Int) = (↑sc.length : Int) ∧ sc = sc ∧ True ∧ false = false ∧ sc = sc ∧ True) ∧ (KR.cust = KR.cust ∧ (waitR x.snd.fst y.snd.fst y.snd.snd.fst y.snd.snd.snd.fst).snd = 
  (waitR x.snd.fst y.snd.fst y.snd.snd.fst y.snd.snd.snd.fst).snd) ∧ without (x.snd.snd ++ [y.snd.fst]) (List.take x_1 []) = without (x.snd.snd ++ [y.snd.fst]) (List.take x_1 []) ∧ (y.fst = y.fst ∧ y.snd.fst = y.snd.fst 
  ∧ y.snd.snd.fst = y.snd.snd.fst ∧ y.snd.snd.snd.fst = y.snd.snd.snd.fst ∧ y.snd.snd.snd.snd = y.snd.snd.snd.snd ∧ True) ∧ [y.snd.fst] = [y.snd.fst] ∧ ([] : List Int) = [] ∧ True)) ∧ True) ∧ ((!(lookL (tks (waitR 
  x.snd.fst y.snd.fst y.snd.snd.fst y.snd.snd.snd.fst).snd) y_3).isSome) = !false → false = true ∧ True)) ∧ True) ∧ (decide ((↑x_2 : Int) < (↑(without (x.snd.snd ++ [y.snd.fst]) (List.take x_1 [])).length : Int)) = false 
  → ∃ (x' : Nat × Rm × List Int), ((x'.fst ≤ sc.length ∧ x'.fst ≤ (200 : Nat)) ∧ Wait1 x'.snd.fst x'.fst ∧ x'.snd.snd = allW x'.snd.fst) ∧ sc.length - x'.fst < sc.length - x.fst ∧ (True ∧ True) ∧ (IntKind.i64.wrap 
  ((↑x.fst : Int) + (1 : Int)) = (↑x'.fst : Int) ∧ True ∧ (↑sc.length : Int) = (↑sc.length : Int) ∧ sc = sc ∧ True ∧ false = false ∧ sc = sc ∧ True) ∧ (KR.cust = KR.cust ∧ (waitR x.snd.fst y.snd.fst y.snd.snd.fst 
  y.snd.snd.snd.fst).snd = x'.snd.fst) ∧ without (x.snd.snd ++ [y.snd.fst]) (List.take x_1 []) = x'.snd.snd ∧ True))) ∧ True))) ∧ (((waitR x.snd.fst y.snd.fst y.snd.snd.fst y.snd.snd.snd.fst).fst == (0 : Int)) = false → 
  ∃ (x0 : Nat), x0.le (0 : Nat) ∧ ((True ∧ True) ∧ ((0 : Int) = (↑x0 : Int) ∧ True ∧ True ∧ (0 : Int) = (0 : Int) ∧ false = false ∧ true = true ∧ y.fst = y.fst ∧ SV.val (Value.slice none (0 : Nat) (0 : Nat)) = SV.val 
  (Value.slice none (0 : Nat) (0 : Nat)) ∧ false = false ∧ (↑x.fst : Int) = (↑x.fst : Int) ∧ True ∧ true = true ∧ (↑x.fst : Int) = (↑x.fst : Int) ∧ (↑sc.length : Int) = (↑sc.length : Int) ∧ sc = sc ∧ True ∧ false = false 
  ∧ sc = sc ∧ True) ∧ (KR.cust = KR.cust ∧ (waitR x.snd.fst y.snd.fst y.snd.snd.fst y.snd.snd.snd.fst).snd = (waitR x.snd.fst y.snd.fst y.snd.snd.fst y.snd.snd.snd.fst).snd) ∧ x.snd.snd = without x.snd.snd (List.take x0 
  []) ∧ (y.fst = y.fst ∧ y.snd.fst = y.snd.fst ∧ y.snd.snd.fst = y.snd.snd.fst ∧ y.snd.snd.snd.fst = y.snd.snd.snd.fst ∧ y.snd.snd.snd.snd = y.snd.snd.snd.snd ∧ True) ∧ ([] : List Int) = [] ∧ True) ∧ ∀ (x_1 : Nat), 
  x_1.le (0 : Nat) → (decide ((↑x_1 : Int) < (0 : Int)) = true → ((0 : Int) ≤ (↑x_1 : Int) ∧ (↑x_1 : Int) < (↑(0 : Nat) : Int)) ∧ (↑x_1 : Int).toNat < (0 : Nat) ∧ ∀ (y_2 : Int), ([] : List Int)[(↑x_1 : Int).toNat]? = 
  some y_2 → true = true ∧ ((!inL (without x.snd.snd (List.take x_1 [])) y_2) = true → false = true ∧ True) ∧ ((!inL (without x.snd.snd (List.take x_1 [])) y_2) = false → (without x.snd.snd (List.take x_1 [])).length ≤ 
  maxLen → ∃ (x0 : Nat), x0.le (without x.snd.snd (List.take x_1 [])).length ∧ ((True ∧ True) ∧ ((0 : Int) = (↑x0 : Int) ∧ True ∧ (↑(without x.snd.snd (List.take x_1 [])).length : Int) = (↑(without x.snd.snd (List.take 
  x_1 [])).length : Int) ∧ True ∧ false = false ∧ y_2 = y_2 ∧ true = true ∧ (↑x_1 : Int) = (↑x_1 : Int) ∧ True ∧ True ∧ (0 : Int) = (0 : Int) ∧ false = false ∧ true = true ∧ y.fst = y.fst ∧ SV.val (Value.slice none (0 : 
  Nat) (0 : Nat)) = SV.val (Value.slice none (0 : Nat) (0 : Nat)) ∧ false = false ∧ (↑x.fst : Int) = (↑x.fst : Int) ∧ True ∧ true = true ∧ (↑x.fst : Int) = (↑x.fst : Int) ∧ (↑sc.length : Int) = (↑sc.length : Int) ∧ sc = 
  sc ∧ True ∧ false = false ∧ sc = sc ∧ True) ∧ (KR.cust = KR.cust ∧ (waitR x.snd.fst y.snd.fst y.snd.snd.fst y.snd.snd.snd.fst).snd = (waitR x.snd.fst y.snd.fst y.snd.snd.fst y.snd.snd.snd.fst).snd) ∧ without x.snd.snd 
  (List.take x_1 []) = without x.snd.snd (List.take x_1 []) ∧ (y.fst = y.fst ∧ y.snd.fst = y.snd.fst ∧ y.snd.snd.fst = y.snd.snd.fst ∧ y.snd.snd.snd.fst = y.snd.snd.snd.fst ∧ y.snd.snd.snd.snd = y.snd.snd.snd.snd ∧ True) 
  ∧ ([] : List Int) = [] ∧ [] = List.filter (fun (x : Int) => x != y_2) (List.take x0 (without x.snd.snd (List.take x_1 []))) ∧ True) ∧ ∀ (x_2 : Nat), x_2.le (without x.snd.snd (List.take x_1 [])).length → (decide ((↑x_2 
  : Int) < (↑(without x.snd.snd (List.take x_1 [])).length : Int)) = true → ((0 : Int) ≤ (↑x_2 : Int) ∧ (↑x_2 : Int) < (↑(without x.snd.snd (List.take x_1 [])).length : Int)) ∧ (↑x_2 : Int).toNat < (without x.snd.snd 
  (List.take x_1 [])).length ∧ ∀ (y_3 : Int), (without x.snd.snd (List.take x_1 []))[(↑x_2 : Int).toNat]? = some y_3 → ((y_3 != y_2) = true → ((List.filter (fun (x : Int) => x != y_2) (List.take x_2 (without x.snd.snd 
  (List.take x_1 [])))).length + [y_3].length) * (8 : Nat) ≤ (140737488355328 : Nat) ∧ ∃ (x' : Nat), x'.le (without x.snd.snd (List.take x_1 [])).length ∧ (without x.snd.snd (List.take x_1 [])).length - x' < (without 
  x.snd.snd (List.take x_1 [])).length - x_2 ∧ (True ∧ True) ∧ (IntKind.i64.wrap ((↑x_2 : Int) + (1 : Int)) = (↑x' : Int) ∧ True ∧ (↑(without x.snd.snd (List.take x_1 [])).length : Int) = (↑(without x.snd.snd (List.take 
  x_1 [])).length : Int) ∧ True ∧ false = false ∧ y_2 = y_2 ∧ true = true ∧ (↑x_1 : Int) = (↑x_1 : Int) ∧ True ∧ True ∧ (0 : Int) = (0 : Int) ∧ false = false ∧ true = true ∧ y.fst = y.fst ∧ SV.val (Value.slice none (0 : 
  Nat) (0 : Nat)) = SV.val (Value.slice none (0 : Nat) (0 : Nat)) ∧ false = false ∧ (↑x.fst : Int) = (↑x.fst : Int) ∧ True ∧ true = true ∧ (↑x.fst : Int) = (↑x.fst : Int) ∧ (↑sc.length : Int) = (↑sc.length : Int) ∧ sc = 
  sc ∧ True ∧ false = false ∧ sc = sc ∧ True) ∧ (KR.cust = KR.cust ∧ (waitR x.snd.fst y.snd.fst y.snd.snd.fst y.snd.snd.snd.fst).snd = (waitR x.snd.fst y.snd.fst y.snd.snd.fst y.snd.snd.snd.fst).snd) ∧ without x.snd.snd 
  (List.take x_1 []) = without x.snd.snd (List.take x_1 []) ∧ (y.fst = y.fst ∧ y.snd.fst = y.snd.fst ∧ y.snd.snd.fst = y.snd.snd.fst ∧ y.snd.snd.snd.fst = y.snd.snd.snd.fst ∧ y.snd.snd.snd.snd = y.snd.snd.snd.snd ∧ True) 
  ∧ ([] : List Int) = [] ∧ List.filter (fun (x : Int) => x != y_2) (List.take x_2 (without x.snd.snd (List.take x_1 []))) ++ [y_3] = List.filter (fun (x : Int) => x != y_2) (List.take x' (without x.snd.snd (List.take x_1 
  []))) ∧ True) ∧ ((y_3 != y_2) = false → ∃ (x' : Nat), x'.le (without x.snd.snd (List.take x_1 [])).length ∧ (without x.snd.snd (List.take x_1 [])).length - x' < (without x.snd.snd (List.take x_1 [])).length - x_2 ∧ 
  (True ∧ True) ∧ (IntKind.i64.wrap ((↑x_2 : Int) + (1 : Int)) = (↑x' : Int) ∧ True ∧ (↑(without x.snd.snd (List.take x_1 [])).length : Int) = (↑(without x.snd.snd (List.take x_1 [])).length : Int) ∧ True ∧ false = false 
  ∧ y_2 = y_2 ∧ true = true ∧ (↑x_1 : Int) = (↑x_1 : Int) ∧ True ∧ True ∧ (0 : Int) = (0 : Int) ∧ false = false ∧ true = true ∧ y.fst = y.fst ∧ SV.val (Value.slice none (0 : Nat) (0 : Nat)) = SV.val (Value.slice none (0 
  : Nat) (0 : Nat)) ∧ false = false ∧ (↑x.fst : Int) = (↑x.fst : Int) ∧ True ∧ true = true ∧ (↑x.fst : Int) = (↑x.fst : Int) ∧ (↑sc.length : Int) = (↑sc.length : Int) ∧ sc = sc ∧ True ∧ false = false ∧ sc = sc ∧ True) ∧ 
  (KR.cust = KR.cust ∧ (waitR x.snd.fst y.snd.fst y.snd.snd.fst y.snd.snd.snd.fst).snd = (waitR x.snd.fst y.snd.fst y.snd.snd.fst y.snd.snd.snd.fst).snd) ∧ without x.snd.snd (List.take x_1 []) = without x.snd.snd 
  (List.take x_1 []) ∧ (y.fst = y.fst ∧ y.snd.fst = y.snd.fst ∧ y.snd.snd.fst = y.snd.snd.fst ∧ y.snd.snd.snd.fst = y.snd.snd.snd.fst ∧ y.snd.snd.snd.snd = y.snd.snd.snd.snd ∧ True) ∧ ([] : List Int) = [] ∧ List.filter 
  (fun (x : Int) => x != y_2) (List.take x_2 (without x.snd.snd (List.take x_1 []))) = List.filter (fun (x : Int) => x != y_2) (List.take x' (without x.snd.snd (List.take x_1 []))) ∧ True)) ∧ (decide ((↑x_2 : Int) < 
  (↑(without x.snd.snd (List.take x_1 [])).length : Int)) = false → ∃ (x' : Nat), x'.le (0 : Nat) ∧ (0 : Nat) - x' < (0 : Nat) - x_1 ∧ (True ∧ True) ∧ (IntKind.i64.wrap ((↑x_1 : Int) + (1 : Int)) = (↑x' : Int) ∧ True ∧ 
  True ∧ (0 : Int) = (0 : Int) ∧ false = false ∧ true = true ∧ y.fst = y.fst ∧ SV.val (Value.slice none (0 : Nat) (0 : Nat)) = SV.val (Value.slice none (0 : Nat) (0 : Nat)) ∧ false = false ∧ (↑x.fst : Int) = (↑x.fst : 
  Int) ∧ True ∧ true = true ∧ (↑x.fst : Int) = (↑x.fst : Int) ∧ (↑sc.length : Int) = (↑sc.length : Int) ∧ sc = sc ∧ True ∧ false = false ∧ sc = sc ∧ True) ∧ (KR.cust = KR.cust ∧ (waitR x.snd.fst y.snd.fst y.snd.snd.fst 
  y.snd.snd.snd.fst).snd = (waitR x.snd.fst y.snd.fst y.snd.snd.fst y.snd.snd.snd.fst).snd) ∧ List.filter (fun (x : Int) => x != y_2) (List.take x_2 (without x.snd.snd (List.take x_1 []))) = without x.snd.snd (List.take 
  x' []) ∧ (y.fst = y.fst ∧ y.snd.fst = y.snd.fst ∧ y.snd.snd.fst = y.snd.snd.fst ∧ y.snd.snd.snd.fst = y.snd.snd.snd.fst ∧ y.snd.snd.snd.snd = y.snd.snd.snd.snd ∧ True) ∧ ([] : List Int) = [] ∧ True))) ∧ (decide ((↑x_1 
  : Int) < (0 : Int)) = false → True ∧ (True ∧ True) ∧ ((KR.cust = KR.cust ∧ (waitR x.snd.fst y.snd.fst y.snd.snd.fst y.snd.snd.snd.fst).snd = lenC.inn (waitR x.snd.fst y.snd.fst y.snd.snd.fst y.snd.snd.snd.fst).snd) ∧ 
  True) ∧ (∀ (y_2 : Unit), True → (without x.snd.snd (List.take x_1 [])).length ≤ maxLen → (((↑(tks (waitR x.snd.fst y.snd.fst y.snd.snd.fst y.snd.snd.snd.fst).snd).length : Int) != (↑(without x.snd.snd (List.take x_1 
  [])).length : Int)) = true → false = true ∧ True) ∧ (((↑(tks (waitR x.snd.fst y.snd.fst y.snd.snd.fst y.snd.snd.snd.fst).snd).length : Int) != (↑(without x.snd.snd (List.take x_1 [])).length : Int)) = false → (without 
  x.snd.snd (List.take x_1 [])).length ≤ maxLen → ∃ (x0 : Nat), x0.le (without x.snd.snd (List.take x_1 [])).length ∧ ((True ∧ True) ∧ ((0 : Int) = (↑x0 : Int) ∧ (↑(without x.snd.snd (List.take x_1 [])).length : Int) = 
  (↑(without x.snd.snd (List.take x_1 [])).length : Int) ∧ True ∧ false = false ∧ false = false ∧ (↑x_1 : Int) = (↑x_1 : Int) ∧ True ∧ True ∧ (0 : Int) = (0 : Int) ∧ false = false ∧ true = true ∧ y.fst = y.fst ∧ SV.val 
  (Value.slice none (0 : Nat) (0 : Nat)) = SV.val (Value.slice none (0 : Nat) (0 : Nat)) ∧ false = false ∧ (↑x.fst : Int) = (↑x.fst : Int) ∧ True ∧ true = true ∧ (↑x.fst : Int) = (↑x.fst : Int) ∧ (↑sc.length : Int) = 
  (↑sc.length : Int) ∧ sc = sc ∧ True ∧ false = false ∧ sc = sc ∧ True) ∧ (KR.cust = KR.cust ∧ (waitR x.snd.fst y.snd.fst y.snd.snd.fst y.snd.snd.snd.fst).snd = (waitR x.snd.fst y.snd.fst y.snd.snd.fst 
  y.snd.snd.snd.fst).snd) ∧ without x.snd.snd (List.take x_1 []) = without x.snd.snd (List.take x_1 []) ∧ (y.fst = y.fst ∧ y.snd.fst = y.snd.fst ∧ y.snd.snd.fst = y.snd.snd.fst ∧ y.snd.snd.snd.fst = y.snd.snd.snd.fst ∧ 
  y.snd.snd.snd.snd = y.snd.snd.snd.snd ∧ True) ∧ ([] : List Int) = [] ∧ True) ∧ ∀ (x_2 : Nat), x_2.le (without x.snd.snd (List.take x_1 [])).length → (decide ((↑x_2 : Int) < (↑(without x.snd.snd (List.take x_1 
  [])).length : Int)) = true → ((0 : Int) ≤ (↑x_2 : Int) ∧ (↑x_2 : Int) < (↑(without x.snd.snd (List.take x_1 [])).length : Int)) ∧ (↑x_2 : Int).toNat < (without x.snd.snd (List.take x_1 [])).length ∧ ∀ (y_3 : Int), 
  (without x.snd.snd (List.take x_1 []))[(↑x_2 : Int).toNat]? = some y_3 → True ∧ (True ∧ y_3 = y_3 ∧ True) ∧ ((KR.cust = KR.cust ∧ (waitR x.snd.fst y.snd.fst y.snd.snd.fst y.snd.snd.snd.fst).snd = whereC.inn ((waitR 
  x.snd.fst y.snd.fst y.snd.snd.fst y.snd.snd.snd.fst).snd, y_3)) ∧ True) ∧ (∀ (y_4 : Unit), True → ((!(lookL (tks (waitR x.snd.fst y.snd.fst y.snd.snd.fst y.snd.snd.snd.fst).snd) y_3).isSome) = false → (tks (waitR 
  x.snd.fst y.snd.fst y.snd.snd.fst y.snd.snd.snd.fst).snd).length.le (1000000000000 : Nat) ∧ (True ∧ (placeOf (waitR x.snd.fst y.snd.fst y.snd.snd.fst y.snd.snd.snd.fst).snd y_3).fst = (placeOf (waitR x.snd.fst 
  y.snd.fst y.snd.snd.fst y.snd.snd.snd.fst).snd y_3).fst ∧ (placeOf (waitR x.snd.fst y.snd.fst y.snd.snd.fst y.snd.snd.snd.fst).snd y_3).snd = (placeOf (waitR x.snd.fst y.snd.fst y.snd.snd.fst y.snd.snd.snd.fst).snd 
  y_3).snd ∧ True) ∧ ((KR.cust = KR.cust ∧ (waitR x.snd.fst y.snd.fst y.snd.snd.fst y.snd.snd.snd.fst).snd = listC.inn ((waitR x.snd.fst y.snd.fst y.snd.snd.fst y.snd.snd.snd.fst).snd, (placeOf (waitR x.snd.fst y.snd.fst 
  y.snd.snd.fst y.snd.snd.snd.fst).snd y_3).fst, (placeOf (waitR x.snd.fst y.snd.fst y.snd.snd.fst y.snd.snd.snd.fst).snd y_3).snd)) ∧ True) ∧ (∀ (y_5 : List Int), Row (tks (waitR x.snd.fst y.snd.fst y.snd.snd.fst 
  y.snd.snd.snd.fst).snd) (keysAt (tks (waitR x.snd.fst y.snd.fst y.snd.snd.fst y.snd.snd.snd.fst).snd) (atP (placeOf (waitR x.snd.fst y.snd.fst y.snd.snd.fst y.snd.snd.snd.fst).snd y_3).fst (placeOf (waitR x.snd.fst 
  y.snd.fst y.snd.snd.fst y.snd.snd.snd.fst).snd y_3).snd)) y_5 → true = true ∧ ((!inL y_5 y_3) = true → false = true ∧ True) ∧ ((!inL y_5 y_3) = false → ∃ (x' : Nat), x'.le (without x.snd.snd (List.take x_1 [])).length 
  ∧ (without x.snd.snd (List.take x_1 [])).length - x' < (without x.snd.snd (List.take x_1 [])).length - x_2 ∧ (True ∧ True) ∧ (IntKind.i64.wrap ((↑x_2 : Int) + (1 : Int)) = (↑x' : Int) ∧ (↑(without x.snd.snd (List.take 
  x_1 [])).length : Int) = (↑(without x.snd.snd (List.take x_1 [])).length : Int) ∧ True ∧ false = false ∧ false = false ∧ (↑x_1 : Int) = (↑x_1 : Int) ∧ True ∧ True ∧ (0 : Int) = (0 : Int) ∧ false = false ∧ true = true ∧ 
  y.fst = y.fst ∧ SV.val (Value.slice none (0 : Nat) (0 : Nat)) = SV.val (Value.slice none (0 : Nat) (0 : Nat)) ∧ false = false ∧ (↑x.fst : Int) = (↑x.fst : Int) ∧ True ∧ true = true ∧ (↑x.fst : Int) = (↑x.fst : Int) ∧ 
  (↑sc.length : Int) = (↑sc.length : Int) ∧ sc = sc ∧ True ∧ false = false ∧ sc = sc ∧ True) ∧ (KR.cust = KR.cust ∧ (waitR x.snd.fst y.snd.fst y.snd.snd.fst y.snd.snd.snd.fst).snd = (waitR x.snd.fst y.snd.fst 
  y.snd.snd.fst y.snd.snd.snd.fst).snd) ∧ without x.snd.snd (List.take x_1 []) = without x.snd.snd (List.take x_1 []) ∧ (y.fst = y.fst ∧ y.snd.fst = y.snd.fst ∧ y.snd.snd.fst = y.snd.snd.fst ∧ y.snd.snd.snd.fst = 
  y.snd.snd.snd.fst ∧ y.snd.snd.snd.snd = y.snd.snd.snd.snd ∧ True) ∧ ([] : List Int) = [] ∧ True)) ∧ True) ∧ ((!(lookL (tks (waitR x.snd.fst y.snd.fst y.snd.snd.fst y.snd.snd.snd.fst).snd) y_3).isSome) = !false → false 
  = true ∧ True)) ∧ True) ∧ (decide ((↑x_2 : Int) < (↑(without x.snd.snd (List.take x_1 [])).length : Int)) = false → ∃ (x' : Nat × Rm × List Int), ((x'.fst ≤ sc.length ∧ x'.fst ≤ (200 : Nat)) ∧ Wait1 x'.snd.fst x'.fst ∧ 
  x'.snd.snd = allW x'.snd.fst) ∧ sc.length - x'.fst < sc.length - x.fst ∧ (True ∧ True) ∧ (IntKind.i64.wrap ((↑x.fst : Int) + (1 : Int)) = (↑x'.fst : Int) ∧ True ∧ (↑sc.length : Int) = (↑sc.length : Int) ∧ sc = sc ∧ 
  True ∧ false = false ∧ sc = sc ∧ True) ∧ (KR.cust = KR.cust ∧ (waitR x.snd.fst y.snd.fst y.snd.snd.fst y.snd.snd.snd.fst).snd = x'.snd.fst) ∧ without x.snd.snd (List.take x_1 []) = x'.snd.snd ∧ True))) ∧ True))) ∧ 
  True) ∧ ((y.fst == (1 : Int)) = false → ((y.fst == (2 : Int)) = true → (tks x.snd.fst).length.le (1000000000000 : Nat) ∧ (True ∧ y.snd.snd.fst = y.snd.snd.fst ∧ y.snd.snd.snd.fst = y.snd.snd.snd.fst ∧ True) ∧ ((KR.cust 
  = KR.cust ∧ x.snd.fst = wakeC.inn (x.snd.fst, y.snd.snd.fst, y.snd.snd.snd.fst)) ∧ True) ∧ (∀ (y_1 : List Int), Row (tks x.snd.fst) (keysAt (tks x.snd.fst) (atP y.snd.snd.fst y.snd.snd.snd.fst)) y_1 → y_1.length ≤ 
  maxLen → ∃ (x0 : Nat), x0.le y_1.length ∧ ((True ∧ True) ∧ ((0 : Int) = (↑x0 : Int) ∧ True ∧ (↑y_1.length : Int) = (↑y_1.length : Int) ∧ y_1 = y_1 ∧ y_1 = y_1 ∧ true = true ∧ false = false ∧ y.fst = y.fst ∧ false = 
  false ∧ (↑x.fst : Int) = (↑x.fst : Int) ∧ True ∧ true = true ∧ (↑x.fst : Int) = (↑x.fst : Int) ∧ (↑sc.length : Int) = (↑sc.length : Int) ∧ sc = sc ∧ True ∧ false = false ∧ sc = sc ∧ True) ∧ (KR.cust = KR.cust ∧ (last 
  x.snd.fst, delAll (tks x.snd.fst) y_1, als x.snd.fst) = (last x.snd.fst, delAll (tks x.snd.fst) y_1, als x.snd.fst)) ∧ x.snd.snd = without x.snd.snd (List.take x0 y_1) ∧ (y.fst = y.fst ∧ y.snd.fst = y.snd.fst ∧ 
  y.snd.snd.fst = y.snd.snd.fst ∧ y.snd.snd.snd.fst = y.snd.snd.snd.fst ∧ y.snd.snd.snd.snd = y.snd.snd.snd.snd ∧ True) ∧ True) ∧ ∀ (x_1 : Nat), x_1.le y_1.length → (decide ((↑x_1 : Int) < (↑y_1.length : Int)) = true → 
  ((0 : Int) ≤ (↑x_1 : Int) ∧ (↑x_1 : Int) < (↑y_1.length : Int)) ∧ ∀ (y_2 : Int), y_1[(↑x_1 : Int).toNat]? = some y_2 → true = true ∧ ((!inL (without x.snd.snd (List.take x_1 y_1)) y_2) = true → false = true ∧ True) ∧ 
  ((!inL (without x.snd.snd (List.take x_1 y_1)) y_2) = false → (without x.snd.snd (List.take x_1 y_1)).length ≤ maxLen → ∃ (x0 : Nat), x0.le (without x.snd.snd (List.take x_1 y_1)).length ∧ ((True ∧ True) ∧ ((0 : Int) = 
  (↑x0 : Int) ∧ True ∧ (↑(without x.snd.snd (List.take x_1 y_1)).length : Int) = (↑(without x.snd.snd (List.take x_1 y_1)).length : Int) ∧ True ∧ false = false ∧ y_2 = y_2 ∧ true = true ∧ (↑x_1 : Int) = (↑x_1 : Int) ∧ 
  True ∧ (↑y_1.length : Int) = (↑y_1.length : Int) ∧ y_1 = y_1 ∧ y_1 = y_1 ∧ true = true ∧ false = false ∧ y.fst = y.fst ∧ false = false ∧ (↑x.fst : Int) = (↑x.fst : Int) ∧ True ∧ true = true ∧ (↑x.fst : Int) = (↑x.fst : 
  Int) ∧ (↑sc.length : Int) = (↑sc.length : Int) ∧ sc = sc ∧ True ∧ false = false ∧ sc = sc ∧ True) ∧ (KR.cust = KR.cust ∧ (last x.snd.fst, delAll (tks x.snd.fst) y_1, als x.snd.fst) = (last x.snd.fst, delAll (tks 
  x.snd.fst) y_1, als x.snd.fst)) ∧ without x.snd.snd (List.take x_1 y_1) = without x.snd.snd (List.take x_1 y_1) ∧ (y.fst = y.fst ∧ y.snd.fst = y.snd.fst ∧ y.snd.snd.fst = y.snd.snd.fst ∧ y.snd.snd.snd.fst = 
  y.snd.snd.snd.fst ∧ y.snd.snd.snd.snd = y.snd.snd.snd.snd ∧ True) ∧ [] = List.filter (fun (x : Int) => x != y_2) (List.take x0 (without x.snd.snd (List.take x_1 y_1))) ∧ True) ∧ ∀ (x_2 : Nat), x_2.le (without x.snd.snd 
  (List.take x_1 y_1)).length → (decide ((↑x_2 : Int) < (↑(without x.snd.snd (List.take x_1 y_1)).length : Int)) = true → ((0 : Int) ≤ (↑x_2 : Int) ∧ (↑x_2 : Int) < (↑(without x.snd.snd (List.take x_1 y_1)).length : 
  Int)) ∧ (↑x_2 : Int).toNat < (without x.snd.snd (List.take x_1 y_1)).length ∧ ∀ (y_3 : Int), (without x.snd.snd (List.take x_1 y_1))[(↑x_2 : Int).toNat]? = some y_3 → ((y_3 != y_2) = true → ((List.filter (fun (x : Int) 
  => x != y_2) (List.take x_2 (without x.snd.snd (List.take x_1 y_1)))).length + [y_3].length) * (8 : Nat) ≤ (140737488355328 : Nat) ∧ ∃ (x' : Nat), x'.le (without x.snd.snd (List.take x_1 y_1)).length ∧ (without 
  x.snd.snd (List.take x_1 y_1)).length - x' < (without x.snd.snd (List.take x_1 y_1)).length - x_2 ∧ (True ∧ True) ∧ (IntKind.i64.wrap ((↑x_2 : Int) + (1 : Int)) = (↑x' : Int) ∧ True ∧ (↑(without x.snd.snd (List.take 
  x_1 y_1)).length : Int) = (↑(without x.snd.snd (List.take x_1 y_1)).length : Int) ∧ True ∧ false = false ∧ y_2 = y_2 ∧ true = true ∧ (↑x_1 : Int) = (↑x_1 : Int) ∧ True ∧ (↑y_1.length : Int) = (↑y_1.length : Int) ∧ y_1 
  = y_1 ∧ y_1 = y_1 ∧ true = true ∧ false = false ∧ y.fst = y.fst ∧ false = false ∧ (↑x.fst : Int) = (↑x.fst : Int) ∧ True ∧ true = true ∧ (↑x.fst : Int) = (↑x.fst : Int) ∧ (↑sc.length : Int) = (↑sc.length : Int) ∧ sc = 
  sc ∧ True ∧ false = false ∧ sc = sc ∧ True) ∧ (KR.cust = KR.cust ∧ (last x.snd.fst, delAll (tks x.snd.fst) y_1, als x.snd.fst) = (last x.snd.fst, delAll (tks x.snd.fst) y_1, als x.snd.fst)) ∧ without x.snd.snd 
  (List.take x_1 y_1) = without x.snd.snd (List.take x_1 y_1) ∧ (y.fst = y.fst ∧ y.snd.fst = y.snd.fst ∧ y.snd.snd.fst = y.snd.snd.fst ∧ y.snd.snd.snd.fst = y.snd.snd.snd.fst ∧ y.snd.snd.snd.snd = y.snd.snd.snd.snd ∧ 
  True) ∧ List.filter (fun (x : Int) => x != y_2) (List.take x_2 (without x.snd.snd (List.take x_1 y_1))) ++ [y_3] = List.filter (fun (x : Int) => x != y_2) (List.take x' (without x.snd.snd (List.take x_1 y_1))) ∧ True) 
  ∧ ((y_3 != y_2) = false → ∃ (x' : Nat), x'.le (without x.snd.snd (List.take x_1 y_1)).length ∧ (without x.snd.snd (List.take x_1 y_1)).length - x' < (without x.snd.snd (List.take x_1 y_1)).length - x_2 ∧ (True ∧ True) 
  ∧ (IntKind.i64.wrap ((↑x_2 : Int) + (1 : Int)) = (↑x' : Int) ∧ True ∧ (↑(without x.snd.snd (List.take x_1 y_1)).length : Int) = (↑(without x.snd.snd (List.take x_1 y_1)).length : Int) ∧ True ∧ false = false ∧ y_2 = y_2 
  ∧ true = true ∧ (↑x_1 : Int) = (↑x_1 : Int) ∧ True ∧ (↑y_1.length : Int) = (↑y_1.length : Int) ∧ y_1 = y_1 ∧ y_1 = y_1 ∧ true = true ∧ false = false ∧ y.fst = y.fst ∧ false = false ∧ (↑x.fst : Int) = (↑x.fst : Int) ∧ 
  True ∧ true = true ∧ (↑x.fst : Int) = (↑x.fst : Int) ∧ (↑sc.length : Int) = (↑sc.length : Int) ∧ sc = sc ∧ True ∧ false = false ∧ sc = sc ∧ True) ∧ (KR.cust = KR.cust ∧ (last x.snd.fst, delAll (tks x.snd.fst) y_1, als 
  x.snd.fst) = (last x.snd.fst, delAll (tks x.snd.fst) y_1, als x.snd.fst)) ∧ without x.snd.snd (List.take x_1 y_1) = without x.snd.snd (List.take x_1 y_1) ∧ (y.fst = y.fst ∧ y.snd.fst = y.snd.fst ∧ y.snd.snd.fst = 
  y.snd.snd.fst ∧ y.snd.snd.snd.fst = y.snd.snd.snd.fst ∧ y.snd.snd.snd.snd = y.snd.snd.snd.snd ∧ True) ∧ List.filter (fun (x : Int) => x != y_2) (List.take x_2 (without x.snd.snd (List.take x_1 y_1))) = List.filter (fun 
  (x : Int) => x != y_2) (List.take x' (without x.snd.snd (List.take x_1 y_1))) ∧ True)) ∧ (decide ((↑x_2 : Int) < (↑(without x.snd.snd (List.take x_1 y_1)).length : Int)) = false → ∃ (x' : Nat), x'.le y_1.length ∧ 
  y_1.length - x' < y_1.length - x_1 ∧ (True ∧ True) ∧ (IntKind.i64.wrap ((↑x_1 : Int) + (1 : Int)) = (↑x' : Int) ∧ True ∧ (↑y_1.length : Int) = (↑y_1.length : Int) ∧ y_1 = y_1 ∧ y_1 = y_1 ∧ true = true ∧ false = false ∧ 
  y.fst = y.fst ∧ false = false ∧ (↑x.fst : Int) = (↑x.fst : Int) ∧ True ∧ true = true ∧ (↑x.fst : Int) = (↑x.fst : Int) ∧ (↑sc.length : Int) = (↑sc.length : Int) ∧ sc = sc ∧ True ∧ false = false ∧ sc = sc ∧ True) ∧ 
  (KR.cust = KR.cust ∧ (last x.snd.fst, delAll (tks x.snd.fst) y_1, als x.snd.fst) = (last x.snd.fst, delAll (tks x.snd.fst) y_1, als x.snd.fst)) ∧ List.filter (fun (x : Int) => x != y_2) (List.take x_2 (without 
  x.snd.snd (List.take x_1 y_1))) = without x.snd.snd (List.take x' y_1) ∧ (y.fst = y.fst ∧ y.snd.fst = y.snd.fst ∧ y.snd.snd.fst = y.snd.snd.fst ∧ y.snd.snd.snd.fst = y.snd.snd.snd.fst ∧ y.snd.snd.snd.snd = 
  y.snd.snd.snd.snd ∧ True) ∧ True))) ∧ (decide ((↑x_1 : Int) < (↑y_1.length : Int)) = false → True ∧ (True ∧ True) ∧ ((KR.cust = KR.cust ∧ (last x.snd.fst, delAll (tks x.snd.fst) y_1, als x.snd.fst) = lenC.inn (last 
  x.snd.fst, delAll (tks x.snd.fst) y_1, als x.snd.fst)) ∧ True) ∧ (∀ (y_2 : Unit), True → (without x.snd.snd (List.take x_1 y_1)).length ≤ maxLen → (((↑(tks (last x.snd.fst, delAll (tks x.snd.fst) y_1, als 
  x.snd.fst)).length : Int) != (↑(without x.snd.snd (List.take x_1 y_1)).length : Int)) = true → false = true ∧ True) ∧ (((↑(tks (last x.snd.fst, delAll (tks x.snd.fst) y_1, als x.snd.fst)).length : Int) != (↑(without 
  x.snd.snd (List.take x_1 y_1)).length : Int)) = false → (without x.snd.snd (List.take x_1 y_1)).length ≤ maxLen → ∃ (x0 : Nat), x0.le (without x.snd.snd (List.take x_1 y_1)).length ∧ ((True ∧ True) ∧ ((0 : Int) = (↑x0 
  : Int) ∧ (↑(without x.snd.snd (List.take x_1 y_1)).length : Int) = (↑(without x.snd.snd (List.take x_1 y_1)).length : Int) ∧ True ∧ false = false ∧ false = false ∧ (↑x_1 : Int) = (↑x_1 : Int) ∧ True ∧ (↑y_1.length : 
  Int) = (↑y_1.length : Int) ∧ y_1 = y_1 ∧ y_1 = y_1 ∧ true = true ∧ false = false ∧ y.fst = y.fst ∧ false = false ∧ (↑x.fst : Int) = (↑x.fst : Int) ∧ True ∧ true = true ∧ (↑x.fst : Int) = (↑x.fst : Int) ∧ (↑sc.length : 
  Int) = (↑sc.length : Int) ∧ sc = sc ∧ True ∧ false = false ∧ sc = sc ∧ True) ∧ (KR.cust = KR.cust ∧ (last x.snd.fst, delAll (tks x.snd.fst) y_1, als x.snd.fst) = (last x.snd.fst, delAll (tks x.snd.fst) y_1, als 
  x.snd.fst)) ∧ without x.snd.snd (List.take x_1 y_1) = without x.snd.snd (List.take x_1 y_1) ∧ (y.fst = y.fst ∧ y.snd.fst = y.snd.fst ∧ y.snd.snd.fst = y.snd.snd.fst ∧ y.snd.snd.snd.fst = y.snd.snd.snd.fst ∧ 
  y.snd.snd.snd.snd = y.snd.snd.snd.snd ∧ True) ∧ True) ∧ ∀ (x_2 : Nat), x_2.le (without x.snd.snd (List.take x_1 y_1)).length → (decide ((↑x_2 : Int) < (↑(without x.snd.snd (List.take x_1 y_1)).length : Int)) = true → 
  ((0 : Int) ≤ (↑x_2 : Int) ∧ (↑x_2 : Int) < (↑(without x.snd.snd (List.take x_1 y_1)).length : Int)) ∧ (↑x_2 : Int).toNat < (without x.snd.snd (List.take x_1 y_1)).length ∧ ∀ (y_3 : Int), (without x.snd.snd (List.take 
  x_1 y_1))[(↑x_2 : Int).toNat]? = some y_3 → True ∧ (True ∧ y_3 = y_3 ∧ True) ∧ ((KR.cust = KR.cust ∧ (last x.snd.fst, delAll (tks x.snd.fst) y_1, als x.snd.fst) = whereC.inn ((last x.snd.fst, delAll (tks x.snd.fst) 
  y_1, als x.snd.fst), y_3)) ∧ True) ∧ (∀ (y_4 : Unit), True → ((!(lookL (tks (last x.snd.fst, delAll (tks x.snd.fst) y_1, als x.snd.fst)) y_3).isSome) = false → (tks (last x.snd.fst, delAll (tks x.snd.fst) y_1, als 
  x.snd.fst)).length.le (1000000000000 : Nat) ∧ (True ∧ (placeOf (last x.snd.fst, delAll (tks x.snd.fst) y_1, als x.snd.fst) y_3).fst = (placeOf (last x.snd.fst, delAll (tks x.snd.fst) y_1, als x.snd.fst) y_3).fst ∧ 
  (placeOf (last x.snd.fst, delAll (tks x.snd.fst) y_1, als x.snd.fst) y_3).snd = (placeOf (last x.snd.fst, delAll (tks x.snd.fst) y_1, als x.snd.fst) y_3).snd ∧ True) ∧ ((KR.cust = KR.cust ∧ (last x.snd.fst, delAll (tks 
  x.snd.fst) y_1, als x.snd.fst) = listC.inn ((last x.snd.fst, delAll (tks x.snd.fst) y_1, als x.snd.fst), (placeOf (last x.snd.fst, delAll (tks x.snd.fst) y_1, als x.snd.fst) y_3).fst, (placeOf (last x.snd.fst, delAll 
  (tks x.snd.fst) y_1, als x.snd.fst) y_3).snd)) ∧ True) ∧ (∀ (y_5 : List Int), Row (tks (last x.snd.fst, delAll (tks x.snd.fst) y_1, als x.snd.fst)) (keysAt (tks (last x.snd.fst, delAll (tks x.snd.fst) y_1, als 
  x.snd.fst)) (atP (placeOf (last x.snd.fst, delAll (tks x.snd.fst) y_1, als x.snd.fst) y_3).fst (placeOf (last x.snd.fst, delAll (tks x.snd.fst) y_1, als x.snd.fst) y_3).snd)) y_5 → true = true ∧ ((!inL y_5 y_3) = true 
  → false = true ∧ True) ∧ ((!inL y_5 y_3) = false → ∃ (x' : Nat), x'.le (without x.snd.snd (List.take x_1 y_1)).length ∧ (without x.snd.snd (List.take x_1 y_1)).length - x' < (without x.snd.snd (List.take x_1 
  y_1)).length - x_2 ∧ (True ∧ True) ∧ (IntKind.i64.wrap ((↑x_2 : Int) + (1 : Int)) = (↑x' : Int) ∧ (↑(without x.snd.snd (List.take x_1 y_1)).length : Int) = (↑(without x.snd.snd (List.take x_1 y_1)).length : Int) ∧ True 
  ∧ false = false ∧ false = false ∧ (↑x_1 : Int) = (↑x_1 : Int) ∧ True ∧ (↑y_1.length : Int) = (↑y_1.length : Int) ∧ y_1 = y_1 ∧ y_1 = y_1 ∧ true = true ∧ false = false ∧ y.fst = y.fst ∧ false = false ∧ (↑x.fst : Int) = 
  (↑x.fst : Int) ∧ True ∧ true = true ∧ (↑x.fst : Int) = (↑x.fst : Int) ∧ (↑sc.length : Int) = (↑sc.length : Int) ∧ sc = sc ∧ True ∧ false = false ∧ sc = sc ∧ True) ∧ (KR.cust = KR.cust ∧ (last x.snd.fst, delAll (tks 
  x.snd.fst) y_1, als x.snd.fst) = (last x.snd.fst, delAll (tks x.snd.fst) y_1, als x.snd.fst)) ∧ without x.snd.snd (List.take x_1 y_1) = without x.snd.snd (List.take x_1 y_1) ∧ (y.fst = y.fst ∧ y.snd.fst = y.snd.fst ∧ 
  y.snd.snd.fst = y.snd.snd.fst ∧ y.snd.snd.snd.fst = y.snd.snd.snd.fst ∧ y.snd.snd.snd.snd = y.snd.snd.snd.snd ∧ True) ∧ True)) ∧ True) ∧ ((!(lookL (tks (last x.snd.fst, delAll (tks x.snd.fst) y_1, als x.snd.fst)) 
  y_3).isSome) = !false → false = true ∧ True)) ∧ True) ∧ (decide ((↑x_2 : Int) < (↑(without x.snd.snd (List.take x_1 y_1)).length : Int)) = false → ∃ (x' : Nat × Rm × List Int), ((x'.fst ≤ sc.length ∧ x'.fst ≤ (200 : 
  Nat)) ∧ Wait1 x'.snd.fst x'.fst ∧ x'.snd.snd = allW x'.snd.fst) ∧ sc.length - x'.fst < sc.length - x.fst ∧ (True ∧ True) ∧ (IntKind.i64.wrap ((↑x.fst : Int) + (1 : Int)) = (↑x'.fst : Int) ∧ True ∧ (↑sc.length : Int) = 
  (↑sc.length : Int) ∧ sc = sc ∧ True ∧ false = false ∧ sc = sc ∧ True) ∧ (KR.cust = KR.cust ∧ (last x.snd.fst, delAll (tks x.snd.fst) y_1, als x.snd.fst) = x'.snd.fst) ∧ without x.snd.snd (List.take x_1 y_1) = 
  x'.snd.snd ∧ True))) ∧ True)) ∧ True) ∧ ((y.fst == (2 : Int)) = false → ((y.fst == (3 : Int)) = true → True ∧ (True ∧ y.snd.fst = y.snd.fst ∧ y.snd.snd.snd.snd = y.snd.snd.snd.snd ∧ True) ∧ ((KR.cust = KR.cust ∧ 
  x.snd.fst = postC.inn (x.snd.fst, y.snd.fst, y.snd.snd.snd.snd)) ∧ True) ∧ (∀ (y_1 : Unit), True → ∃ (v : Bool), ((((postR x.snd.fst y.snd.fst y.snd.snd.snd.snd).snd.fst == (0 : Int)) = true → (postR x.snd.fst 
  y.snd.fst y.snd.snd.snd.snd).fst = v) ∧ (((postR x.snd.fst y.snd.fst y.snd.snd.snd.snd).snd.fst == (0 : Int)) = !true → false = v)) ∧ (v = true → [y.snd.fst].length ≤ maxLen → ∃ (x0 : Nat), x0.le [y.snd.fst].length ∧ 
  ((True ∧ True) ∧ ((0 : Int) = (↑x0 : Int) ∧ True ∧ (↑[y.snd.fst].length : Int) = (↑[y.snd.fst].length : Int) ∧ True ∧ True ∧ true = true ∧ (postR x.snd.fst y.snd.fst y.snd.snd.snd.snd).snd.fst = (postR x.snd.fst 
  y.snd.fst y.snd.snd.snd.snd).snd.fst ∧ (postR x.snd.fst y.snd.fst y.snd.snd.snd.snd).fst = (postR x.snd.fst y.snd.fst y.snd.snd.snd.snd).fst ∧ true = true ∧ false = false ∧ false = false ∧ y.fst = y.fst ∧ false = false 
  ∧ (↑x.fst : Int) = (↑x.fst : Int) ∧ True ∧ true = true ∧ (↑x.fst : Int) = (↑x.fst : Int) ∧ (↑sc.length : Int) = (↑sc.length : Int) ∧ sc = sc ∧ True ∧ false = false ∧ sc = sc ∧ True) ∧ (KR.cust = KR.cust ∧ (postR 
  x.snd.fst y.snd.fst y.snd.snd.snd.snd).snd.snd = (postR x.snd.fst y.snd.fst y.snd.snd.snd.snd).snd.snd) ∧ x.snd.snd = without x.snd.snd (List.take x0 [y.snd.fst]) ∧ (y.fst = y.fst ∧ y.snd.fst = y.snd.fst ∧ 
  y.snd.snd.fst = y.snd.snd.fst ∧ y.snd.snd.snd.fst = y.snd.snd.snd.fst ∧ y.snd.snd.snd.snd = y.snd.snd.snd.snd ∧ True) ∧ [y.snd.fst] = [y.snd.fst] ∧ True) ∧ ∀ (x_1 : Nat), x_1.le [y.snd.fst].length → (decide ((↑x_1 : 
  Int) < (↑[y.snd.fst].length : Int)) = true → ((0 : Int) ≤ (↑x_1 : Int) ∧ (↑x_1 : Int) < (↑[y.snd.fst].length : Int)) ∧ (↑x_1 : Int).toNat < [y.snd.fst].length ∧ ∀ (y_2 : Int), [y.snd.fst][(↑x_1 : Int).toNat]? = some 
  y_2 → true = true ∧ ((!inL (without x.snd.snd (List.take x_1 [y.snd.fst])) y_2) = true → false = true ∧ True) ∧ ((!inL (without x.snd.snd (List.take x_1 [y.snd.fst])) y_2) = false → (without x.snd.snd (List.take x_1 
  [y.snd.fst])).length ≤ maxLen → ∃ (x0 : Nat), x0.le (without x.snd.snd (List.take x_1 [y.snd.fst])).length ∧ ((True ∧ True) ∧ ((0 : Int) = (↑x0 : Int) ∧ True ∧ (↑(without x.snd.snd (List.take x_1 [y.snd.fst])).length : 
  Int) = (↑(without x.snd.snd (List.take x_1 [y.snd.fst])).length : Int) ∧ True ∧ false = false ∧ y_2 = y_2 ∧ true = true ∧ (↑x_1 : Int) = (↑x_1 : Int) ∧ True ∧ (↑[y.snd.fst].length : Int) = (↑[y.snd.fst].length : Int) ∧ 
  True ∧ True ∧ true = true ∧ (postR x.snd.fst y.snd.fst y.snd.snd.snd.snd).snd.fst = (postR x.snd.fst y.snd.fst y.snd.snd.snd.snd).snd.fst ∧ (postR x.snd.fst y.snd.fst y.snd.snd.snd.snd).fst = (postR x.snd.fst y.snd.fst 
  y.snd.snd.snd.snd).fst ∧ true = true ∧ false = false ∧ false = false ∧ y.fst = y.fst ∧ false = false ∧ (↑x.fst : Int) = (↑x.fst : Int) ∧ True ∧ true = true ∧ (↑x.fst : Int) = (↑x.fst : Int) ∧ (↑sc.length : Int) = 
  (↑sc.length : Int) ∧ sc = sc ∧ True ∧ false = false ∧ sc = sc ∧ True) ∧ (KR.cust = KR.cust ∧ (postR x.snd.fst y.snd.fst y.snd.snd.snd.snd).snd.snd = (postR x.snd.fst y.snd.fst y.snd.snd.snd.snd).snd.snd) ∧ without 
  x.snd.snd (List.take x_1 [y.snd.fst]) = without x.snd.snd (List.take x_1 [y.snd.fst]) ∧ (y.fst = y.fst ∧ y.snd.fst = y.snd.fst ∧ y.snd.snd.fst = y.snd.snd.fst ∧ y.snd.snd.snd.fst = y.snd.snd.snd.fst ∧ y.snd.snd.snd.snd 
  = y.snd.snd.snd.snd ∧ True) ∧ [y.snd.fst] = [y.snd.fst] ∧ [] = List.filter (fun (x : Int) => x != y_2) (List.take x0 (without x.snd.snd (List.take x_1 [y.snd.fst]))) ∧ True) ∧ ∀ (x_2 : Nat), x_2.le (without x.snd.snd 
  (List.take x_1 [y.snd.fst])).length → (decide ((↑x_2 : Int) < (↑(without x.snd.snd (List.take x_1 [y.snd.fst])).length : Int)) = true → ((0 : Int) ≤ (↑x_2 : Int) ∧ (↑x_2 : Int) < (↑(without x.snd.snd (List.take x_1 
  [y.snd.fst])).length : Int)) ∧ (↑x_2 : Int).toNat < (without x.snd.snd (List.take x_1 [y.snd.fst])).length ∧ ∀ (y_3 : Int), (without x.snd.snd (List.take x_1 [y.snd.fst]))[(↑x_2 : Int).toNat]? = some y_3 → ((y_3 != 
  y_2) = true → ((List.filter (fun (x : Int) => x != y_2) (List.take x_2 (without x.snd.snd (List.take x_1 [y.snd.fst])))).length + [y_3].length) * (8 : Nat) ≤ (140737488355328 : Nat) ∧ ∃ (x' : Nat), x'.le (without 
  x.snd.snd (List.take x_1 [y.snd.fst])).length ∧ (without x.snd.snd (List.take x_1 [y.snd.fst])).length - x' < (without x.snd.snd (List.take x_1 [y.snd.fst])).length - x_2 ∧ (True ∧ True) ∧ (IntKind.i64.wrap ((↑x_2 : 
  Int) + (1 : Int)) = (↑x' : Int) ∧ True ∧ (↑(without x.snd.snd (List.take x_1 [y.snd.fst])).length : Int) = (↑(without x.snd.snd (List.take x_1 [y.snd.fst])).length : Int) ∧ True ∧ false = false ∧ y_2 = y_2 ∧ true = 
  true ∧ (↑x_1 : Int) = (↑x_1 : Int) ∧ True ∧ (↑[y.snd.fst].length : Int) = (↑[y.snd.fst].length : Int) ∧ True ∧ True ∧ true = true ∧ (postR x.snd.fst y.snd.fst y.snd.snd.snd.snd).snd.fst = (postR x.snd.fst y.snd.fst 
  y.snd.snd.snd.snd).snd.fst ∧ (postR x.snd.fst y.snd.fst y.snd.snd.snd.snd).fst = (postR x.snd.fst y.snd.fst y.snd.snd.snd.snd).fst ∧ true = true ∧ false = false ∧ false = false ∧ y.fst = y.fst ∧ false = false ∧ (↑x.fst 
  : Int) = (↑x.fst : Int) ∧ True ∧ true = true ∧ (↑x.fst : Int) = (↑x.fst : Int) ∧ (↑sc.length : Int) = (↑sc.length : Int) ∧ sc = sc ∧ True ∧ false = false ∧ sc = sc ∧ True) ∧ (KR.cust = KR.cust ∧ (postR x.snd.fst 
  y.snd.fst y.snd.snd.snd.snd).snd.snd = (postR x.snd.fst y.snd.fst y.snd.snd.snd.snd).snd.snd) ∧ without x.snd.snd (List.take x_1 [y.snd.fst]) = without x.snd.snd (List.take x_1 [y.snd.fst]) ∧ (y.fst = y.fst ∧ y.snd.fst 
  = y.snd.fst ∧ y.snd.snd.fst = y.snd.snd.fst ∧ y.snd.snd.snd.fst = y.snd.snd.snd.fst ∧ y.snd.snd.snd.snd = y.snd.snd.snd.snd ∧ True) ∧ [y.snd.fst] = [y.snd.fst] ∧ List.filter (fun (x : Int) => x != y_2) (List.take x_2 
  (without x.snd.snd (List.take x_1 [y.snd.fst]))) ++ [y_3] = List.filter (fun (x : Int) => x != y_2) (List.take x' (without x.snd.snd (List.take x_1 [y.snd.fst]))) ∧ True) ∧ ((y_3 != y_2) = false → ∃ (x' : Nat), x'.le 
  (without x.snd.snd (List.take x_1 [y.snd.fst])).length ∧ (without x.snd.snd (List.take x_1 [y.snd.fst])).length - x' < (without x.snd.snd (List.take x_1 [y.snd.fst])).length - x_2 ∧ (True ∧ True) ∧ (IntKind.i64.wrap 
  ((↑x_2 : Int) + (1 : Int)) = (↑x' : Int) ∧ True ∧ (↑(without x.snd.snd (List.take x_1 [y.snd.fst])).length : Int) = (↑(without x.snd.snd (List.take x_1 [y.snd.fst])).length : Int) ∧ True ∧ false = false ∧ y_2 = y_2 ∧ 
  true = true ∧ (↑x_1 : Int) = (↑x_1 : Int) ∧ True ∧ (↑[y.snd.fst].length : Int) = (↑[y.snd.fst].length : Int) ∧ True ∧ True ∧ true = true ∧ (postR x.snd.fst y.snd.fst y.snd.snd.snd.snd).snd.fst = (postR x.snd.fst 
  y.snd.fst y.snd.snd.snd.snd).snd.fst ∧ (postR x.snd.fst y.snd.fst y.snd.snd.snd.snd).fst = (postR x.snd.fst y.snd.fst y.snd.snd.snd.snd).fst ∧ true = true ∧ false = false ∧ false = false ∧ y.fst = y.fst ∧ false = false 
  ∧ (↑x.fst : Int) = (↑x.fst : Int) ∧ True ∧ true = true ∧ (↑x.fst : Int) = (↑x.fst : Int) ∧ (↑sc.length : Int) = (↑sc.length : Int) ∧ sc = sc ∧ True ∧ false = false ∧ sc = sc ∧ True) ∧ (KR.cust = KR.cust ∧ (postR 
  x.snd.fst y.snd.fst y.snd.snd.snd.snd).snd.snd = (postR x.snd.fst y.snd.fst y.snd.snd.snd.snd).snd.snd) ∧ without x.snd.snd (List.take x_1 [y.snd.fst]) = without x.snd.snd (List.take x_1 [y.snd.fst]) ∧ (y.fst = y.fst ∧ 
  y.snd.fst = y.snd.fst ∧ y.snd.snd.fst = y.snd.snd.fst ∧ y.snd.snd.snd.fst = y.snd.snd.snd.fst ∧ y.snd.snd.snd.snd = y.snd.snd.snd.snd ∧ True) ∧ [y.snd.fst] = [y.snd.fst] ∧ List.filter (fun (x : Int) => x != y_2) 
  (List.take x_2 (without x.snd.snd (List.take x_1 [y.snd.fst]))) = List.filter (fun (x : Int) => x != y_2) (List.take x' (without x.snd.snd (List.take x_1 [y.snd.fst]))) ∧ True)) ∧ (decide ((↑x_2 : Int) < (↑(without 
  x.snd.snd (List.take x_1 [y.snd.fst])).length : Int)) = false → ∃ (x' : Nat), x'.le [y.snd.fst].length ∧ [y.snd.fst].length - x' < [y.snd.fst].length - x_1 ∧ (True ∧ True) ∧ (IntKind.i64.wrap ((↑x_1 : Int) + (1 : Int)) 
  = (↑x' : Int) ∧ True ∧ (↑[y.snd.fst].length : Int) = (↑[y.snd.fst].length : Int) ∧ True ∧ True ∧ true = true ∧ (postR x.snd.fst y.snd.fst y.snd.snd.snd.snd).snd.fst = (postR x.snd.fst y.snd.fst 
  y.snd.snd.snd.snd).snd.fst ∧ (postR x.snd.fst y.snd.fst y.snd.snd.snd.snd).fst = (postR x.snd.fst y.snd.fst y.snd.snd.snd.snd).fst ∧ true = true ∧ false = false ∧ false = false ∧ y.fst = y.fst ∧ false = false ∧ (↑x.fst 
  : Int) = (↑x.fst : Int) ∧ True ∧ true = true ∧ (↑x.fst : Int) = (↑x.fst : Int) ∧ (↑sc.length : Int) = (↑sc.length : Int) ∧ sc = sc ∧ True ∧ false = false ∧ sc = sc ∧ True) ∧ (KR.cust = KR.cust ∧ (postR x.snd.fst 
  y.snd.fst y.snd.snd.snd.snd).snd.snd = (postR x.snd.fst y.snd.fst y.snd.snd.snd.snd).snd.snd) ∧ List.filter (fun (x : Int) => x != y_2) (List.take x_2 (without x.snd.snd (List.take x_1 [y.snd.fst]))) = without 
  x.snd.snd (List.take x' [y.snd.fst]) ∧ (y.fst = y.fst ∧ y.snd.fst = y.snd.fst ∧ y.snd.snd.fst = y.snd.snd.fst ∧ y.snd.snd.snd.fst = y.snd.snd.snd.fst ∧ y.snd.snd.snd.snd = y.snd.snd.snd.snd ∧ True) ∧ [y.snd.fst] = 
  [y.snd.fst] ∧ True))) ∧ (decide ((↑x_1 : Int) < (↑[y.snd.fst].length : Int)) = false → True ∧ (True ∧ True) ∧ ((KR.cust = KR.cust ∧ (postR x.snd.fst y.snd.fst y.snd.snd.snd.snd).snd.snd = lenC.inn (postR x.snd.fst 
  y.snd.fst y.snd.snd.snd.snd).snd.snd) ∧ True) ∧ (∀ (y_2 : Unit), True → (without x.snd.snd (List.take x_1 [y.snd.fst])).length ≤ maxLen → (((↑(tks (postR x.snd.fst y.snd.fst y.snd.snd.snd.snd).snd.snd).length : Int) != 
  (↑(without x.snd.snd (List.take x_1 [y.snd.fst])).length : Int)) = true → false = true ∧ True) ∧ (((↑(tks (postR x.snd.fst y.snd.fst y.snd.snd.snd.snd).snd.snd).length : Int) != (↑(without x.snd.snd (List.take x_1 
  [y.snd.fst])).length : Int)) = false → (without x.snd.snd (List.take x_1 [y.snd.fst])).length ≤ maxLen → ∃ (x0 : Nat), x0.le (without x.snd.snd (List.take x_1 [y.snd.fst])).length ∧ ((True ∧ True) ∧ ((0 : Int) = (↑x0 : 
  Int) ∧ (↑(without x.snd.snd (List.take x_1 [y.snd.fst])).length : Int) = (↑(without x.snd.snd (List.take x_1 [y.snd.fst])).length : Int) ∧ True ∧ false = false ∧ false = false ∧ (↑x_1 : Int) = (↑x_1 : Int) ∧ True ∧ 
  (↑[y.snd.fst].length : Int) = (↑[y.snd.fst].length : Int) ∧ True ∧ True ∧ true = true ∧ (postR x.snd.fst y.snd.fst y.snd.snd.snd.snd).snd.fst = (postR x.snd.fst y.snd.fst y.snd.snd.snd.snd).snd.fst ∧ (postR x.snd.fst 
  y.snd.fst y.snd.snd.snd.snd).fst = (postR x.snd.fst y.snd.fst y.snd.snd.snd.snd).fst ∧ true = true ∧ false = false ∧ false = false ∧ y.fst = y.fst ∧ false = false ∧ (↑x.fst : Int) = (↑x.fst : Int) ∧ True ∧ true = true 
  ∧ (↑x.fst : Int) = (↑x.fst : Int) ∧ (↑sc.length : Int) = (↑sc.length : Int) ∧ sc = sc ∧ True ∧ false = false ∧ sc = sc ∧ True) ∧ (KR.cust = KR.cust ∧ (postR x.snd.fst y.snd.fst y.snd.snd.snd.snd).snd.snd = (postR 
  x.snd.fst y.snd.fst y.snd.snd.snd.snd).snd.snd) ∧ without x.snd.snd (List.take x_1 [y.snd.fst]) = without x.snd.snd (List.take x_1 [y.snd.fst]) ∧ (y.fst = y.fst ∧ y.snd.fst = y.snd.fst ∧ y.snd.snd.fst = y.snd.snd.fst ∧ 
  y.snd.snd.snd.fst = y.snd.snd.snd.fst ∧ y.snd.snd.snd.snd = y.snd.snd.snd.snd ∧ True) ∧ [y.snd.fst] = [y.snd.fst] ∧ True) ∧ ∀ (x_2 : Nat), x_2.le (without x.snd.snd (List.take x_1 [y.snd.fst])).length → (decide ((↑x_2 
  : Int) < (↑(without x.snd.snd (List.take x_1 [y.snd.fst])).length : Int)) = true → ((0 : Int) ≤ (↑x_2 : Int) ∧ (↑x_2 : Int) < (↑(without x.snd.snd (List.take x_1 [y.snd.fst])).length : Int)) ∧ (↑x_2 : Int).toNat < 
  (without x.snd.snd (List.take x_1 [y.snd.fst])).length ∧ ∀ (y_3 : Int), (without x.snd.snd (List.take x_1 [y.snd.fst]))[(↑x_2 : Int).toNat]? = some y_3 → True ∧ (True ∧ y_3 = y_3 ∧ True) ∧ ((KR.cust = KR.cust ∧ (postR 
  x.snd.fst y.snd.fst y.snd.snd.snd.snd).snd.snd = whereC.inn ((postR x.snd.fst y.snd.fst y.snd.snd.snd.snd).snd.snd, y_3)) ∧ True) ∧ (∀ (y_4 : Unit), True → ((!(lookL (tks (postR x.snd.fst y.snd.fst 
  y.snd.snd.snd.snd).snd.snd) y_3).isSome) = false → (tks (postR x.snd.fst y.snd.fst y.snd.snd.snd.snd).snd.snd).length.le (1000000000000 : Nat) ∧ (True ∧ (placeOf (postR x.snd.fst y.snd.fst y.snd.snd.snd.snd).snd.snd 
  y_3).fst = (placeOf (postR x.snd.fst y.snd.fst y.snd.snd.snd.snd).snd.snd y_3).fst ∧ (placeOf (postR x.snd.fst y.snd.fst y.snd.snd.snd.snd).snd.snd y_3).snd = (placeOf (postR x.snd.fst y.snd.fst 
  y.snd.snd.snd.snd).snd.snd y_3).snd ∧ True) ∧ ((KR.cust = KR.cust ∧ (postR x.snd.fst y.snd.fst y.snd.snd.snd.snd).snd.snd = listC.inn ((postR x.snd.fst y.snd.fst y.snd.snd.snd.snd).snd.snd, (placeOf (postR x.snd.fst 
  y.snd.fst y.snd.snd.snd.snd).snd.snd y_3).fst, (placeOf (postR x.snd.fst y.snd.fst y.snd.snd.snd.snd).snd.snd y_3).snd)) ∧ True) ∧ (∀ (y_5 : List Int), Row (tks (postR x.snd.fst y.snd.fst y.snd.snd.snd.snd).snd.snd) 
  (keysAt (tks (postR x.snd.fst y.snd.fst y.snd.snd.snd.snd).snd.snd) (atP (placeOf (postR x.snd.fst y.snd.fst y.snd.snd.snd.snd).snd.snd y_3).fst (placeOf (postR x.snd.fst y.snd.fst y.snd.snd.snd.snd).snd.snd y_3).snd)) 
  y_5 → true = true ∧ ((!inL y_5 y_3) = true → false = true ∧ True) ∧ ((!inL y_5 y_3) = false → ∃ (x' : Nat), x'.le (without x.snd.snd (List.take x_1 [y.snd.fst])).length ∧ (without x.snd.snd (List.take x_1 
  [y.snd.fst])).length - x' < (without x.snd.snd (List.take x_1 [y.snd.fst])).length - x_2 ∧ (True ∧ True) ∧ (IntKind.i64.wrap ((↑x_2 : Int) + (1 : Int)) = (↑x' : Int) ∧ (↑(without x.snd.snd (List.take x_1 
  [y.snd.fst])).length : Int) = (↑(without x.snd.snd (List.take x_1 [y.snd.fst])).length : Int) ∧ True ∧ false = false ∧ false = false ∧ (↑x_1 : Int) = (↑x_1 : Int) ∧ True ∧ (↑[y.snd.fst].length : Int) = 
  (↑[y.snd.fst].length : Int) ∧ True ∧ True ∧ true = true ∧ (postR x.snd.fst y.snd.fst y.snd.snd.snd.snd).snd.fst = (postR x.snd.fst y.snd.fst y.snd.snd.snd.snd).snd.fst ∧ (postR x.snd.fst y.snd.fst 
  y.snd.snd.snd.snd).fst = (postR x.snd.fst y.snd.fst y.snd.snd.snd.snd).fst ∧ true = true ∧ false = false ∧ false = false ∧ y.fst = y.fst ∧ false = false ∧ (↑x.fst : Int) = (↑x.fst : Int) ∧ True ∧ true = true ∧ (↑x.fst 
  : Int) = (↑x.fst : Int) ∧ (↑sc.length : Int) = (↑sc.length : Int) ∧ sc = sc ∧ True ∧ false = false ∧ sc = sc ∧ True) ∧ (KR.cust = KR.cust ∧ (postR x.snd.fst y.snd.fst y.snd.snd.snd.snd).snd.snd = (postR x.snd.fst 
  y.snd.fst y.snd.snd.snd.snd).snd.snd) ∧ without x.snd.snd (List.take x_1 [y.snd.fst]) = without x.snd.snd (List.take x_1 [y.snd.fst]) ∧ (y.fst = y.fst ∧ y.snd.fst = y.snd.fst ∧ y.snd.snd.fst = y.snd.snd.fst ∧ 
  y.snd.snd.snd.fst = y.snd.snd.snd.fst ∧ y.snd.snd.snd.snd = y.snd.snd.snd.snd ∧ True) ∧ [y.snd.fst] = [y.snd.fst] ∧ True)) ∧ True) ∧ ((!(lookL (tks (postR x.snd.fst y.snd.fst y.snd.snd.snd.snd).snd.snd) y_3).isSome) = 
  !false → false = true ∧ True)) ∧ True) ∧ (decide ((↑x_2 : Int) < (↑(without x.snd.snd (List.take x_1 [y.snd.fst])).length : Int)) = false → ∃ (x' : Nat × Rm × List Int), ((x'.fst ≤ sc.length ∧ x'.fst ≤ (200 : Nat)) ∧ 
  Wait1 x'.snd.fst x'.fst ∧ x'.snd.snd = allW x'.snd.fst) ∧ sc.length - x'.fst < sc.length - x.fst ∧ (True ∧ True) ∧ (IntKind.i64.wrap ((↑x.fst : Int) + (1 : Int)) = (↑x'.fst : Int) ∧ True ∧ (↑sc.length : Int) = 
  (↑sc.length : Int) ∧ sc = sc ∧ True ∧ false = false ∧ sc = sc ∧ True) ∧ (KR.cust = KR.cust ∧ (postR x.snd.fst y.snd.fst y.snd.snd.snd.snd).snd.snd = x'.snd.fst) ∧ without x.snd.snd (List.take x_1 [y.snd.fst]) = 
  x'.snd.snd ∧ True))) ∧ True)) ∧ (v = false → ∃ (x0 : Nat), x0.le (0 : Nat) ∧ ((True ∧ True) ∧ ((0 : Int) = (↑x0 : Int) ∧ True ∧ True ∧ (0 : Int) = (0 : Int) ∧ false = false ∧ (postR x.snd.fst y.snd.fst 
  y.snd.snd.snd.snd).snd.fst = (postR x.snd.fst y.snd.fst y.snd.snd.snd.snd).snd.fst ∧ (postR x.snd.fst y.snd.fst y.snd.snd.snd.snd).fst = (postR x.snd.fst y.snd.fst y.snd.snd.snd.snd).fst ∧ true = true ∧ false = false ∧ 
  false = false ∧ y.fst = y.fst ∧ SV.val (Value.slice none (0 : Nat) (0 : Nat)) = SV.val (Value.slice none (0 : Nat) (0 : Nat)) ∧ false = false ∧ (↑x.fst : Int) = (↑x.fst : Int) ∧ True ∧ true = true ∧ (↑x.fst : Int) = 
  (↑x.fst : Int) ∧ (↑sc.length : Int) = (↑sc.length : Int) ∧ sc = sc ∧ True ∧ false = false ∧ sc = sc ∧ True) ∧ (KR.cust = KR.cust ∧ (postR x.snd.fst y.snd.fst y.snd.snd.snd.snd).snd.snd = (postR x.snd.fst y.snd.fst 
  y.snd.snd.snd.snd).snd.snd) ∧ x.snd.snd = without x.snd.snd (List.take x0 []) ∧ (y.fst = y.fst ∧ y.snd.fst = y.snd.fst ∧ y.snd.snd.fst = y.snd.snd.fst ∧ y.snd.snd.snd.fst = y.snd.snd.snd.fst ∧ y.snd.snd.snd.snd = 
  y.snd.snd.snd.snd ∧ True) ∧ ([] : List Int) = [] ∧ True) ∧ ∀ (x_1 : Nat), x_1.le (0 : Nat) → (decide ((↑x_1 : Int) < (0 : Int)) = true → ((0 : Int) ≤ (↑x_1 : Int) ∧ (↑x_1 : Int) < (↑(0 : Nat) : Int)) ∧ (↑x_1 : 
  Int).toNat < (0 : Nat) ∧ ∀ (y_2 : Int), ([] : List Int)[(↑x_1 : Int).toNat]? = some y_2 → true = true ∧ ((!inL (without x.snd.snd (List.take x_1 [])) y_2) = true → false = true ∧ True) ∧ ((!inL (without x.snd.snd 
  (List.take x_1 [])) y_2) = false → (without x.snd.snd (List.take x_1 [])).length ≤ maxLen → ∃ (x0 : Nat), x0.le (without x.snd.snd (List.take x_1 [])).length ∧ ((True ∧ True) ∧ ((0 : Int) = (↑x0 : Int) ∧ True ∧ 
  (↑(without x.snd.snd (List.take x_1 [])).length : Int) = (↑(without x.snd.snd (List.take x_1 [])).length : Int) ∧ True ∧ false = false ∧ y_2 = y_2 ∧ true = true ∧ (↑x_1 : Int) = (↑x_1 : Int) ∧ True ∧ True ∧ (0 : Int) = 
  (0 : Int) ∧ false = false ∧ (postR x.snd.fst y.snd.fst y.snd.snd.snd.snd).snd.fst = (postR x.snd.fst y.snd.fst y.snd.snd.snd.snd).snd.fst ∧ (postR x.snd.fst y.snd.fst y.snd.snd.snd.snd).fst = (postR x.snd.fst y.snd.fst 
  y.snd.snd.snd.snd).fst ∧ true = true ∧ false = false ∧ false = false ∧ y.fst = y.fst ∧ SV.val (Value.slice none (0 : Nat) (0 : Nat)) = SV.val (Value.slice none (0 : Nat) (0 : Nat)) ∧ false = false ∧ (↑x.fst : Int) = 
  (↑x.fst : Int) ∧ True ∧ true = true ∧ (↑x.fst : Int) = (↑x.fst : Int) ∧ (↑sc.length : Int) = (↑sc.length : Int) ∧ sc = sc ∧ True ∧ false = false ∧ sc = sc ∧ True) ∧ (KR.cust = KR.cust ∧ (postR x.snd.fst y.snd.fst 
  y.snd.snd.snd.snd).snd.snd = (postR x.snd.fst y.snd.fst y.snd.snd.snd.snd).snd.snd) ∧ without x.snd.snd (List.take x_1 []) = without x.snd.snd (List.take x_1 []) ∧ (y.fst = y.fst ∧ y.snd.fst = y.snd.fst ∧ y.snd.snd.fst 
  = y.snd.snd.fst ∧ y.snd.snd.snd.fst = y.snd.snd.snd.fst ∧ y.snd.snd.snd.snd = y.snd.snd.snd.snd ∧ True) ∧ ([] : List Int) = [] ∧ [] = List.filter (fun (x : Int) => x != y_2) (List.take x0 (without x.snd.snd (List.take 
  x_1 []))) ∧ True) ∧ ∀ (x_2 : Nat), x_2.le (without x.snd.snd (List.take x_1 [])).length → (decide ((↑x_2 : Int) < (↑(without x.snd.snd (List.take x_1 [])).length : Int)) = true → ((0 : Int) ≤ (↑x_2 : Int) ∧ (↑x_2 : 
  Int) < (↑(without x.snd.snd (List.take x_1 [])).length : Int)) ∧ (↑x_2 : Int).toNat < (without x.snd.snd (List.take x_1 [])).length ∧ ∀ (y_3 : Int), (without x.snd.snd (List.take x_1 []))[(↑x_2 : Int).toNat]? = some 
  y_3 → ((y_3 != y_2) = true → ((List.filter (fun (x : Int) => x != y_2) (List.take x_2 (without x.snd.snd (List.take x_1 [])))).length + [y_3].length) * (8 : Nat) ≤ (140737488355328 : Nat) ∧ ∃ (x' : Nat), x'.le (without 
  x.snd.snd (List.take x_1 [])).length ∧ (without x.snd.snd (List.take x_1 [])).length - x' < (without x.snd.snd (List.take x_1 [])).length - x_2 ∧ (True ∧ True) ∧ (IntKind.i64.wrap ((↑x_2 : Int) + (1 : Int)) = (↑x' : 
  Int) ∧ True ∧ (↑(without x.snd.snd (List.take x_1 [])).length : Int) = (↑(without x.snd.snd (List.take x_1 [])).length : Int) ∧ True ∧ false = false ∧ y_2 = y_2 ∧ true = true ∧ (↑x_1 : Int) = (↑x_1 : Int) ∧ True ∧ True 
  ∧ (0 : Int) = (0 : Int) ∧ false = false ∧ (postR x.snd.fst y.snd.fst y.snd.snd.snd.snd).snd.fst = (postR x.snd.fst y.snd.fst y.snd.snd.snd.snd).snd.fst ∧ (postR x.snd.fst y.snd.fst y.snd.snd.snd.snd).fst = (postR 
  x.snd.fst y.snd.fst y.snd.snd.snd.snd).fst ∧ true = true ∧ false = false ∧ false = false ∧ y.fst = y.fst ∧ SV.val (Value.slice none (0 : Nat) (0 : Nat)) = SV.val (Value.slice none (0 : Nat) (0 : Nat)) ∧ false = false ∧ 
  (↑x.fst : Int) = (↑x.fst : Int) ∧ True ∧ true = true ∧ (↑x.fst : Int) = (↑x.fst : Int) ∧ (↑sc.length : Int) = (↑sc.length : Int) ∧ sc = sc ∧ True ∧ false = false ∧ sc = sc ∧ True) ∧ (KR.cust = KR.cust ∧ (postR 
  x.snd.fst y.snd.fst y.snd.snd.snd.snd).snd.snd = (postR x.snd.fst y.snd.fst y.snd.snd.snd.snd).snd.snd) ∧ without x.snd.snd (List.take x_1 []) = without x.snd.snd (List.take x_1 []) ∧ (y.fst = y.fst ∧ y.snd.fst = 
  y.snd.fst ∧ y.snd.snd.fst = y.snd.snd.fst ∧ y.snd.snd.snd.fst = y.snd.snd.snd.fst ∧ y.snd.snd.snd.snd = y.snd.snd.snd.snd ∧ True) ∧ ([] : List Int) = [] ∧ List.filter (fun (x : Int) => x != y_2) (List.take x_2 (without 
  x.snd.snd (List.take x_1 []))) ++ [y_3] = List.filter (fun (x : Int) => x != y_2) (List.take x' (without x.snd.snd (List.take x_1 []))) ∧ True) ∧ ((y_3 != y_2) = false → ∃ (x' : Nat), x'.le (without x.snd.snd 
  (List.take x_1 [])).length ∧ (without x.snd.snd (List.take x_1 [])).length - x' < (without x.snd.snd (List.take x_1 [])).length - x_2 ∧ (True ∧ True) ∧ (IntKind.i64.wrap ((↑x_2 : Int) + (1 : Int)) = (↑x' : Int) ∧ True 
  ∧ (↑(without x.snd.snd (List.take x_1 [])).length : Int) = (↑(without x.snd.snd (List.take x_1 [])).length : Int) ∧ True ∧ false = false ∧ y_2 = y_2 ∧ true = true ∧ (↑x_1 : Int) = (↑x_1 : Int) ∧ True ∧ True ∧ (0 : Int) 
  = (0 : Int) ∧ false = false ∧ (postR x.snd.fst y.snd.fst y.snd.snd.snd.snd).snd.fst = (postR x.snd.fst y.snd.fst y.snd.snd.snd.snd).snd.fst ∧ (postR x.snd.fst y.snd.fst y.snd.snd.snd.snd).fst = (postR x.snd.fst 
  y.snd.fst y.snd.snd.snd.snd).fst ∧ true = true ∧ false = false ∧ false = false ∧ y.fst = y.fst ∧ SV.val (Value.slice none (0 : Nat) (0 : Nat)) = SV.val (Value.slice none (0 : Nat) (0 : Nat)) ∧ false = false ∧ (↑x.fst : 
  Int) = (↑x.fst : Int) ∧ True ∧ true = true ∧ (↑x.fst : Int) = (↑x.fst : Int) ∧ (↑sc.length : Int) = (↑sc.length : Int) ∧ sc = sc ∧ True ∧ false = false ∧ sc = sc ∧ True) ∧ (KR.cust = KR.cust ∧ (postR x.snd.fst 
  y.snd.fst y.snd.snd.snd.snd).snd.snd = (postR x.snd.fst y.snd.fst y.snd.snd.snd.snd).snd.snd) ∧ without x.snd.snd (List.take x_1 []) = without x.snd.snd (List.take x_1 []) ∧ (y.fst = y.fst ∧ y.snd.fst = y.snd.fst ∧ 
  y.snd.snd.fst = y.snd.snd.fst ∧ y.snd.snd.snd.fst = y.snd.snd.snd.fst ∧ y.snd.snd.snd.snd = y.snd.snd.snd.snd ∧ True) ∧ ([] : List Int) = [] ∧ List.filter (fun (x : Int) => x != y_2) (List.take x_2 (without x.snd.snd 
  (List.take x_1 []))) = List.filter (fun (x : Int) => x != y_2) (List.take x' (without x.snd.snd (List.take x_1 []))) ∧ True)) ∧ (decide ((↑x_2 : Int) < (↑(without x.snd.snd (List.take x_1 [])).length : Int)) = false → 
  ∃ (x' : Nat), x'.le (0 : Nat) ∧ (0 : Nat) - x' < (0 : Nat) - x_1 ∧ (True ∧ True) ∧ (IntKind.i64.wrap ((↑x_1 : Int) + (1 : Int)) = (↑x' : Int) ∧ True ∧ True ∧ (0 : Int) = (0 : Int) ∧ false = false ∧ (postR x.snd.fst 
  y.snd.fst y.snd.snd.snd.snd).snd.fst = (postR x.snd.fst y.snd.fst y.snd.snd.snd.snd).snd.fst ∧ (postR x.snd.fst y.snd.fst y.snd.snd.snd.snd).fst = (postR x.snd.fst y.snd.fst y.snd.snd.snd.snd).fst ∧ true = true ∧ false 
  = false ∧ false = false ∧ y.fst = y.fst ∧ SV.val (Value.slice none (0 : Nat) (0 : Nat)) = SV.val (Value.slice none (0 : Nat) (0 : Nat)) ∧ false = false ∧ (↑x.fst : Int) = (↑x.fst : Int) ∧ True ∧ true = true ∧ (↑x.fst : 
  Int) = (↑x.fst : Int) ∧ (↑sc.length : Int) = (↑sc.length : Int) ∧ sc = sc ∧ True ∧ false = false ∧ sc = sc ∧ True) ∧ (KR.cust = KR.cust ∧ (postR x.snd.fst y.snd.fst y.snd.snd.snd.snd).snd.snd = (postR x.snd.fst 
  y.snd.fst y.snd.snd.snd.snd).snd.snd) ∧ List.filter (fun (x : Int) => x != y_2) (List.take x_2 (without x.snd.snd (List.take x_1 []))) = without x.snd.snd (List.take x' []) ∧ (y.fst = y.fst ∧ y.snd.fst = y.snd.fst ∧ 
  y.snd.snd.fst = y.snd.snd.fst ∧ y.snd.snd.snd.fst = y.snd.snd.snd.fst ∧ y.snd.snd.snd.snd = y.snd.snd.snd.snd ∧ True) ∧ ([] : List Int) = [] ∧ True))) ∧ (decide ((↑x_1 : Int) < (0 : Int)) = false → True ∧ (True ∧ True) 
  ∧ ((KR.cust = KR.cust ∧ (postR x.snd.fst y.snd.fst y.snd.snd.snd.snd).snd.snd = lenC.inn (postR x.snd.fst y.snd.fst y.snd.snd.snd.snd).snd.snd) ∧ True) ∧ (∀ (y_2 : Unit), True → (without x.snd.snd (List.take x_1 
  [])).length ≤ maxLen → (((↑(tks (postR x.snd.fst y.snd.fst y.snd.snd.snd.snd).snd.snd).length : Int) != (↑(without x.snd.snd (List.take x_1 [])).length : Int)) = true → false = true ∧ True) ∧ (((↑(tks (postR x.snd.fst 
  y.snd.fst y.snd.snd.snd.snd).snd.snd).length : Int) != (↑(without x.snd.snd (List.take x_1 [])).length : Int)) = false → (without x.snd.snd (List.take x_1 [])).length ≤ maxLen → ∃ (x0 : Nat), x0.le (without x.snd.snd 
  (List.take x_1 [])).length ∧ ((True ∧ True) ∧ ((0 : Int) = (↑x0 : Int) ∧ (↑(without x.snd.snd (List.take x_1 [])).length : Int) = (↑(without x.snd.snd (List.take x_1 [])).length : Int) ∧ True ∧ false = false ∧ false = 
  false ∧ (↑x_1 : Int) = (↑x_1 : Int) ∧ True ∧ True ∧ (0 : Int) = (0 : Int) ∧ false = false ∧ (postR x.snd.fst y.snd.fst y.snd.snd.snd.snd).snd.fst = (postR x.snd.fst y.snd.fst y.snd.snd.snd.snd).snd.fst ∧ (postR 
  x.snd.fst y.snd.fst y.snd.snd.snd.snd).fst = (postR x.snd.fst y.snd.fst y.snd.snd.snd.snd).fst ∧ true = true ∧ false = false ∧ false = false ∧ y.fst = y.fst ∧ SV.val (Value.slice none (0 : Nat) (0 : Nat)) = SV.val 
  (Value.slice none (0 : Nat) (0 : Nat)) ∧ false = false ∧ (↑x.fst : Int) = (↑x.fst : Int) ∧ True ∧ true = true ∧ (↑x.fst : Int) = (↑x.fst : Int) ∧ (↑sc.length : Int) = (↑sc.length : Int) ∧ sc = sc ∧ True ∧ false = false 
  ∧ sc = sc ∧ True) ∧ (KR.cust = KR.cust ∧ (postR x.snd.fst y.snd.fst y.snd.snd.snd.snd).snd.snd = (postR x.snd.fst y.snd.fst y.snd.snd.snd.snd).snd.snd) ∧ without x.snd.snd (List.take x_1 []) = without x.snd.snd 
  (List.take x_1 []) ∧ (y.fst = y.fst ∧ y.snd.fst = y.snd.fst ∧ y.snd.snd.fst = y.snd.snd.fst ∧ y.snd.snd.snd.fst = y.snd.snd.snd.fst ∧ y.snd.snd.snd.snd = y.snd.snd.snd.snd ∧ True) ∧ ([] : List Int) = [] ∧ True) ∧ ∀ 
  (x_2 : Nat), x_2.le (without x.snd.snd (List.take x_1 [])).length → (decide ((↑x_2 : Int) < (↑(without x.snd.snd (List.take x_1 [])).length : Int)) = true → ((0 : Int) ≤ (↑x_2 : Int) ∧ (↑x_2 : Int) < (↑(without 
  x.snd.snd (List.take x_1 [])).length : Int)) ∧ (↑x_2 : Int).toNat < (without x.snd.snd (List.take x_1 [])).length ∧ ∀ (y_3 : Int), (without x.snd.snd (List.take x_1 []))[(↑x_2 : Int).toNat]? = some y_3 → True ∧ (True ∧ 
  y_3 = y_3 ∧ True) ∧ ((KR.cust = KR.cust ∧ (postR x.snd.fst y.snd.fst y.snd.snd.snd.snd).snd.snd = whereC.inn ((postR x.snd.fst y.snd.fst y.snd.snd.snd.snd).snd.snd, y_3)) ∧ True) ∧ (∀ (y_4 : Unit), True → ((!(lookL 
  (tks (postR x.snd.fst y.snd.fst y.snd.snd.snd.snd).snd.snd) y_3).isSome) = false → (tks (postR x.snd.fst y.snd.fst y.snd.snd.snd.snd).snd.snd).length.le (1000000000000 : Nat) ∧ (True ∧ (placeOf (postR x.snd.fst 
  y.snd.fst y.snd.snd.snd.snd).snd.snd y_3).fst = (placeOf (postR x.snd.fst y.snd.fst y.snd.snd.snd.snd).snd.snd y_3).fst ∧ (placeOf (postR x.snd.fst y.snd.fst y.snd.snd.snd.snd).snd.snd y_3).snd = (placeOf (postR 
  x.snd.fst y.snd.fst y.snd.snd.snd.snd).snd.snd y_3).snd ∧ True) ∧ ((KR.cust = KR.cust ∧ (postR x.snd.fst y.snd.fst y.snd.snd.snd.snd).snd.snd = listC.inn ((postR x.snd.fst y.snd.fst y.snd.snd.snd.snd).snd.snd, (placeOf 
  (postR x.snd.fst y.snd.fst y.snd.snd.snd.snd).snd.snd y_3).fst, (placeOf (postR x.snd.fst y.snd.fst y.snd.snd.snd.snd).snd.snd y_3).snd)) ∧ True) ∧ (∀ (y_5 : List Int), Row (tks (postR x.snd.fst y.snd.fst 
  y.snd.snd.snd.snd).snd.snd) (keysAt (tks (postR x.snd.fst y.snd.fst y.snd.snd.snd.snd).snd.snd) (atP (placeOf (postR x.snd.fst y.snd.fst y.snd.snd.snd.snd).snd.snd y_3).fst (placeOf (postR x.snd.fst y.snd.fst 
  y.snd.snd.snd.snd).snd.snd y_3).snd)) y_5 → true = true ∧ ((!inL y_5 y_3) = true → false = true ∧ True) ∧ ((!inL y_5 y_3) = false → ∃ (x' : Nat), x'.le (without x.snd.snd (List.take x_1 [])).length ∧ (without x.snd.snd 
  (List.take x_1 [])).length - x' < (without x.snd.snd (List.take x_1 [])).length - x_2 ∧ (True ∧ True) ∧ (IntKind.i64.wrap ((↑x_2 : Int) + (1 : Int)) = (↑x' : Int) ∧ (↑(without x.snd.snd (List.take x_1 [])).length : 
  Int) = (↑(without x.snd.snd (List.take x_1 [])).length : Int) ∧ True ∧ false = false ∧ false = false ∧ (↑x_1 : Int) = (↑x_1 : Int) ∧ True ∧ True ∧ (0 : Int) = (0 : Int) ∧ false = false ∧ (postR x.snd.fst y.snd.fst 
  y.snd.snd.snd.snd).snd.fst = (postR x.snd.fst y.snd.fst y.snd.snd.snd.snd).snd.fst ∧ (postR x.snd.fst y.snd.fst y.snd.snd.snd.snd).fst = (postR x.snd.fst y.snd.fst y.snd.snd.snd.snd).fst ∧ true = true ∧ false = false ∧ 
  false = false ∧ y.fst = y.fst ∧ SV.val (Value.slice none (0 : Nat) (0 : Nat)) = SV.val (Value.slice none (0 : Nat) (0 : Nat)) ∧ false = false ∧ (↑x.fst : Int) = (↑x.fst : Int) ∧ True ∧ true = true ∧ (↑x.fst : Int) = 
  (↑x.fst : Int) ∧ (↑sc.length : Int) = (↑sc.length : Int) ∧ sc = sc ∧ True ∧ false = false ∧ sc = sc ∧ True) ∧ (KR.cust = KR.cust ∧ (postR x.snd.fst y.snd.fst y.snd.snd.snd.snd).snd.snd = (postR x.snd.fst y.snd.fst 
  y.snd.snd.snd.snd).snd.snd) ∧ without x.snd.snd (List.take x_1 []) = without x.snd.snd (List.take x_1 []) ∧ (y.fst = y.fst ∧ y.snd.fst = y.snd.fst ∧ y.snd.snd.fst = y.snd.snd.fst ∧ y.snd.snd.snd.fst = y.snd.snd.snd.fst 
  ∧ y.snd.snd.snd.snd = y.snd.snd.snd.snd ∧ True) ∧ ([] : List Int) = [] ∧ True)) ∧ True) ∧ ((!(lookL (tks (postR x.snd.fst y.snd.fst y.snd.snd.snd.snd).snd.snd) y_3).isSome) = !false → false = true ∧ True)) ∧ True) ∧ 
  (decide ((↑x_2 : Int) < (↑(without x.snd.snd (List.take x_1 [])).length : Int)) = false → ∃ (x' : Nat × Rm × List Int), ((x'.fst ≤ sc.length ∧ x'.fst ≤ (200 : Nat)) ∧ Wait1 x'.snd.fst x'.fst ∧ x'.snd.snd = allW 
  x'.snd.fst) ∧ sc.length - x'.fst < sc.length - x.fst ∧ (True ∧ True) ∧ (IntKind.i64.wrap ((↑x.fst : Int) + (1 : Int)) = (↑x'.fst : Int) ∧ True ∧ (↑sc.length : Int) = (↑sc.length : Int) ∧ sc = sc ∧ True ∧ false = false 
  ∧ sc = sc ∧ True) ∧ (KR.cust = KR.cust ∧ (postR x.snd.fst y.snd.fst y.snd.snd.snd.snd).snd.snd = x'.snd.fst) ∧ without x.snd.snd (List.take x_1 []) = x'.snd.snd ∧ True))) ∧ True))) ∧ True) ∧ ((y.fst == (3 : Int)) = 
  false → ((y.fst == (4 : Int)) = true → True ∧ (True ∧ y.snd.fst = y.snd.fst ∧ True) ∧ ((KR.cust = KR.cust ∧ x.snd.fst = takeC.inn (x.snd.fst, y.snd.fst)) ∧ True) ∧ (∀ (y_1 : Unit), True → ∃ (x0 : Nat), x0.le (0 : Nat) 
  ∧ ((True ∧ True) ∧ ((0 : Int) = (↑x0 : Int) ∧ True ∧ True ∧ (0 : Int) = (0 : Int) ∧ true = true ∧ false = false ∧ false = false ∧ false = false ∧ y.fst = y.fst ∧ SV.val (Value.slice none (0 : Nat) (0 : Nat)) = SV.val 
  (Value.slice none (0 : Nat) (0 : Nat)) ∧ false = false ∧ (↑x.fst : Int) = (↑x.fst : Int) ∧ True ∧ true = true ∧ (↑x.fst : Int) = (↑x.fst : Int) ∧ (↑sc.length : Int) = (↑sc.length : Int) ∧ sc = sc ∧ True ∧ false = false 
  ∧ sc = sc ∧ True) ∧ (KR.cust = KR.cust ∧ (takeR x.snd.fst y.snd.fst).snd.snd = (takeR x.snd.fst y.snd.fst).snd.snd) ∧ x.snd.snd = without x.snd.snd (List.take x0 []) ∧ (y.fst = y.fst ∧ y.snd.fst = y.snd.fst ∧ 
  y.snd.snd.fst = y.snd.snd.fst ∧ y.snd.snd.snd.fst = y.snd.snd.snd.fst ∧ y.snd.snd.snd.snd = y.snd.snd.snd.snd ∧ True) ∧ ([] : List Int) = [] ∧ True) ∧ ∀ (x_1 : Nat), x_1.le (0 : Nat) → (decide ((↑x_1 : Int) < (0 : 
  Int)) = true → ((0 : Int) ≤ (↑x_1 : Int) ∧ (↑x_1 : Int) < (↑(0 : Nat) : Int)) ∧ (↑x_1 : Int).toNat < (0 : Nat) ∧ ∀ (y_2 : Int), ([] : List Int)[(↑x_1 : Int).toNat]? = some y_2 → true = true ∧ ((!inL (without x.snd.snd 
  (List.take x_1 [])) y_2) = true → false = true ∧ True) ∧ ((!inL (without x.snd.snd (List.take x_1 [])) y_2) = false → (without x.snd.snd (List.take x_1 [])).length ≤ maxLen → ∃ (x0 : Nat), x0.le (without x.snd.snd 
  (List.take x_1 [])).length ∧ ((True ∧ True) ∧ ((0 : Int) = (↑x0 : Int) ∧ True ∧ (↑(without x.snd.snd (List.take x_1 [])).length : Int) = (↑(without x.snd.snd (List.take x_1 [])).length : Int) ∧ True ∧ false = false ∧ 
  y_2 = y_2 ∧ true = true ∧ (↑x_1 : Int) = (↑x_1 : Int) ∧ True ∧ True ∧ (0 : Int) = (0 : Int) ∧ true = true ∧ false = false ∧ false = false ∧ false = false ∧ y.fst = y.fst ∧ SV.val (Value.slice none (0 : Nat) (0 : Nat)) 
  = SV.val (Value.slice none (0 : Nat) (0 : Nat)) ∧ false = false ∧ (↑x.fst : Int) = (↑x.fst : Int) ∧ True ∧ true = true ∧ (↑x.fst : Int) = (↑x.fst : Int) ∧ (↑sc.length : Int) = (↑sc.length : Int) ∧ sc = sc ∧ True ∧ 
  false = false ∧ sc = sc ∧ True) ∧ (KR.cust = KR.cust ∧ (takeR x.snd.fst y.snd.fst).snd.snd = (takeR x.snd.fst y.snd.fst).snd.snd) ∧ without x.snd.snd (List.take x_1 []) = without x.snd.snd (List.take x_1 []) ∧ (y.fst = 
  y.fst ∧ y.snd.fst = y.snd.fst ∧ y.snd.snd.fst = y.snd.snd.fst ∧ y.snd.snd.snd.fst = y.snd.snd.snd.fst ∧ y.snd.snd.snd.snd = y.snd.snd.snd.snd ∧ True) ∧ ([] : List Int) = [] ∧ [] = List.filter (fun (x : Int) => x != 
  y_2) (List.take x0 (without x.snd.snd (List.take x_1 []))) ∧ True) ∧ ∀ (x_2 : Nat), x_2.le (without x.snd.snd (List.take x_1 [])).length → (decide ((↑x_2 : Int) < (↑(without x.snd.snd (List.take x_1 [])).length : Int)) 
  = true → ((0 : Int) ≤ (↑x_2 : Int) ∧ (↑x_2 : Int) < (↑(without x.snd.snd (List.take x_1 [])).length : Int)) ∧ (↑x_2 : Int).toNat < (without x.snd.snd (List.take x_1 [])).length ∧ ∀ (y_3 : Int), (without x.snd.snd 
  (List.take x_1 []))[(↑x_2 : Int).toNat]? = some y_3 → ((y_3 != y_2) = true → ((List.filter (fun (x : Int) => x != y_2) (List.take x_2 (without x.snd.snd (List.take x_1 [])))).length + [y_3].length) * (8 : Nat) ≤ 
  (140737488355328 : Nat) ∧ ∃ (x' : Nat), x'.le (without x.snd.snd (List.take x_1 [])).length ∧ (without x.snd.snd (List.take x_1 [])).length - x' < (without x.snd.snd (List.take x_1 [])).length - x_2 ∧ (True ∧ True) ∧ 
  (IntKind.i64.wrap ((↑x_2 : Int) + (1 : Int)) = (↑x' : Int) ∧ True ∧ (↑(without x.snd.snd (List.take x_1 [])).length : Int) = (↑(without x.snd.snd (List.take x_1 [])).length : Int) ∧ True ∧ false = false ∧ y_2 = y_2 ∧ 
  true = true ∧ (↑x_1 : Int) = (↑x_1 : Int) ∧ True ∧ True ∧ (0 : Int) = (0 : Int) ∧ true = true ∧ false = false ∧ false = false ∧ false = false ∧ y.fst = y.fst ∧ SV.val (Value.slice none (0 : Nat) (0 : Nat)) = SV.val 
  (Value.slice none (0 : Nat) (0 : Nat)) ∧ false = false ∧ (↑x.fst : Int) = (↑x.fst : Int) ∧ True ∧ true = true ∧ (↑x.fst : Int) = (↑x.fst : Int) ∧ (↑sc.length : Int) = (↑sc.length : Int) ∧ sc = sc ∧ True ∧ false = false 
  ∧ sc = sc ∧ True) ∧ (KR.cust = KR.cust ∧ (takeR x.snd.fst y.snd.fst).snd.snd = (takeR x.snd.fst y.snd.fst).snd.snd) ∧ without x.snd.snd (List.take x_1 []) = without x.snd.snd (List.take x_1 []) ∧ (y.fst = y.fst ∧ 
  y.snd.fst = y.snd.fst ∧ y.snd.snd.fst = y.snd.snd.fst ∧ y.snd.snd.snd.fst = y.snd.snd.snd.fst ∧ y.snd.snd.snd.snd = y.snd.snd.snd.snd ∧ True) ∧ ([] : List Int) = [] ∧ List.filter (fun (x : Int) => x != y_2) (List.take 
  x_2 (without x.snd.snd (List.take x_1 []))) ++ [y_3] = List.filter (fun (x : Int) => x != y_2) (List.take x' (without x.snd.snd (List.take x_1 []))) ∧ True) ∧ ((y_3 != y_2) = false → ∃ (x' : Nat), x'.le (without 
  x.snd.snd (List.take x_1 [])).length ∧ (without x.snd.snd (List.take x_1 [])).length - x' < (without x.snd.snd (List.take x_1 [])).length - x_2 ∧ (True ∧ True) ∧ (IntKind.i64.wrap ((↑x_2 : Int) + (1 : Int)) = (↑x' : 
  Int) ∧ True ∧ (↑(without x.snd.snd (List.take x_1 [])).length : Int) = (↑(without x.snd.snd (List.take x_1 [])).length : Int) ∧ True ∧ false = false ∧ y_2 = y_2 ∧ true = true ∧ (↑x_1 : Int) = (↑x_1 : Int) ∧ True ∧ True 
  ∧ (0 : Int) = (0 : Int) ∧ true = true ∧ false = false ∧ false = false ∧ false = false ∧ y.fst = y.fst ∧ SV.val (Value.slice none (0 : Nat) (0 : Nat)) = SV.val (Value.slice none (0 : Nat) (0 : Nat)) ∧ false = false ∧ 
  (↑x.fst : Int) = (↑x.fst : Int) ∧ True ∧ true = true ∧ (↑x.fst : Int) = (↑x.fst : Int) ∧ (↑sc.length : Int) = (↑sc.length : Int) ∧ sc = sc ∧ True ∧ false = false ∧ sc = sc ∧ True) ∧ (KR.cust = KR.cust ∧ (takeR 
  x.snd.fst y.snd.fst).snd.snd = (takeR x.snd.fst y.snd.fst).snd.snd) ∧ without x.snd.snd (List.take x_1 []) = without x.snd.snd (List.take x_1 []) ∧ (y.fst = y.fst ∧ y.snd.fst = y.snd.fst ∧ y.snd.snd.fst = y.snd.snd.fst 
  ∧ y.snd.snd.snd.fst = y.snd.snd.snd.fst ∧ y.snd.snd.snd.snd = y.snd.snd.snd.snd ∧ True) ∧ ([] : List Int) = [] ∧ List.filter (fun (x : Int) => x != y_2) (List.take x_2 (without x.snd.snd (List.take x_1 []))) = 
  List.filter (fun (x : Int) => x != y_2) (List.take x' (without x.snd.snd (List.take x_1 []))) ∧ True)) ∧ (decide ((↑x_2 : Int) < (↑(without x.snd.snd (List.take x_1 [])).length : Int)) = false → ∃ (x' : Nat), x'.le (0 
  : Nat) ∧ (0 : Nat) - x' < (0 : Nat) - x_1 ∧ (True ∧ True) ∧ (IntKind.i64.wrap ((↑x_1 : Int) + (1 : Int)) = (↑x' : Int) ∧ True ∧ True ∧ (0 : Int) = (0 : Int) ∧ true = true ∧ false = false ∧ false = false ∧ false = false 
  ∧ y.fst = y.fst ∧ SV.val (Value.slice none (0 : Nat) (0 : Nat)) = SV.val (Value.slice none (0 : Nat) (0 : Nat)) ∧ false = false ∧ (↑x.fst : Int) = (↑x.fst : Int) ∧ True ∧ true = true ∧ (↑x.fst : Int) = (↑x.fst : Int) ∧ 
  (↑sc.length : Int) = (↑sc.length : Int) ∧ sc = sc ∧ True ∧ false = false ∧ sc = sc ∧ True) ∧ (KR.cust = KR.cust ∧ (takeR x.snd.fst y.snd.fst).snd.snd = (takeR x.snd.fst y.snd.fst).snd.snd) ∧ List.filter (fun (x : Int) 
  => x != y_2) (List.take x_2 (without x.snd.snd (List.take x_1 []))) = without x.snd.snd (List.take x' []) ∧ (y.fst = y.fst ∧ y.snd.fst = y.snd.fst ∧ y.snd.snd.fst = y.snd.snd.fst ∧ y.snd.snd.snd.fst = y.snd.snd.snd.fst 
  ∧ y.snd.snd.snd.snd = y.snd.snd.snd.snd ∧ True) ∧ ([] : List Int) = [] ∧ True))) ∧ (decide ((↑x_1 : Int) < (0 : Int)) = false → True ∧ (True ∧ True) ∧ ((KR.cust = KR.cust ∧ (takeR x.snd.fst y.snd.fst).snd.snd = 
  lenC.inn (takeR x.snd.fst y.snd.fst).snd.snd) ∧ True) ∧ (∀ (y_2 : Unit), True → (without x.snd.snd (List.take x_1 [])).length ≤ maxLen → (((↑(tks (takeR x.snd.fst y.snd.fst).snd.snd).length : Int) != (↑(without 
  x.snd.snd (List.take x_1 [])).length : Int)) = true → false = true ∧ True) ∧ (((↑(tks (takeR x.snd.fst y.snd.fst).snd.snd).length : Int) != (↑(without x.snd.snd (List.take x_1 [])).length : Int)) = false → (without 
  x.snd.snd (List.take x_1 [])).length ≤ maxLen → ∃ (x0 : Nat), x0.le (without x.snd.snd (List.take x_1 [])).length ∧ ((True ∧ True) ∧ ((0 : Int) = (↑x0 : Int) ∧ (↑(without x.snd.snd (List.take x_1 [])).length : Int) = 
  (↑(without x.snd.snd (List.take x_1 [])).length : Int) ∧ True ∧ false = false ∧ false = false ∧ (↑x_1 : Int) = (↑x_1 : Int) ∧ True ∧ True ∧ (0 : Int) = (0 : Int) ∧ true = true ∧ false = false ∧ false = false ∧ false = 
  false ∧ y.fst = y.fst ∧ SV.val (Value.slice none (0 : Nat) (0 : Nat)) = SV.val (Value.slice none (0 : Nat) (0 : Nat)) ∧ false = false ∧ (↑x.fst : Int) = (↑x.fst : Int) ∧ True ∧ true = true ∧ (↑x.fst : Int) = (↑x.fst : 
  Int) ∧ (↑sc.length : Int) = (↑sc.length : Int) ∧ sc = sc ∧ True ∧ false = false ∧ sc = sc ∧ True) ∧ (KR.cust = KR.cust ∧ (takeR x.snd.fst y.snd.fst).snd.snd = (takeR x.snd.fst y.snd.fst).snd.snd) ∧ without x.snd.snd 
  (List.take x_1 []) = without x.snd.snd (List.take x_1 []) ∧ (y.fst = y.fst ∧ y.snd.fst = y.snd.fst ∧ y.snd.snd.fst = y.snd.snd.fst ∧ y.snd.snd.snd.fst = y.snd.snd.snd.fst ∧ y.snd.snd.snd.snd = y.snd.snd.snd.snd ∧ True) 
  ∧ ([] : List Int) = [] ∧ True) ∧ ∀ (x_2 : Nat), x_2.le (without x.snd.snd (List.take x_1 [])).length → (decide ((↑x_2 : Int) < (↑(without x.snd.snd (List.take x_1 [])).length : Int)) = true → ((0 : Int) ≤ (↑x_2 : Int) 
  ∧ (↑x_2 : Int) < (↑(without x.snd.snd (List.take x_1 [])).length : Int)) ∧ (↑x_2 : Int).toNat < (without x.snd.snd (List.take x_1 [])).length ∧ ∀ (y_3 : Int), (without x.snd.snd (List.take x_1 []))[(↑x_2 : Int).toNat]? 
  = some y_3 → True ∧ (True ∧ y_3 = y_3 ∧ True) ∧ ((KR.cust = KR.cust ∧ (takeR x.snd.fst y.snd.fst).snd.snd = whereC.inn ((takeR x.snd.fst y.snd.fst).snd.snd, y_3)) ∧ True) ∧ (∀ (y_4 : Unit), True → ((!(lookL (tks (takeR 
  x.snd.fst y.snd.fst).snd.snd) y_3).isSome) = false → (tks (takeR x.snd.fst y.snd.fst).snd.snd).length.le (1000000000000 : Nat) ∧ (True ∧ (placeOf (takeR x.snd.fst y.snd.fst).snd.snd y_3).fst = (placeOf (takeR x.snd.fst 
  y.snd.fst).snd.snd y_3).fst ∧ (placeOf (takeR x.snd.fst y.snd.fst).snd.snd y_3).snd = (placeOf (takeR x.snd.fst y.snd.fst).snd.snd y_3).snd ∧ True) ∧ ((KR.cust = KR.cust ∧ (takeR x.snd.fst y.snd.fst).snd.snd = 
  listC.inn ((takeR x.snd.fst y.snd.fst).snd.snd, (placeOf (takeR x.snd.fst y.snd.fst).snd.snd y_3).fst, (placeOf (takeR x.snd.fst y.snd.fst).snd.snd y_3).snd)) ∧ True) ∧ (∀ (y_5 : List Int), Row (tks (takeR x.snd.fst 
  y.snd.fst).snd.snd) (keysAt (tks (takeR x.snd.fst y.snd.fst).snd.snd) (atP (placeOf (takeR x.snd.fst y.snd.fst).snd.snd y_3).fst (placeOf (takeR x.snd.fst y.snd.fst).snd.snd y_3).snd)) y_5 → true = true ∧ ((!inL y_5 
  y_3) = true → false = true ∧ True) ∧ ((!inL y_5 y_3) = false → ∃ (x' : Nat), x'.le (without x.snd.snd (List.take x_1 [])).length ∧ (without x.snd.snd (List.take x_1 [])).length - x' < (without x.snd.snd (List.take x_1 
  [])).length - x_2 ∧ (True ∧ True) ∧ (IntKind.i64.wrap ((↑x_2 : Int) + (1 : Int)) = (↑x' : Int) ∧ (↑(without x.snd.snd (List.take x_1 [])).length : Int) = (↑(without x.snd.snd (List.take x_1 [])).length : Int) ∧ True ∧ 
  false = false ∧ false = false ∧ (↑x_1 : Int) = (↑x_1 : Int) ∧ True ∧ True ∧ (0 : Int) = (0 : Int) ∧ true = true ∧ false = false ∧ false = false ∧ false = false ∧ y.fst = y.fst ∧ SV.val (Value.slice none (0 : Nat) (0 : 
  Nat)) = SV.val (Value.slice none (0 : Nat) (0 : Nat)) ∧ false = false ∧ (↑x.fst : Int) = (↑x.fst : Int) ∧ True ∧ true = true ∧ (↑x.fst : Int) = (↑x.fst : Int) ∧ (↑sc.length : Int) = (↑sc.length : Int) ∧ sc = sc ∧ True 
  ∧ false = false ∧ sc = sc ∧ True) ∧ (KR.cust = KR.cust ∧ (takeR x.snd.fst y.snd.fst).snd.snd = (takeR x.snd.fst y.snd.fst).snd.snd) ∧ without x.snd.snd (List.take x_1 []) = without x.snd.snd (List.take x_1 []) ∧ (y.fst 
  = y.fst ∧ y.snd.fst = y.snd.fst ∧ y.snd.snd.fst = y.snd.snd.fst ∧ y.snd.snd.snd.fst = y.snd.snd.snd.fst ∧ y.snd.snd.snd.snd = y.snd.snd.snd.snd ∧ True) ∧ ([] : List Int) = [] ∧ True)) ∧ True) ∧ ((!(lookL (tks (takeR 
  x.snd.fst y.snd.fst).snd.snd) y_3).isSome) = !false → false = true ∧ True)) ∧ True) ∧ (decide ((↑x_2 : Int) < (↑(without x.snd.snd (List.take x_1 [])).length : Int)) = false → ∃ (x' : Nat × Rm × List Int), ((x'.fst ≤ 
  sc.length ∧ x'.fst ≤ (200 : Nat)) ∧ Wait1 x'.snd.fst x'.fst ∧ x'.snd.snd = allW x'.snd.fst) ∧ sc.length - x'.fst < sc.length - x.fst ∧ (True ∧ True) ∧ (IntKind.i64.wrap ((↑x.fst : Int) + (1 : Int)) = (↑x'.fst : Int) ∧ 
  True ∧ (↑sc.length : Int) = (↑sc.length : Int) ∧ sc = sc ∧ True ∧ false = false ∧ sc = sc ∧ True) ∧ (KR.cust = KR.cust ∧ (takeR x.snd.fst y.snd.fst).snd.snd = x'.snd.fst) ∧ without x.snd.snd (List.take x_1 []) = 
  x'.snd.snd ∧ True))) ∧ True)) ∧ True) ∧ ((y.fst == (4 : Int)) = false → ((y.fst == (5 : Int)) = true → (tks x.snd.fst).length.le (1000000000000 : Nat) ∧ (True ∧ y.snd.snd.fst = y.snd.snd.fst ∧ True) ∧ ((KR.cust = 
  KR.cust ∧ x.snd.fst = closeC.inn (x.snd.fst, y.snd.snd.fst)) ∧ True) ∧ (∀ (y_1 : List Int), Row (tks x.snd.fst) (keysAt (tks x.snd.fst) (inP y.snd.snd.fst)) y_1 → y_1.length ≤ maxLen → ∃ (x0 : Nat), x0.le y_1.length ∧ 
  ((True ∧ True) ∧ ((0 : Int) = (↑x0 : Int) ∧ True ∧ (↑y_1.length : Int) = (↑y_1.length : Int) ∧ y_1 = y_1 ∧ y_1 = y_1 ∧ true = true ∧ false = false ∧ false = false ∧ false = false ∧ false = false ∧ y.fst = y.fst ∧ false 
  = false ∧ (↑x.fst : Int) = (↑x.fst : Int) ∧ True ∧ true = true ∧ (↑x.fst : Int) = (↑x.fst : Int) ∧ (↑sc.length : Int) = (↑sc.length : Int) ∧ sc = sc ∧ True ∧ false = false ∧ sc = sc ∧ True) ∧ (KR.cust = KR.cust ∧ (last 
  x.snd.fst, delAll (tks x.snd.fst) y_1, als x.snd.fst) = (last x.snd.fst, delAll (tks x.snd.fst) y_1, als x.snd.fst)) ∧ x.snd.snd = without x.snd.snd (List.take x0 y_1) ∧ (y.fst = y.fst ∧ y.snd.fst = y.snd.fst ∧ 
  y.snd.snd.fst = y.snd.snd.fst ∧ y.snd.snd.snd.fst = y.snd.snd.snd.fst ∧ y.snd.snd.snd.snd = y.snd.snd.snd.snd ∧ True) ∧ True) ∧ ∀ (x_1 : Nat), x_1.le y_1.length → (decide ((↑x_1 : Int) < (↑y_1.length : Int)) = true → 
  ((0 : Int) ≤ (↑x_1 : Int) ∧ (↑x_1 : Int) < (↑y_1.length : Int)) ∧ ∀ (y_2 : Int), y_1[(↑x_1 : Int).toNat]? = some y_2 → true = true ∧ ((!inL (without x.snd.snd (List.take x_1 y_1)) y_2) = true → false = true ∧ True) ∧ 
  ((!inL (without x.snd.snd (List.take x_1 y_1)) y_2) = false → (without x.snd.snd (List.take x_1 y_1)).length ≤ maxLen → ∃ (x0 : Nat), x0.le (without x.snd.snd (List.take x_1 y_1)).length ∧ ((True ∧ True) ∧ ((0 : Int) = 
  (↑x0 : Int) ∧ True ∧ (↑(without x.snd.snd (List.take x_1 y_1)).length : Int) = (↑(without x.snd.snd (List.take x_1 y_1)).length : Int) ∧ True ∧ false = false ∧ y_2 = y_2 ∧ true = true ∧ (↑x_1 : Int) = (↑x_1 : Int) ∧ 
  True ∧ (↑y_1.length : Int) = (↑y_1.length : Int) ∧ y_1 = y_1 ∧ y_1 = y_1 ∧ true = true ∧ false = false ∧ false = false ∧ false = false ∧ false = false ∧ y.fst = y.fst ∧ false = false ∧ (↑x.fst : Int) = (↑x.fst : Int) ∧ 
  True ∧ true = true ∧ (↑x.fst : Int) = (↑x.fst : Int) ∧ (↑sc.length : Int) = (↑sc.length : Int) ∧ sc = sc ∧ True ∧ false = false ∧ sc = sc ∧ True) ∧ (KR.cust = KR.cust ∧ (last x.snd.fst, delAll (tks x.snd.fst) y_1, als 
  x.snd.fst) = (last x.snd.fst, delAll (tks x.snd.fst) y_1, als x.snd.fst)) ∧ without x.snd.snd (List.take x_1 y_1) = without x.snd.snd (List.take x_1 y_1) ∧ (y.fst = y.fst ∧ y.snd.fst = y.snd.fst ∧ y.snd.snd.fst = 
  y.snd.snd.fst ∧ y.snd.snd.snd.fst = y.snd.snd.snd.fst ∧ y.snd.snd.snd.snd = y.snd.snd.snd.snd ∧ True) ∧ [] = List.filter (fun (x : Int) => x != y_2) (List.take x0 (without x.snd.snd (List.take x_1 y_1))) ∧ True) ∧ ∀ 
  (x_2 : Nat), x_2.le (without x.snd.snd (List.take x_1 y_1)).length → (decide ((↑x_2 : Int) < (↑(without x.snd.snd (List.take x_1 y_1)).length : Int)) = true → ((0 : Int) ≤ (↑x_2 : Int) ∧ (↑x_2 : Int) < (↑(without 
  x.snd.snd (List.take x_1 y_1)).length : Int)) ∧ (↑x_2 : Int).toNat < (without x.snd.snd (List.take x_1 y_1)).length ∧ ∀ (y_3 : Int), (without x.snd.snd (List.take x_1 y_1))[(↑x_2 : Int).toNat]? = some y_3 → ((y_3 != 
  y_2) = true → ((List.filter (fun (x : Int) => x != y_2) (List.take x_2 (without x.snd.snd (List.take x_1 y_1)))).length + [y_3].length) * (8 : Nat) ≤ (140737488355328 : Nat) ∧ ∃ (x' : Nat), x'.le (without x.snd.snd 
  (List.take x_1 y_1)).length ∧ (without x.snd.snd (List.take x_1 y_1)).length - x' < (without x.snd.snd (List.take x_1 y_1)).length - x_2 ∧ (True ∧ True) ∧ (IntKind.i64.wrap ((↑x_2 : Int) + (1 : Int)) = (↑x' : Int) ∧ 
  True ∧ (↑(without x.snd.snd (List.take x_1 y_1)).length : Int) = (↑(without x.snd.snd (List.take x_1 y_1)).length : Int) ∧ True ∧ false = false ∧ y_2 = y_2 ∧ true = true ∧ (↑x_1 : Int) = (↑x_1 : Int) ∧ True ∧ 
  (↑y_1.length : Int) = (↑y_1.length : Int) ∧ y_1 = y_1 ∧ y_1 = y_1 ∧ true = true ∧ false = false ∧ false = false ∧ false = false ∧ false = false ∧ y.fst = y.fst ∧ false = false ∧ (↑x.fst : Int) = (↑x.fst : Int) ∧ True ∧ 
  true = true ∧ (↑x.fst : Int) = (↑x.fst : Int) ∧ (↑sc.length : Int) = (↑sc.length : Int) ∧ sc = sc ∧ True ∧ false = false ∧ sc = sc ∧ True) ∧ (KR.cust = KR.cust ∧ (last x.snd.fst, delAll (tks x.snd.fst) y_1, als 
  x.snd.fst) = (last x.snd.fst, delAll (tks x.snd.fst) y_1, als x.snd.fst)) ∧ without x.snd.snd (List.take x_1 y_1) = without x.snd.snd (List.take x_1 y_1) ∧ (y.fst = y.fst ∧ y.snd.fst = y.snd.fst ∧ y.snd.snd.fst = 
  y.snd.snd.fst ∧ y.snd.snd.snd.fst = y.snd.snd.snd.fst ∧ y.snd.snd.snd.snd = y.snd.snd.snd.snd ∧ True) ∧ List.filter (fun (x : Int) => x != y_2) (List.take x_2 (without x.snd.snd (List.take x_1 y_1))) ++ [y_3] = 
  List.filter (fun (x : Int) => x != y_2) (List.take x' (without x.snd.snd (List.take x_1 y_1))) ∧ True) ∧ ((y_3 != y_2) = false → ∃ (x' : Nat), x'.le (without x.snd.snd (List.take x_1 y_1)).length ∧ (without x.snd.snd 
  (List.take x_1 y_1)).length - x' < (without x.snd.snd (List.take x_1 y_1)).length - x_2 ∧ (True ∧ True) ∧ (IntKind.i64.wrap ((↑x_2 : Int) + (1 : Int)) = (↑x' : Int) ∧ True ∧ (↑(without x.snd.snd (List.take x_1 
  y_1)).length : Int) = (↑(without x.snd.snd (List.take x_1 y_1)).length : Int) ∧ True ∧ false = false ∧ y_2 = y_2 ∧ true = true ∧ (↑x_1 : Int) = (↑x_1 : Int) ∧ True ∧ (↑y_1.length : Int) = (↑y_1.length : Int) ∧ y_1 = 
  y_1 ∧ y_1 = y_1 ∧ true = true ∧ false = false ∧ false = false ∧ false = false ∧ false = false ∧ y.fst = y.fst ∧ false = false ∧ (↑x.fst : Int) = (↑x.fst : Int) ∧ True ∧ true = true ∧ (↑x.fst : Int) = (↑x.fst : Int) ∧ 
  (↑sc.length : Int) = (↑sc.length : Int) ∧ sc = sc ∧ True ∧ false = false ∧ sc = sc ∧ True) ∧ (KR.cust = KR.cust ∧ (last x.snd.fst, delAll (tks x.snd.fst) y_1, als x.snd.fst) = (last x.snd.fst, delAll (tks x.snd.fst) 
  y_1, als x.snd.fst)) ∧ without x.snd.snd (List.take x_1 y_1) = without x.snd.snd (List.take x_1 y_1) ∧ (y.fst = y.fst ∧ y.snd.fst = y.snd.fst ∧ y.snd.snd.fst = y.snd.snd.fst ∧ y.snd.snd.snd.fst = y.snd.snd.snd.fst ∧ 
  y.snd.snd.snd.snd = y.snd.snd.snd.snd ∧ True) ∧ List.filter (fun (x : Int) => x != y_2) (List.take x_2 (without x.snd.snd (List.take x_1 y_1))) = List.filter (fun (x : Int) => x != y_2) (List.take x' (without x.snd.snd 
  (List.take x_1 y_1))) ∧ True)) ∧ (decide ((↑x_2 : Int) < (↑(without x.snd.snd (List.take x_1 y_1)).length : Int)) = false → ∃ (x' : Nat), x'.le y_1.length ∧ y_1.length - x' < y_1.length - x_1 ∧ (True ∧ True) ∧ 
  (IntKind.i64.wrap ((↑x_1 : Int) + (1 : Int)) = (↑x' : Int) ∧ True ∧ (↑y_1.length : Int) = (↑y_1.length : Int) ∧ y_1 = y_1 ∧ y_1 = y_1 ∧ true = true ∧ false = false ∧ false = false ∧ false = false ∧ false = false ∧ 
  y.fst = y.fst ∧ false = false ∧ (↑x.fst : Int) = (↑x.fst : Int) ∧ True ∧ true = true ∧ (↑x.fst : Int) = (↑x.fst : Int) ∧ (↑sc.length : Int) = (↑sc.length : Int) ∧ sc = sc ∧ True ∧ false = false ∧ sc = sc ∧ True) ∧ 
  (KR.cust = KR.cust ∧ (last x.snd.fst, delAll (tks x.snd.fst) y_1, als x.snd.fst) = (last x.snd.fst, delAll (tks x.snd.fst) y_1, als x.snd.fst)) ∧ List.filter (fun (x : Int) => x != y_2) (List.take x_2 (without 
  x.snd.snd (List.take x_1 y_1))) = without x.snd.snd (List.take x' y_1) ∧ (y.fst = y.fst ∧ y.snd.fst = y.snd.fst ∧ y.snd.snd.fst = y.snd.snd.fst ∧ y.snd.snd.snd.fst = y.snd.snd.snd.fst ∧ y.snd.snd.snd.snd = 
  y.snd.snd.snd.snd ∧ True) ∧ True))) ∧ (decide ((↑x_1 : Int) < (↑y_1.length : Int)) = false → True ∧ (True ∧ True) ∧ ((KR.cust = KR.cust ∧ (last x.snd.fst, delAll (tks x.snd.fst) y_1, als x.snd.fst) = lenC.inn (last 
  x.snd.fst, delAll (tks x.snd.fst) y_1, als x.snd.fst)) ∧ True) ∧ (∀ (y_2 : Unit), True → (without x.snd.snd (List.take x_1 y_1)).length ≤ maxLen → (((↑(tks (last x.snd.fst, delAll (tks x.snd.fst) y_1, als 
  x.snd.fst)).length : Int) != (↑(without x.snd.snd (List.take x_1 y_1)).length : Int)) = true → false = true ∧ True) ∧ (((↑(tks (last x.snd.fst, delAll (tks x.snd.fst) y_1, als x.snd.fst)).length : Int) != (↑(without 
  x.snd.snd (List.take x_1 y_1)).length : Int)) = false → (without x.snd.snd (List.take x_1 y_1)).length ≤ maxLen → ∃ (x0 : Nat), x0.le (without x.snd.snd (List.take x_1 y_1)).length ∧ ((True ∧ True) ∧ ((0 : Int) = (↑x0 
  : Int) ∧ (↑(without x.snd.snd (List.take x_1 y_1)).length : Int) = (↑(without x.snd.snd (List.take x_1 y_1)).length : Int) ∧ True ∧ false = false ∧ false = false ∧ (↑x_1 : Int) = (↑x_1 : Int) ∧ True ∧ (↑y_1.length : 
  Int) = (↑y_1.length : Int) ∧ y_1 = y_1 ∧ y_1 = y_1 ∧ true = true ∧ false = false ∧ false = false ∧ false = false ∧ false = false ∧ y.fst = y.fst ∧ false = false ∧ (↑x.fst : Int) = (↑x.fst : Int) ∧ True ∧ true = true ∧ 
  (↑x.fst : Int) = (↑x.fst : Int) ∧ (↑sc.length : Int) = (↑sc.length : Int) ∧ sc = sc ∧ True ∧ false = false ∧ sc = sc ∧ True) ∧ (KR.cust = KR.cust ∧ (last x.snd.fst, delAll (tks x.snd.fst) y_1, als x.snd.fst) = (last 
  x.snd.fst, delAll (tks x.snd.fst) y_1, als x.snd.fst)) ∧ without x.snd.snd (List.take x_1 y_1) = without x.snd.snd (List.take x_1 y_1) ∧ (y.fst = y.fst ∧ y.snd.fst = y.snd.fst ∧ y.snd.snd.fst = y.snd.snd.fst ∧ 
  y.snd.snd.snd.fst = y.snd.snd.snd.fst ∧ y.snd.snd.snd.snd = y.snd.snd.snd.snd ∧ True) ∧ True) ∧ ∀ (x_2 : Nat), x_2.le (without x.snd.snd (List.take x_1 y_1)).length → (decide ((↑x_2 : Int) < (↑(without x.snd.snd 
  (List.take x_1 y_1)).length : Int)) = true → ((0 : Int) ≤ (↑x_2 : Int) ∧ (↑x_2 : Int) < (↑(without x.snd.snd (List.take x_1 y_1)).length : Int)) ∧ (↑x_2 : Int).toNat < (without x.snd.snd (List.take x_1 y_1)).length ∧ ∀ 
  (y_3 : Int), (without x.snd.snd (List.take x_1 y_1))[(↑x_2 : Int).toNat]? = some y_3 → True ∧ (True ∧ y_3 = y_3 ∧ True) ∧ ((KR.cust = KR.cust ∧ (last x.snd.fst, delAll (tks x.snd.fst) y_1, als x.snd.fst) = whereC.inn 
  ((last x.snd.fst, delAll (tks x.snd.fst) y_1, als x.snd.fst), y_3)) ∧ True) ∧ (∀ (y_4 : Unit), True → ((!(lookL (tks (last x.snd.fst, delAll (tks x.snd.fst) y_1, als x.snd.fst)) y_3).isSome) = false → (tks (last 
  x.snd.fst, delAll (tks x.snd.fst) y_1, als x.snd.fst)).length.le (1000000000000 : Nat) ∧ (True ∧ (placeOf (last x.snd.fst, delAll (tks x.snd.fst) y_1, als x.snd.fst) y_3).fst = (placeOf (last x.snd.fst, delAll (tks 
  x.snd.fst) y_1, als x.snd.fst) y_3).fst ∧ (placeOf (last x.snd.fst, delAll (tks x.snd.fst) y_1, als x.snd.fst) y_3).snd = (placeOf (last x.snd.fst, delAll (tks x.snd.fst) y_1, als x.snd.fst) y_3).snd ∧ True) ∧ 
  ((KR.cust = KR.cust ∧ (last x.snd.fst, delAll (tks x.snd.fst) y_1, als x.snd.fst) = listC.inn ((last x.snd.fst, delAll (tks x.snd.fst) y_1, als x.snd.fst), (placeOf (last x.snd.fst, delAll (tks x.snd.fst) y_1, als 
  x.snd.fst) y_3).fst, (placeOf (last x.snd.fst, delAll (tks x.snd.fst) y_1, als x.snd.fst) y_3).snd)) ∧ True) ∧ (∀ (y_5 : List Int), Row (tks (last x.snd.fst, delAll (tks x.snd.fst) y_1, als x.snd.fst)) (keysAt (tks 
  (last x.snd.fst, delAll (tks x.snd.fst) y_1, als x.snd.fst)) (atP (placeOf (last x.snd.fst, delAll (tks x.snd.fst) y_1, als x.snd.fst) y_3).fst (placeOf (last x.snd.fst, delAll (tks x.snd.fst) y_1, als x.snd.fst) 
  y_3).snd)) y_5 → true = true ∧ ((!inL y_5 y_3) = true → false = true ∧ True) ∧ ((!inL y_5 y_3) = false → ∃ (x' : Nat), x'.le (without x.snd.snd (List.take x_1 y_1)).length ∧ (without x.snd.snd (List.take x_1 
  y_1)).length - x' < (without x.snd.snd (List.take x_1 y_1)).length - x_2 ∧ (True ∧ True) ∧ (IntKind.i64.wrap ((↑x_2 : Int) + (1 : Int)) = (↑x' : Int) ∧ (↑(without x.snd.snd (List.take x_1 y_1)).length : Int) = 
  (↑(without x.snd.snd (List.take x_1 y_1)).length : Int) ∧ True ∧ false = false ∧ false = false ∧ (↑x_1 : Int) = (↑x_1 : Int) ∧ True ∧ (↑y_1.length : Int) = (↑y_1.length : Int) ∧ y_1 = y_1 ∧ y_1 = y_1 ∧ true = true ∧ 
  false = false ∧ false = false ∧ false = false ∧ false = false ∧ y.fst = y.fst ∧ false = false ∧ (↑x.fst : Int) = (↑x.fst : Int) ∧ True ∧ true = true ∧ (↑x.fst : Int) = (↑x.fst : Int) ∧ (↑sc.length : Int) = (↑sc.length 
  : Int) ∧ sc = sc ∧ True ∧ false = false ∧ sc = sc ∧ True) ∧ (KR.cust = KR.cust ∧ (last x.snd.fst, delAll (tks x.snd.fst) y_1, als x.snd.fst) = (last x.snd.fst, delAll (tks x.snd.fst) y_1, als x.snd.fst)) ∧ without 
  x.snd.snd (List.take x_1 y_1) = without x.snd.snd (List.take x_1 y_1) ∧ (y.fst = y.fst ∧ y.snd.fst = y.snd.fst ∧ y.snd.snd.fst = y.snd.snd.fst ∧ y.snd.snd.snd.fst = y.snd.snd.snd.fst ∧ y.snd.snd.snd.snd = 
  y.snd.snd.snd.snd ∧ True) ∧ True)) ∧ True) ∧ ((!(lookL (tks (last x.snd.fst, delAll (tks x.snd.fst) y_1, als x.snd.fst)) y_3).isSome) = !false → false = true ∧ True)) ∧ True) ∧ (decide ((↑x_2 : Int) < (↑(without 
  x.snd.snd (List.take x_1 y_1)).length : Int)) = false → ∃ (x' : Nat × Rm × List Int), ((x'.fst ≤ sc.length ∧ x'.fst ≤ (200 : Nat)) ∧ Wait1 x'.snd.fst x'.fst ∧ x'.snd.snd = allW x'.snd.fst) ∧ sc.length - x'.fst < 
  sc.length - x.fst ∧ (True ∧ True) ∧ (IntKind.i64.wrap ((↑x.fst : Int) + (1 : Int)) = (↑x'.fst : Int) ∧ True ∧ (↑sc.length : Int) = (↑sc.length : Int) ∧ sc = sc ∧ True ∧ false = false ∧ sc = sc ∧ True) ∧ (KR.cust = 
  KR.cust ∧ (last x.snd.fst, delAll (tks x.snd.fst) y_1, als x.snd.fst) = x'.snd.fst) ∧ without x.snd.snd (List.take x_1 y_1) = x'.snd.snd ∧ True))) ∧ True)) ∧ True) ∧ ((y.fst == (5 : Int)) = false → ((y.fst == (6 : 
  Int)) = true → True ∧ (True ∧ y.snd.fst = y.snd.fst ∧ True) ∧ ((KR.cust = KR.cust ∧ x.snd.fst = forgetC.inn (x.snd.fst, y.snd.fst)) ∧ True) ∧ (∀ (y_1 : Unit), True → ((lookL (tks x.snd.fst) y.snd.fst).isSome = true → 
  [y.snd.fst].length ≤ maxLen → ∃ (x0 : Nat), x0.le [y.snd.fst].length ∧ ((True ∧ True) ∧ ((0 : Int) = (↑x0 : Int) ∧ True ∧ (↑[y.snd.fst].length : Int) = (↑[y.snd.fst].length : Int) ∧ True ∧ True ∧ true = true ∧ true = 
  true ∧ false = false ∧ false = false ∧ false = false ∧ false = false ∧ false = false ∧ y.fst = y.fst ∧ false = false ∧ (↑x.fst : Int) = (↑x.fst : Int) ∧ True ∧ true = true ∧ (↑x.fst : Int) = (↑x.fst : Int) ∧ 
  (↑sc.length : Int) = (↑sc.length : Int) ∧ sc = sc ∧ True ∧ false = false ∧ sc = sc ∧ True) ∧ (KR.cust = KR.cust ∧ forgetR x.snd.fst y.snd.fst = forgetR x.snd.fst y.snd.fst) ∧ x.snd.snd = without x.snd.snd (List.take x0 
  [y.snd.fst]) ∧ (y.fst = y.fst ∧ y.snd.fst = y.snd.fst ∧ y.snd.snd.fst = y.snd.snd.fst ∧ y.snd.snd.snd.fst = y.snd.snd.snd.fst ∧ y.snd.snd.snd.snd = y.snd.snd.snd.snd ∧ True) ∧ [y.snd.fst] = [y.snd.fst] ∧ True) ∧ ∀ (x_1 
  : Nat), x_1.le [y.snd.fst].length → (decide ((↑x_1 : Int) < (↑[y.snd.fst].length : Int)) = true → ((0 : Int) ≤ (↑x_1 : Int) ∧ (↑x_1 : Int) < (↑[y.snd.fst].length : Int)) ∧ (↑x_1 : Int).toNat < [y.snd.fst].length ∧ ∀ 
  (y_2 : Int), [y.snd.fst][(↑x_1 : Int).toNat]? = some y_2 → true = true ∧ ((!inL (without x.snd.snd (List.take x_1 [y.snd.fst])) y_2) = true → false = true ∧ True) ∧ ((!inL (without x.snd.snd (List.take x_1 
  [y.snd.fst])) y_2) = false → (without x.snd.snd (List.take x_1 [y.snd.fst])).length ≤ maxLen → ∃ (x0 : Nat), x0.le (without x.snd.snd (List.take x_1 [y.snd.fst])).length ∧ ((True ∧ True) ∧ ((0 : Int) = (↑x0 : Int) ∧ 
  True ∧ (↑(without x.snd.snd (List.take x_1 [y.snd.fst])).length : Int) = (↑(without x.snd.snd (List.take x_1 [y.snd.fst])).length : Int) ∧ True ∧ false = false ∧ y_2 = y_2 ∧ true = true ∧ (↑x_1 : Int) = (↑x_1 : Int) ∧ 
  True ∧ (↑[y.snd.fst].length : Int) = (↑[y.snd.fst].length : Int) ∧ True ∧ True ∧ true = true ∧ true = true ∧ false = false ∧ false = false ∧ false = false ∧ false = false ∧ false = false ∧ y.fst = y.fst ∧ false = false 
  ∧ (↑x.fst : Int) = (↑x.fst : Int) ∧ True ∧ true = true ∧ (↑x.fst : Int) = (↑x.fst : Int) ∧ (↑sc.length : Int) = (↑sc.length : Int) ∧ sc = sc ∧ True ∧ false = false ∧ sc = sc ∧ True) ∧ (KR.cust = KR.cust ∧ forgetR 
  x.snd.fst y.snd.fst = forgetR x.snd.fst y.snd.fst) ∧ without x.snd.snd (List.take x_1 [y.snd.fst]) = without x.snd.snd (List.take x_1 [y.snd.fst]) ∧ (y.fst = y.fst ∧ y.snd.fst = y.snd.fst ∧ y.snd.snd.fst = 
  y.snd.snd.fst ∧ y.snd.snd.snd.fst = y.snd.snd.snd.fst ∧ y.snd.snd.snd.snd = y.snd.snd.snd.snd ∧ True) ∧ [y.snd.fst] = [y.snd.fst] ∧ [] = List.filter (fun (x : Int) => x != y_2) (List.take x0 (without x.snd.snd 
  (List.take x_1 [y.snd.fst]))) ∧ True) ∧ ∀ (x_2 : Nat), x_2.le (without x.snd.snd (List.take x_1 [y.snd.fst])).length → (decide ((↑x_2 : Int) < (↑(without x.snd.snd (List.take x_1 [y.snd.fst])).length : Int)) = true → 
  ((0 : Int) ≤ (↑x_2 : Int) ∧ (↑x_2 : Int) < (↑(without x.snd.snd (List.take x_1 [y.snd.fst])).length : Int)) ∧ (↑x_2 : Int).toNat < (without x.snd.snd (List.take x_1 [y.snd.fst])).length ∧ ∀ (y_3 : Int), (without 
  x.snd.snd (List.take x_1 [y.snd.fst]))[(↑x_2 : Int).toNat]? = some y_3 → ((y_3 != y_2) = true → ((List.filter (fun (x : Int) => x != y_2) (List.take x_2 (without x.snd.snd (List.take x_1 [y.snd.fst])))).length + 
  [y_3].length) * (8 : Nat) ≤ (140737488355328 : Nat) ∧ ∃ (x' : Nat), x'.le (without x.snd.snd (List.take x_1 [y.snd.fst])).length ∧ (without x.snd.snd (List.take x_1 [y.snd.fst])).length - x' < (without x.snd.snd 
  (List.take x_1 [y.snd.fst])).length - x_2 ∧ (True ∧ True) ∧ (IntKind.i64.wrap ((↑x_2 : Int) + (1 : Int)) = (↑x' : Int) ∧ True ∧ (↑(without x.snd.snd (List.take x_1 [y.snd.fst])).length : Int) = (↑(without x.snd.snd 
  (List.take x_1 [y.snd.fst])).length : Int) ∧ True ∧ false = false ∧ y_2 = y_2 ∧ true = true ∧ (↑x_1 : Int) = (↑x_1 : Int) ∧ True ∧ (↑[y.snd.fst].length : Int) = (↑[y.snd.fst].length : Int) ∧ True ∧ True ∧ true = true ∧ 
  true = true ∧ false = false ∧ false = false ∧ false = false ∧ false = false ∧ false = false ∧ y.fst = y.fst ∧ false = false ∧ (↑x.fst : Int) = (↑x.fst : Int) ∧ True ∧ true = true ∧ (↑x.fst : Int) = (↑x.fst : Int) ∧ 
  (↑sc.length : Int) = (↑sc.length : Int) ∧ sc = sc ∧ True ∧ false = false ∧ sc = sc ∧ True) ∧ (KR.cust = KR.cust ∧ forgetR x.snd.fst y.snd.fst = forgetR x.snd.fst y.snd.fst) ∧ without x.snd.snd (List.take x_1 
  [y.snd.fst]) = without x.snd.snd (List.take x_1 [y.snd.fst]) ∧ (y.fst = y.fst ∧ y.snd.fst = y.snd.fst ∧ y.snd.snd.fst = y.snd.snd.fst ∧ y.snd.snd.snd.fst = y.snd.snd.snd.fst ∧ y.snd.snd.snd.snd = y.snd.snd.snd.snd ∧ 
  True) ∧ [y.snd.fst] = [y.snd.fst] ∧ List.filter (fun (x : Int) => x != y_2) (List.take x_2 (without x.snd.snd (List.take x_1 [y.snd.fst]))) ++ [y_3] = List.filter (fun (x : Int) => x != y_2) (List.take x' (without 
  x.snd.snd (List.take x_1 [y.snd.fst]))) ∧ True) ∧ ((y_3 != y_2) = false → ∃ (x' : Nat), x'.le (without x.snd.snd (List.take x_1 [y.snd.fst])).length ∧ (without x.snd.snd (List.take x_1 [y.snd.fst])).length - x' < 
  (without x.snd.snd (List.take x_1 [y.snd.fst])).length - x_2 ∧ (True ∧ True) ∧ (IntKind.i64.wrap ((↑x_2 : Int) + (1 : Int)) = (↑x' : Int) ∧ True ∧ (↑(without x.snd.snd (List.take x_1 [y.snd.fst])).length : Int) = 
  (↑(without x.snd.snd (List.take x_1 [y.snd.fst])).length : Int) ∧ True ∧ false = false ∧ y_2 = y_2 ∧ true = true ∧ (↑x_1 : Int) = (↑x_1 : Int) ∧ True ∧ (↑[y.snd.fst].length : Int) = (↑[y.snd.fst].length : Int) ∧ True ∧ 
  True ∧ true = true ∧ true = true ∧ false = false ∧ false = false ∧ false = false ∧ false = false ∧ false = false ∧ y.fst = y.fst ∧ false = false ∧ (↑x.fst : Int) = (↑x.fst : Int) ∧ True ∧ true = true ∧ (↑x.fst : Int) = 
  (↑x.fst : Int) ∧ (↑sc.length : Int) = (↑sc.length : Int) ∧ sc = sc ∧ True ∧ false = false ∧ sc = sc ∧ True) ∧ (KR.cust = KR.cust ∧ forgetR x.snd.fst y.snd.fst = forgetR x.snd.fst y.snd.fst) ∧ without x.snd.snd 
  (List.take x_1 [y.snd.fst]) = without x.snd.snd (List.take x_1 [y.snd.fst]) ∧ (y.fst = y.fst ∧ y.snd.fst = y.snd.fst ∧ y.snd.snd.fst = y.snd.snd.fst ∧ y.snd.snd.snd.fst = y.snd.snd.snd.fst ∧ y.snd.snd.snd.snd = 
  y.snd.snd.snd.snd ∧ True) ∧ [y.snd.fst] = [y.snd.fst] ∧ List.filter (fun (x : Int) => x != y_2) (List.take x_2 (without x.snd.snd (List.take x_1 [y.snd.fst]))) = List.filter (fun (x : Int) => x != y_2) (List.take x' 
  (without x.snd.snd (List.take x_1 [y.snd.fst]))) ∧ True)) ∧ (decide ((↑x_2 : Int) < (↑(without x.snd.snd (List.take x_1 [y.snd.fst])).length : Int)) = false → ∃ (x' : Nat), x'.le [y.snd.fst].length ∧ [y.snd.fst].length 
  - x' < [y.snd.fst].length - x_1 ∧ (True ∧ True) ∧ (IntKind.i64.wrap ((↑x_1 : Int) + (1 : Int)) = (↑x' : Int) ∧ True ∧ (↑[y.snd.fst].length : Int) = (↑[y.snd.fst].length : Int) ∧ True ∧ True ∧ true = true ∧ true = true 
  ∧ false = false ∧ false = false ∧ false = false ∧ false = false ∧ false = false ∧ y.fst = y.fst ∧ false = false ∧ (↑x.fst : Int) = (↑x.fst : Int) ∧ True ∧ true = true ∧ (↑x.fst : Int) = (↑x.fst : Int) ∧ (↑sc.length : 
  Int) = (↑sc.length : Int) ∧ sc = sc ∧ True ∧ false = false ∧ sc = sc ∧ True) ∧ (KR.cust = KR.cust ∧ forgetR x.snd.fst y.snd.fst = forgetR x.snd.fst y.snd.fst) ∧ List.filter (fun (x : Int) => x != y_2) (List.take x_2 
  (without x.snd.snd (List.take x_1 [y.snd.fst]))) = without x.snd.snd (List.take x' [y.snd.fst]) ∧ (y.fst = y.fst ∧ y.snd.fst = y.snd.fst ∧ y.snd.snd.fst = y.snd.snd.fst ∧ y.snd.snd.snd.fst = y.snd.snd.snd.fst ∧ 
  y.snd.snd.snd.snd = y.snd.snd.snd.snd ∧ True) ∧ [y.snd.fst] = [y.snd.fst] ∧ True))) ∧ (decide ((↑x_1 : Int) < (↑[y.snd.fst].length : Int)) = false → True ∧ (True ∧ True) ∧ ((KR.cust = KR.cust ∧ forgetR x.snd.fst 
  y.snd.fst = lenC.inn (forgetR x.snd.fst y.snd.fst)) ∧ True) ∧ (∀ (y_2 : Unit), True → (without x.snd.snd (List.take x_1 [y.snd.fst])).length ≤ maxLen → (((↑(tks (forgetR x.snd.fst y.snd.fst)).length : Int) != 
  (↑(without x.snd.snd (List.take x_1 [y.snd.fst])).length : Int)) = true → false = true ∧ True) ∧ (((↑(tks (forgetR x.snd.fst y.snd.fst)).length : Int) != (↑(without x.snd.snd (List.take x_1 [y.snd.fst])).length : Int)) 
  = false → (without x.snd.snd (List.take x_1 [y.snd.fst])).length ≤ maxLen → ∃ (x0 : Nat), x0.le (without x.snd.snd (List.take x_1 [y.snd.fst])).length ∧ ((True ∧ True) ∧ ((0 : Int) = (↑x0 : Int) ∧ (↑(without x.snd.snd 
  (List.take x_1 [y.snd.fst])).length : Int) = (↑(without x.snd.snd (List.take x_1 [y.snd.fst])).length : Int) ∧ True ∧ false = false ∧ false = false ∧ (↑x_1 : Int) = (↑x_1 : Int) ∧ True ∧ (↑[y.snd.fst].length : Int) = 
  (↑[y.snd.fst].length : Int) ∧ True ∧ True ∧ true = true ∧ true = true ∧ false = false ∧ false = false ∧ false = false ∧ false = false ∧ false = false ∧ y.fst = y.fst ∧ false = false ∧ (↑x.fst : Int) = (↑x.fst : Int) ∧ 
  True ∧ true = true ∧ (↑x.fst : Int) = (↑x.fst : Int) ∧ (↑sc.length : Int) = (↑sc.length : Int) ∧ sc = sc ∧ True ∧ false = false ∧ sc = sc ∧ True) ∧ (KR.cust = KR.cust ∧ forgetR x.snd.fst y.snd.fst = forgetR x.snd.fst 
  y.snd.fst) ∧ without x.snd.snd (List.take x_1 [y.snd.fst]) = without x.snd.snd (List.take x_1 [y.snd.fst]) ∧ (y.fst = y.fst ∧ y.snd.fst = y.snd.fst ∧ y.snd.snd.fst = y.snd.snd.fst ∧ y.snd.snd.snd.fst = 
  y.snd.snd.snd.fst ∧ y.snd.snd.snd.snd = y.snd.snd.snd.snd ∧ True) ∧ [y.snd.fst] = [y.snd.fst] ∧ True) ∧ ∀ (x_2 : Nat), x_2.le (without x.snd.snd (List.take x_1 [y.snd.fst])).length → (decide ((↑x_2 : Int) < (↑(without 
  x.snd.snd (List.take x_1 [y.snd.fst])).length : Int)) = true → ((0 : Int) ≤ (↑x_2 : Int) ∧ (↑x_2 : Int) < (↑(without x.snd.snd (List.take x_1 [y.snd.fst])).length : Int)) ∧ (↑x_2 : Int).toNat < (without x.snd.snd 
  (List.take x_1 [y.snd.fst])).length ∧ ∀ (y_3 : Int), (without x.snd.snd (List.take x_1 [y.snd.fst]))[(↑x_2 : Int).toNat]? = some y_3 → True ∧ (True ∧ y_3 = y_3 ∧ True) ∧ ((KR.cust = KR.cust ∧ forgetR x.snd.fst 
  y.snd.fst = whereC.inn (forgetR x.snd.fst y.snd.fst, y_3)) ∧ True) ∧ (∀ (y_4 : Unit), True → ((!(lookL (tks (forgetR x.snd.fst y.snd.fst)) y_3).isSome) = false → (tks (forgetR x.snd.fst y.snd.fst)).length.le 
  (1000000000000 : Nat) ∧ (True ∧ (placeOf (forgetR x.snd.fst y.snd.fst) y_3).fst = (placeOf (forgetR x.snd.fst y.snd.fst) y_3).fst ∧ (placeOf (forgetR x.snd.fst y.snd.fst) y_3).snd = (placeOf (forgetR x.snd.fst 
  y.snd.fst) y_3).snd ∧ True) ∧ ((KR.cust = KR.cust ∧ forgetR x.snd.fst y.snd.fst = listC.inn (forgetR x.snd.fst y.snd.fst, (placeOf (forgetR x.snd.fst y.snd.fst) y_3).fst, (placeOf (forgetR x.snd.fst y.snd.fst) 
  y_3).snd)) ∧ True) ∧ (∀ (y_5 : List Int), Row (tks (forgetR x.snd.fst y.snd.fst)) (keysAt (tks (forgetR x.snd.fst y.snd.fst)) (atP (placeOf (forgetR x.snd.fst y.snd.fst) y_3).fst (placeOf (forgetR x.snd.fst y.snd.fst) 
  y_3).snd)) y_5 → true = true ∧ ((!inL y_5 y_3) = true → false = true ∧ True) ∧ ((!inL y_5 y_3) = false → ∃ (x' : Nat), x'.le (without x.snd.snd (List.take x_1 [y.snd.fst])).length ∧ (without x.snd.snd (List.take x_1 
  [y.snd.fst])).length - x' < (without x.snd.snd (List.take x_1 [y.snd.fst])).length - x_2 ∧ (True ∧ True) ∧ (IntKind.i64.wrap ((↑x_2 : Int) + (1 : Int)) = (↑x' : Int) ∧ (↑(without x.snd.snd (List.take x_1 
  [y.snd.fst])).length : Int) = (↑(without x.snd.snd (List.take x_1 [y.snd.fst])).length : Int) ∧ True ∧ false = false ∧ false = false ∧ (↑x_1 : Int) = (↑x_1 : Int) ∧ True ∧ (↑[y.snd.fst].length : Int) = 
  (↑[y.snd.fst].length : Int) ∧ True ∧ True ∧ true = true ∧ true = true ∧ false = false ∧ false = false ∧ false = false ∧ false = false ∧ false = false ∧ y.fst = y.fst ∧ false = false ∧ (↑x.fst : Int) = (↑x.fst : Int) ∧ 
  True ∧ true = true ∧ (↑x.fst : Int) = (↑x.fst : Int) ∧ (↑sc.length : Int) = (↑sc.length : Int) ∧ sc = sc ∧ True ∧ false = false ∧ sc = sc ∧ True) ∧ (KR.cust = KR.cust ∧ forgetR x.snd.fst y.snd.fst = forgetR x.snd.fst 
  y.snd.fst) ∧ without x.snd.snd (List.take x_1 [y.snd.fst]) = without x.snd.snd (List.take x_1 [y.snd.fst]) ∧ (y.fst = y.fst ∧ y.snd.fst = y.snd.fst ∧ y.snd.snd.fst = y.snd.snd.fst ∧ y.snd.snd.snd.fst = 
  y.snd.snd.snd.fst ∧ y.snd.snd.snd.snd = y.snd.snd.snd.snd ∧ True) ∧ [y.snd.fst] = [y.snd.fst] ∧ True)) ∧ True) ∧ ((!(lookL (tks (forgetR x.snd.fst y.snd.fst)) y_3).isSome) = !false → false = true ∧ True)) ∧ True) ∧ 
  (decide ((↑x_2 : Int) < (↑(without x.snd.snd (List.take x_1 [y.snd.fst])).length : Int)) = false → ∃ (x' : Nat × Rm × List Int), ((x'.fst ≤ sc.length ∧ x'.fst ≤ (200 : Nat)) ∧ Wait1 x'.snd.fst x'.fst ∧ x'.snd.snd = 
  allW x'.snd.fst) ∧ sc.length - x'.fst < sc.length - x.fst ∧ (True ∧ True) ∧ (IntKind.i64.wrap ((↑x.fst : Int) + (1 : Int)) = (↑x'.fst : Int) ∧ True ∧ (↑sc.length : Int) = (↑sc.length : Int) ∧ sc = sc ∧ True ∧ false = 
  false ∧ sc = sc ∧ True) ∧ (KR.cust = KR.cust ∧ forgetR x.snd.fst y.snd.fst = x'.snd.fst) ∧ without x.snd.snd (List.take x_1 [y.snd.fst]) = x'.snd.snd ∧ True))) ∧ True)) ∧ ((lookL (tks x.snd.fst) y.snd.fst).isSome = 
  false → ∃ (x0 : Nat), x0.le (0 : Nat) ∧ ((True ∧ True) ∧ ((0 : Int) = (↑x0 : Int) ∧ True ∧ True ∧ (0 : Int) = (0 : Int) ∧ false = false ∧ true = true ∧ false = false ∧ false = false ∧ false = false ∧ false = false ∧ 
  false = false ∧ y.fst = y.fst ∧ SV.val (Value.slice none (0 : Nat) (0 : Nat)) = SV.val (Value.slice none (0 : Nat) (0 : Nat)) ∧ false = false ∧ (↑x.fst : Int) = (↑x.fst : Int) ∧ True ∧ true = true ∧ (↑x.fst : Int) = 
  (↑x.fst : Int) ∧ (↑sc.length : Int) = (↑sc.length : Int) ∧ sc = sc ∧ True ∧ false = false ∧ sc = sc ∧ True) ∧ (KR.cust = KR.cust ∧ forgetR x.snd.fst y.snd.fst = forgetR x.snd.fst y.snd.fst) ∧ x.snd.snd = without 
  x.snd.snd (List.take x0 []) ∧ (y.fst = y.fst ∧ y.snd.fst = y.snd.fst ∧ y.snd.snd.fst = y.snd.snd.fst ∧ y.snd.snd.snd.fst = y.snd.snd.snd.fst ∧ y.snd.snd.snd.snd = y.snd.snd.snd.snd ∧ True) ∧ ([] : List Int) = [] ∧ 
  True) ∧ ∀ (x_1 : Nat), x_1.le (0 : Nat) → (decide ((↑x_1 : Int) < (0 : Int)) = true → ((0 : Int) ≤ (↑x_1 : Int) ∧ (↑x_1 : Int) < (↑(0 : Nat) : Int)) ∧ (↑x_1 : Int).toNat < (0 : Nat) ∧ ∀ (y_2 : Int), ([] : List 
  Int)[(↑x_1 : Int).toNat]? = some y_2 → true = true ∧ ((!inL (without x.snd.snd (List.take x_1 [])) y_2) = true → false = true ∧ True) ∧ ((!inL (without x.snd.snd (List.take x_1 [])) y_2) = false → (without x.snd.snd 
  (List.take x_1 [])).length ≤ maxLen → ∃ (x0 : Nat), x0.le (without x.snd.snd (List.take x_1 [])).length ∧ ((True ∧ True) ∧ ((0 : Int) = (↑x0 : Int) ∧ True ∧ (↑(without x.snd.snd (List.take x_1 [])).length : Int) = 
  (↑(without x.snd.snd (List.take x_1 [])).length : Int) ∧ True ∧ false = false ∧ y_2 = y_2 ∧ true = true ∧ (↑x_1 : Int) = (↑x_1 : Int) ∧ True ∧ True ∧ (0 : Int) = (0 : Int) ∧ false = false ∧ true = true ∧ false = false 
  ∧ false = false ∧ false = false ∧ false = false ∧ false = false ∧ y.fst = y.fst ∧ SV.val (Value.slice none (0 : Nat) (0 : Nat)) = SV.val (Value.slice none (0 : Nat) (0 : Nat)) ∧ false = false ∧ (↑x.fst : Int) = (↑x.fst 
  : Int) ∧ True ∧ true = true ∧ (↑x.fst : Int) = (↑x.fst : Int) ∧ (↑sc.length : Int) = (↑sc.length : Int) ∧ sc = sc ∧ True ∧ false = false ∧ sc = sc ∧ True) ∧ (KR.cust = KR.cust ∧ forgetR x.snd.fst y.snd.fst = forgetR 
  x.snd.fst y.snd.fst) ∧ without x.snd.snd (List.take x_1 []) = without x.snd.snd (List.take x_1 []) ∧ (y.fst = y.fst ∧ y.snd.fst = y.snd.fst ∧ y.snd.snd.fst = y.snd.snd.fst ∧ y.snd.snd.snd.fst = y.snd.snd.snd.fst ∧ 
  y.snd.snd.snd.snd = y.snd.snd.snd.snd ∧ True) ∧ ([] : List Int) = [] ∧ [] = List.filter (fun (x : Int) => x != y_2) (List.take x0 (without x.snd.snd (List.take x_1 []))) ∧ True) ∧ ∀ (x_2 : Nat), x_2.le (without 
  x.snd.snd (List.take x_1 [])).length → (decide ((↑x_2 : Int) < (↑(without x.snd.snd (List.take x_1 [])).length : Int)) = true → ((0 : Int) ≤ (↑x_2 : Int) ∧ (↑x_2 : Int) < (↑(without x.snd.snd (List.take x_1 [])).length 
  : Int)) ∧ (↑x_2 : Int).toNat < (without x.snd.snd (List.take x_1 [])).length ∧ ∀ (y_3 : Int), (without x.snd.snd (List.take x_1 []))[(↑x_2 : Int).toNat]? = some y_3 → ((y_3 != y_2) = true → ((List.filter (fun (x : Int) 
  => x != y_2) (List.take x_2 (without x.snd.snd (List.take x_1 [])))).length + [y_3].length) * (8 : Nat) ≤ (140737488355328 : Nat) ∧ ∃ (x' : Nat), x'.le (without x.snd.snd (List.take x_1 [])).length ∧ (without x.snd.snd 
  (List.take x_1 [])).length - x' < (without x.snd.snd (List.take x_1 [])).length - x_2 ∧ (True ∧ True) ∧ (IntKind.i64.wrap ((↑x_2 : Int) + (1 : Int)) = (↑x' : Int) ∧ True ∧ (↑(without x.snd.snd (List.take x_1 
  [])).length : Int) = (↑(without x.snd.snd (List.take x_1 [])).length : Int) ∧ True ∧ false = false ∧ y_2 = y_2 ∧ true = true ∧ (↑x_1 : Int) = (↑x_1 : Int) ∧ True ∧ True ∧ (0 : Int) = (0 : Int) ∧ false = false ∧ true = 
  true ∧ false = false ∧ false = false ∧ false = false ∧ false = false ∧ false = false ∧ y.fst = y.fst ∧ SV.val (Value.slice none (0 : Nat) (0 : Nat)) = SV.val (Value.slice none (0 : Nat) (0 : Nat)) ∧ false = false ∧ 
  (↑x.fst : Int) = (↑x.fst : Int) ∧ True ∧ true = true ∧ (↑x.fst : Int) = (↑x.fst : Int) ∧ (↑sc.length : Int) = (↑sc.length : Int) ∧ sc = sc ∧ True ∧ false = false ∧ sc = sc ∧ True) ∧ (KR.cust = KR.cust ∧ forgetR 
  x.snd.fst y.snd.fst = forgetR x.snd.fst y.snd.fst) ∧ without x.snd.snd (List.take x_1 []) = without x.snd.snd (List.take x_1 []) ∧ (y.fst = y.fst ∧ y.snd.fst = y.snd.fst ∧ y.snd.snd.fst = y.snd.snd.fst ∧ 
  y.snd.snd.snd.fst = y.snd.snd.snd.fst ∧ y.snd.snd.snd.snd = y.snd.snd.snd.snd ∧ True) ∧ ([] : List Int) = [] ∧ List.filter (fun (x : Int) => x != y_2) (List.take x_2 (without x.snd.snd (List.take x_1 []))) ++ [y_3] = 
  List.filter (fun (x : Int) => x != y_2) (List.take x' (without x.snd.snd (List.take x_1 []))) ∧ True) ∧ ((y_3 != y_2) = false → ∃ (x' : Nat), x'.le (without x.snd.snd (List.take x_1 [])).length ∧ (without x.snd.snd 
  (List.take x_1 [])).length - x' < (without x.snd.snd (List.take x_1 [])).length - x_2 ∧ (True ∧ True) ∧ (IntKind.i64.wrap ((↑x_2 : Int) + (1 : Int)) = (↑x' : Int) ∧ True ∧ (↑(without x.snd.snd (List.take x_1 
  [])).length : Int) = (↑(without x.snd.snd (List.take x_1 [])).length : Int) ∧ True ∧ false = false ∧ y_2 = y_2 ∧ true = true ∧ (↑x_1 : Int) = (↑x_1 : Int) ∧ True ∧ True ∧ (0 : Int) = (0 : Int) ∧ false = false ∧ true = 
  true ∧ false = false ∧ false = false ∧ false = false ∧ false = false ∧ false = false ∧ y.fst = y.fst ∧ SV.val (Value.slice none (0 : Nat) (0 : Nat)) = SV.val (Value.slice none (0 : Nat) (0 : Nat)) ∧ false = false ∧ 
  (↑x.fst : Int) = (↑x.fst : Int) ∧ True ∧ true = true ∧ (↑x.fst : Int) = (↑x.fst : Int) ∧ (↑sc.length : Int) = (↑sc.length : Int) ∧ sc = sc ∧ True ∧ false = false ∧ sc = sc ∧ True) ∧ (KR.cust = KR.cust ∧ forgetR 
  x.snd.fst y.snd.fst = forgetR x.snd.fst y.snd.fst) ∧ without x.snd.snd (List.take x_1 []) = without x.snd.snd (List.take x_1 []) ∧ (y.fst = y.fst ∧ y.snd.fst = y.snd.fst ∧ y.snd.snd.fst = y.snd.snd.fst ∧ 
  y.snd.snd.snd.fst = y.snd.snd.snd.fst ∧ y.snd.snd.snd.snd = y.snd.snd.snd.snd ∧ True) ∧ ([] : List Int) = [] ∧ List.filter (fun (x : Int) => x != y_2) (List.take x_2 (without x.snd.snd (List.take x_1 []))) = 
  List.filter (fun (x : Int) => x != y_2) (List.take x' (without x.snd.snd (List.take x_1 []))) ∧ True)) ∧ (decide ((↑x_2 : Int) < (↑(without x.snd.snd (List.take x_1 [])).length : Int)) = false → ∃ (x' : Nat), x'.le (0 
  : Nat) ∧ (0 : Nat) - x' < (0 : Nat) - x_1 ∧ (True ∧ True) ∧ (IntKind.i64.wrap ((↑x_1 : Int) + (1 : Int)) = (↑x' : Int) ∧ True ∧ True ∧ (0 : Int) = (0 : Int) ∧ false = false ∧ true = true ∧ false = false ∧ false = false 
  ∧ false = false ∧ false = false ∧ false = false ∧ y.fst = y.fst ∧ SV.val (Value.slice none (0 : Nat) (0 : Nat)) = SV.val (Value.slice none (0 : Nat) (0 : Nat)) ∧ false = false ∧ (↑x.fst : Int) = (↑x.fst : Int) ∧ True ∧ 
  true = true ∧ (↑x.fst : Int) = (↑x.fst : Int) ∧ (↑sc.length : Int) = (↑sc.length : Int) ∧ sc = sc ∧ True ∧ false = false ∧ sc = sc ∧ True) ∧ (KR.cust = KR.cust ∧ forgetR x.snd.fst y.snd.fst = forgetR x.snd.fst 
  y.snd.fst) ∧ List.filter (fun (x : Int) => x != y_2) (List.take x_2 (without x.snd.snd (List.take x_1 []))) = without x.snd.snd (List.take x' []) ∧ (y.fst = y.fst ∧ y.snd.fst = y.snd.fst ∧ y.snd.snd.fst = y.snd.snd.fst 
  ∧ y.snd.snd.snd.fst = y.snd.snd.snd.fst ∧ y.snd.snd.snd.snd = y.snd.snd.snd.snd ∧ True) ∧ ([] : List Int) = [] ∧ True))) ∧ (decide ((↑x_1 : Int) < (0 : Int)) = false → True ∧ (True ∧ True) ∧ ((KR.cust = KR.cust ∧ 
  forgetR x.snd.fst y.snd.fst = lenC.inn (forgetR x.snd.fst y.snd.fst)) ∧ True) ∧ (∀ (y_2 : Unit), True → (without x.snd.snd (List.take x_1 [])).length ≤ maxLen → (((↑(tks (forgetR x.snd.fst y.snd.fst)).length : Int) != 
  (↑(without x.snd.snd (List.take x_1 [])).length : Int)) = true → false = true ∧ True) ∧ (((↑(tks (forgetR x.snd.fst y.snd.fst)).length : Int) != (↑(without x.snd.snd (List.take x_1 [])).length : Int)) = false → 
  (without x.snd.snd (List.take x_1 [])).length ≤ maxLen → ∃ (x0 : Nat), x0.le (without x.snd.snd (List.take x_1 [])).length ∧ ((True ∧ True) ∧ ((0 : Int) = (↑x0 : Int) ∧ (↑(without x.snd.snd (List.take x_1 [])).length : 
  Int) = (↑(without x.snd.snd (List.take x_1 [])).length : Int) ∧ True ∧ false = false ∧ false = false ∧ (↑x_1 : Int) = (↑x_1 : Int) ∧ True ∧ True ∧ (0 : Int) = (0 : Int) ∧ false = false ∧ true = true ∧ false = false ∧ 
  false = false ∧ false = false ∧ false = false ∧ false = false ∧ y.fst = y.fst ∧ SV.val (Value.slice none (0 : Nat) (0 : Nat)) = SV.val (Value.slice none (0 : Nat) (0 : Nat)) ∧ false = false ∧ (↑x.fst : Int) = (↑x.fst : 
  Int) ∧ True ∧ true = true ∧ (↑x.fst : Int) = (↑x.fst : Int) ∧ (↑sc.length : Int) = (↑sc.length : Int) ∧ sc = sc ∧ True ∧ false = false ∧ sc = sc ∧ True) ∧ (KR.cust = KR.cust ∧ forgetR x.snd.fst y.snd.fst = forgetR 
  x.snd.fst y.snd.fst) ∧ without x.snd.snd (List.take x_1 []) = without x.snd.snd (List.take x_1 []) ∧ (y.fst = y.fst ∧ y.snd.fst = y.snd.fst ∧ y.snd.snd.fst = y.snd.snd.fst ∧ y.snd.snd.snd.fst = y.snd.snd.snd.fst ∧ 
  y.snd.snd.snd.snd = y.snd.snd.snd.snd ∧ True) ∧ ([] : List Int) = [] ∧ True) ∧ ∀ (x_2 : Nat), x_2.le (without x.snd.snd (List.take x_1 [])).length → (decide ((↑x_2 : Int) < (↑(without x.snd.snd (List.take x_1 
  [])).length : Int)) = true → ((0 : Int) ≤ (↑x_2 : Int) ∧ (↑x_2 : Int) < (↑(without x.snd.snd (List.take x_1 [])).length : Int)) ∧ (↑x_2 : Int).toNat < (without x.snd.snd (List.take x_1 [])).length ∧ ∀ (y_3 : Int), 
  (without x.snd.snd (List.take x_1 []))[(↑x_2 : Int).toNat]? = some y_3 → True ∧ (True ∧ y_3 = y_3 ∧ True) ∧ ((KR.cust = KR.cust ∧ forgetR x.snd.fst y.snd.fst = whereC.inn (forgetR x.snd.fst y.snd.fst, y_3)) ∧ True) ∧ 
  (∀ (y_4 : Unit), True → ((!(lookL (tks (forgetR x.snd.fst y.snd.fst)) y_3).isSome) = false → (tks (forgetR x.snd.fst y.snd.fst)).length.le (1000000000000 : Nat) ∧ (True ∧ (placeOf (forgetR x.snd.fst y.snd.fst) y_3).fst 
  = (placeOf (forgetR x.snd.fst y.snd.fst) y_3).fst ∧ (placeOf (forgetR x.snd.fst y.snd.fst) y_3).snd = (placeOf (forgetR x.snd.fst y.snd.fst) y_3).snd ∧ True) ∧ ((KR.cust = KR.cust ∧ forgetR x.snd.fst y.snd.fst = 
  listC.inn (forgetR x.snd.fst y.snd.fst, (placeOf (forgetR x.snd.fst y.snd.fst) y_3).fst, (placeOf (forgetR x.snd.fst y.snd.fst) y_3).snd)) ∧ True) ∧ (∀ (y_5 : List Int), Row (tks (forgetR x.snd.fst y.snd.fst)) (keysAt 
  (tks (forgetR x.snd.fst y.snd.fst)) (atP (placeOf (forgetR x.snd.fst y.snd.fst) y_3).fst (placeOf (forgetR x.snd.fst y.snd.fst) y_3).snd)) y_5 → true = true ∧ ((!inL y_5 y_3) = true → false = true ∧ True) ∧ ((!inL y_5 
  y_3) = false → ∃ (x' : Nat), x'.le (without x.snd.snd (List.take x_1 [])).length ∧ (without x.snd.snd (List.take x_1 [])).length - x' < (without x.snd.snd (List.take x_1 [])).length - x_2 ∧ (True ∧ True) ∧ 
  (IntKind.i64.wrap ((↑x_2 : Int) + (1 : Int)) = (↑x' : Int) ∧ (↑(without x.snd.snd (List.take x_1 [])).length : Int) = (↑(without x.snd.snd (List.take x_1 [])).length : Int) ∧ True ∧ false = false ∧ false = false ∧ 
  (↑x_1 : Int) = (↑x_1 : Int) ∧ True ∧ True ∧ (0 : Int) = (0 : Int) ∧ false = false ∧ true = true ∧ false = false ∧ false = false ∧ false = false ∧ false = false ∧ false = false ∧ y.fst = y.fst ∧ SV.val (Value.slice none 
  (0 : Nat) (0 : Nat)) = SV.val (Value.slice none (0 : Nat) (0 : Nat)) ∧ false = false ∧ (↑x.fst : Int) = (↑x.fst : Int) ∧ True ∧ true = true ∧ (↑x.fst : Int) = (↑x.fst : Int) ∧ (↑sc.length : Int) = (↑sc.length : Int) ∧ 
  sc = sc ∧ True ∧ false = false ∧ sc = sc ∧ True) ∧ (KR.cust = KR.cust ∧ forgetR x.snd.fst y.snd.fst = forgetR x.snd.fst y.snd.fst) ∧ without x.snd.snd (List.take x_1 []) = without x.snd.snd (List.take x_1 []) ∧ (y.fst 
  = y.fst ∧ y.snd.fst = y.snd.fst ∧ y.snd.snd.fst = y.snd.snd.fst ∧ y.snd.snd.snd.fst = y.snd.snd.snd.fst ∧ y.snd.snd.snd.snd = y.snd.snd.snd.snd ∧ True) ∧ ([] : List Int) = [] ∧ True)) ∧ True) ∧ ((!(lookL (tks (forgetR 
  x.snd.fst y.snd.fst)) y_3).isSome) = !false → false = true ∧ True)) ∧ True) ∧ (decide ((↑x_2 : Int) < (↑(without x.snd.snd (List.take x_1 [])).length : Int)) = false → ∃ (x' : Nat × Rm × List Int), ((x'.fst ≤ sc.length 
  ∧ x'.fst ≤ (200 : Nat)) ∧ Wait1 x'.snd.fst x'.fst ∧ x'.snd.snd = allW x'.snd.fst) ∧ sc.length - x'.fst < sc.length - x.fst ∧ (True ∧ True) ∧ (IntKind.i64.wrap ((↑x.fst : Int) + (1 : Int)) = (↑x'.fst : Int) ∧ True ∧ 
  (↑sc.length : Int) = (↑sc.length : Int) ∧ sc = sc ∧ True ∧ false = false ∧ sc = sc ∧ True) ∧ (KR.cust = KR.cust ∧ forgetR x.snd.fst y.snd.fst = x'.snd.fst) ∧ without x.snd.snd (List.take x_1 []) = x'.snd.snd ∧ True))) 
  ∧ True))) ∧ True) ∧ ((y.fst == (6 : Int)) = false → ∃ (x0 : Nat), x0.le (0 : Nat) ∧ ((True ∧ True) ∧ ((0 : Int) = (↑x0 : Int) ∧ True ∧ True ∧ (0 : Int) = (0 : Int) ∧ false = false ∧ false = false ∧ false = false ∧ 
  false = false ∧ false = false ∧ false = false ∧ y.fst = y.fst ∧ SV.val (Value.slice none (0 : Nat) (0 : Nat)) = SV.val (Value.slice none (0 : Nat) (0 : Nat)) ∧ false = false ∧ (↑x.fst : Int) = (↑x.fst : Int) ∧ True ∧ 
  true = true ∧ (↑x.fst : Int) = (↑x.fst : Int) ∧ (↑sc.length : Int) = (↑sc.length : Int) ∧ sc = sc ∧ True ∧ false = false ∧ sc = sc ∧ True) ∧ (KR.cust = KR.cust ∧ x.snd.fst = x.snd.fst) ∧ x.snd.snd = without x.snd.snd 
  (List.take x0 []) ∧ (y.fst = y.fst ∧ y.snd.fst = y.snd.fst ∧ y.snd.snd.fst = y.snd.snd.fst ∧ y.snd.snd.snd.fst = y.snd.snd.snd.fst ∧ y.snd.snd.snd.snd = y.snd.snd.snd.snd ∧ True) ∧ ([] : List Int) = [] ∧ True) ∧ ∀ (x_1 
  : Nat), x_1.le (0 : Nat) → (decide ((↑x_1 : Int) < (0 : Int)) = true → ((0 : Int) ≤ (↑x_1 : Int) ∧ (↑x_1 : Int) < (↑(0 : Nat) : Int)) ∧ (↑x_1 : Int).toNat < (0 : Nat) ∧ ∀ (y_1 : Int), ([] : List Int)[(↑x_1 : 
  Int).toNat]? = some y_1 → true = true ∧ ((!inL (without x.snd.snd (List.take x_1 [])) y_1) = true → false = true ∧ True) ∧ ((!inL (without x.snd.snd (List.take x_1 [])) y_1) = false → (without x.snd.snd (List.take x_1 
  [])).length ≤ maxLen → ∃ (x0 : Nat), x0.le (without x.snd.snd (List.take x_1 [])).length ∧ ((True ∧ True) ∧ ((0 : Int) = (↑x0 : Int) ∧ True ∧ (↑(without x.snd.snd (List.take x_1 [])).length : Int) = (↑(without 
  x.snd.snd (List.take x_1 [])).length : Int) ∧ True ∧ false = false ∧ y_1 = y_1 ∧ true = true ∧ (↑x_1 : Int) = (↑x_1 : Int) ∧ True ∧ True ∧ (0 : Int) = (0 : Int) ∧ false = false ∧ false = false ∧ false = false ∧ false = 
  false ∧ false = false ∧ false = false ∧ y.fst = y.fst ∧ SV.val (Value.slice none (0 : Nat) (0 : Nat)) = SV.val (Value.slice none (0 : Nat) (0 : Nat)) ∧ false = false ∧ (↑x.fst : Int) = (↑x.fst : Int) ∧ True ∧ true = 
  true ∧ (↑x.fst : Int) = (↑x.fst : Int) ∧ (↑sc.length : Int) = (↑sc.length : Int) ∧ sc = sc ∧ True ∧ false = false ∧ sc = sc ∧ True) ∧ (KR.cust = KR.cust ∧ x.snd.fst = x.snd.fst) ∧ without x.snd.snd (List.take x_1 []) = 
  without x.snd.snd (List.take x_1 []) ∧ (y.fst = y.fst ∧ y.snd.fst = y.snd.fst ∧ y.snd.snd.fst = y.snd.snd.fst ∧ y.snd.snd.snd.fst = y.snd.snd.snd.fst ∧ y.snd.snd.snd.snd = y.snd.snd.snd.snd ∧ True) ∧ ([] : List Int) = 
  [] ∧ [] = List.filter (fun (x : Int) => x != y_1) (List.take x0 (without x.snd.snd (List.take x_1 []))) ∧ True) ∧ ∀ (x_2 : Nat), x_2.le (without x.snd.snd (List.take x_1 [])).length → (decide ((↑x_2 : Int) < (↑(without 
  x.snd.snd (List.take x_1 [])).length : Int)) = true → ((0 : Int) ≤ (↑x_2 : Int) ∧ (↑x_2 : Int) < (↑(without x.snd.snd (List.take x_1 [])).length : Int)) ∧ (↑x_2 : Int).toNat < (without x.snd.snd (List.take x_1 
  [])).length ∧ ∀ (y_2 : Int), (without x.snd.snd (List.take x_1 []))[(↑x_2 : Int).toNat]? = some y_2 → ((y_2 != y_1) = true → ((List.filter (fun (x : Int) => x != y_1) (List.take x_2 (without x.snd.snd (List.take x_1 
  [])))).length + [y_2].length) * (8 : Nat) ≤ (140737488355328 : Nat) ∧ ∃ (x' : Nat), x'.le (without x.snd.snd (List.take x_1 [])).length ∧ (without x.snd.snd (List.take x_1 [])).length - x' < (without x.snd.snd 
  (List.take x_1 [])).length - x_2 ∧ (True ∧ True) ∧ (IntKind.i64.wrap ((↑x_2 : Int) + (1 : Int)) = (↑x' : Int) ∧ True ∧ (↑(without x.snd.snd (List.take x_1 [])).length : Int) = (↑(without x.snd.snd (List.take x_1 
  [])).length : Int) ∧ True ∧ false = false ∧ y_1 = y_1 ∧ true = true ∧ (↑x_1 : Int) = (↑x_1 : Int) ∧ True ∧ True ∧ (0 : Int) = (0 : Int) ∧ false = false ∧ false = false ∧ false = false ∧ false = false ∧ false = false ∧ 
  false = false ∧ y.fst = y.fst ∧ SV.val (Value.slice none (0 : Nat) (0 : Nat)) = SV.val (Value.slice none (0 : Nat) (0 : Nat)) ∧ false = false ∧ (↑x.fst : Int) = (↑x.fst : Int) ∧ True ∧ true = true ∧ (↑x.fst : Int) = 
  (↑x.fst : Int) ∧ (↑sc.length : Int) = (↑sc.length : Int) ∧ sc = sc ∧ True ∧ false = false ∧ sc = sc ∧ True) ∧ (KR.cust = KR.cust ∧ x.snd.fst = x.snd.fst) ∧ without x.snd.snd (List.take x_1 []) = without x.snd.snd 
  (List.take x_1 []) ∧ (y.fst = y.fst ∧ y.snd.fst = y.snd.fst ∧ y.snd.snd.fst = y.snd.snd.fst ∧ y.snd.snd.snd.fst = y.snd.snd.snd.fst ∧ y.snd.snd.snd.snd = y.snd.snd.snd.snd ∧ True) ∧ ([] : List Int) = [] ∧ List.filter 
  (fun (x : Int) => x != y_1) (List.take x_2 (without x.snd.snd (List.take x_1 []))) ++ [y_2] = List.filter (fun (x : Int) => x != y_1) (List.take x' (without x.snd.snd (List.take x_1 []))) ∧ True) ∧ ((y_2 != y_1) = 
  false → ∃ (x' : Nat), x'.le (without x.snd.snd (List.take x_1 [])).length ∧ (without x.snd.snd (List.take x_1 [])).length - x' < (without x.snd.snd (List.take x_1 [])).length - x_2 ∧ (True ∧ True) ∧ (IntKind.i64.wrap 
  ((↑x_2 : Int) + (1 : Int)) = (↑x' : Int) ∧ True ∧ (↑(without x.snd.snd (List.take x_1 [])).length : Int) = (↑(without x.snd.snd (List.take x_1 [])).length : Int) ∧ True ∧ false = false ∧ y_1 = y_1 ∧ true = true ∧ (↑x_1 
  : Int) = (↑x_1 : Int) ∧ True ∧ True ∧ (0 : Int) = (0 : Int) ∧ false = false ∧ false = false ∧ false = false ∧ false = false ∧ false = false ∧ false = false ∧ y.fst = y.fst ∧ SV.val (Value.slice none (0 : Nat) (0 : 
  Nat)) = SV.val (Value.slice none (0 : Nat) (0 : Nat)) ∧ false = false ∧ (↑x.fst : Int) = (↑x.fst : Int) ∧ True ∧ true = true ∧ (↑x.fst : Int) = (↑x.fst : Int) ∧ (↑sc.length : Int) = (↑sc.length : Int) ∧ sc = sc ∧ True 
  ∧ false = false ∧ sc = sc ∧ True) ∧ (KR.cust = KR.cust ∧ x.snd.fst = x.snd.fst) ∧ without x.snd.snd (List.take x_1 []) = without x.snd.snd (List.take x_1 []) ∧ (y.fst = y.fst ∧ y.snd.fst = y.snd.fst ∧ y.snd.snd.fst = 
  y.snd.snd.fst ∧ y.snd.snd.snd.fst = y.snd.snd.snd.fst ∧ y.snd.snd.snd.snd = y.snd.snd.snd.snd ∧ True) ∧ ([] : List Int) = [] ∧ List.filter (fun (x : Int) => x != y_1) (List.take x_2 (without x.snd.snd (List.take x_1 
  []))) = List.filter (fun (x : Int) => x != y_1) (List.take x' (without x.snd.snd (List.take x_1 []))) ∧ True)) ∧ (decide ((↑x_2 : Int) < (↑(without x.snd.snd (List.take x_1 [])).length : Int)) = false → ∃ (x' : Nat), 
  x'.le (0 : Nat) ∧ (0 : Nat) - x' < (0 : Nat) - x_1 ∧ (True ∧ True) ∧ (IntKind.i64.wrap ((↑x_1 : Int) + (1 : Int)) = (↑x' : Int) ∧ True ∧ True ∧ (0 : Int) = (0 : Int) ∧ false = false ∧ false = false ∧ false = false ∧ 
  false = false ∧ false = false ∧ false = false ∧ y.fst = y.fst ∧ SV.val (Value.slice none (0 : Nat) (0 : Nat)) = SV.val (Value.slice none (0 : Nat) (0 : Nat)) ∧ false = false ∧ (↑x.fst : Int) = (↑x.fst : Int) ∧ True ∧ 
  true = true ∧ (↑x.fst : Int) = (↑x.fst : Int) ∧ (↑sc.length : Int) = (↑sc.length : Int) ∧ sc = sc ∧ True ∧ false = false ∧ sc = sc ∧ True) ∧ (KR.cust = KR.cust ∧ x.snd.fst = x.snd.fst) ∧ List.filter (fun (x : Int) => x 
  != y_1) (List.take x_2 (without x.snd.snd (List.take x_1 []))) = without x.snd.snd (List.take x' []) ∧ (y.fst = y.fst ∧ y.snd.fst = y.snd.fst ∧ y.snd.snd.fst = y.snd.snd.fst ∧ y.snd.snd.snd.fst = y.snd.snd.snd.fst ∧ 
  y.snd.snd.snd.snd = y.snd.snd.snd.snd ∧ True) ∧ ([] : List Int) = [] ∧ True))) ∧ (decide ((↑x_1 : Int) < (0 : Int)) = false → True ∧ (True ∧ True) ∧ ((KR.cust = KR.cust ∧ x.snd.fst = lenC.inn x.snd.fst) ∧ True) ∧ (∀ 
  (y_1 : Unit), True → (without x.snd.snd (List.take x_1 [])).length ≤ maxLen → (((↑(tks x.snd.fst).length : Int) != (↑(without x.snd.snd (List.take x_1 [])).length : Int)) = true → false = true ∧ True) ∧ (((↑(tks 
  x.snd.fst).length : Int) != (↑(without x.snd.snd (List.take x_1 [])).length : Int)) = false → (without x.snd.snd (List.take x_1 [])).length ≤ maxLen → ∃ (x0 : Nat), x0.le (without x.snd.snd (List.take x_1 [])).length ∧ 
  ((True ∧ True) ∧ ((0 : Int) = (↑x0 : Int) ∧ (↑(without x.snd.snd (List.take x_1 [])).length : Int) = (↑(without x.snd.snd (List.take x_1 [])).length : Int) ∧ True ∧ false = false ∧ false = false ∧ (↑x_1 : Int) = (↑x_1 
  : Int) ∧ True ∧ True ∧ (0 : Int) = (0 : Int) ∧ false = false ∧ false = false ∧ false = false ∧ false = false ∧ false = false ∧ false = false ∧ y.fst = y.fst ∧ SV.val (Value.slice none (0 : Nat) (0 : Nat)) = SV.val 
  (Value.slice none (0 : Nat) (0 : Nat)) ∧ false = false ∧ (↑x.fst : Int) = (↑x.fst : Int) ∧ True ∧ true = true ∧ (↑x.fst : Int) = (↑x.fst : Int) ∧ (↑sc.length : Int) = (↑sc.length : Int) ∧ sc = sc ∧ True ∧ false = false 
  ∧ sc = sc ∧ True) ∧ (KR.cust = KR.cust ∧ x.snd.fst = x.snd.fst) ∧ without x.snd.snd (List.take x_1 []) = without x.snd.snd (List.take x_1 []) ∧ (y.fst = y.fst ∧ y.snd.fst = y.snd.fst ∧ y.snd.snd.fst = y.snd.snd.fst ∧ 
  y.snd.snd.snd.fst = y.snd.snd.snd.fst ∧ y.snd.snd.snd.snd = y.snd.snd.snd.snd ∧ True) ∧ ([] : List Int) = [] ∧ True) ∧ ∀ (x_2 : Nat), x_2.le (without x.snd.snd (List.take x_1 [])).length → (decide ((↑x_2 : Int) < 
  (↑(without x.snd.snd (List.take x_1 [])).length : Int)) = true → ((0 : Int) ≤ (↑x_2 : Int) ∧ (↑x_2 : Int) < (↑(without x.snd.snd (List.take x_1 [])).length : Int)) ∧ (↑x_2 : Int).toNat < (without x.snd.snd (List.take 
  x_1 [])).length ∧ ∀ (y_2 : Int), (without x.snd.snd (List.take x_1 []))[(↑x_2 : Int).toNat]? = some y_2 → True ∧ (True ∧ y_2 = y_2 ∧ True) ∧ ((KR.cust = KR.cust ∧ x.snd.fst = whereC.inn (x.snd.fst, y_2)) ∧ True) ∧ (∀ 
  (y_3 : Unit), True → ((!(lookL (tks x.snd.fst) y_2).isSome) = false → (tks x.snd.fst).length.le (1000000000000 : Nat) ∧ (True ∧ (placeOf x.snd.fst y_2).fst = (placeOf x.snd.fst y_2).fst ∧ (placeOf x.snd.fst y_2).snd = 
  (placeOf x.snd.fst y_2).snd ∧ True) ∧ ((KR.cust = KR.cust ∧ x.snd.fst = listC.inn (x.snd.fst, (placeOf x.snd.fst y_2).fst, (placeOf x.snd.fst y_2).snd)) ∧ True) ∧ (∀ (y_4 : List Int), Row (tks x.snd.fst) (keysAt (tks 
  x.snd.fst) (atP (placeOf x.snd.fst y_2).fst (placeOf x.snd.fst y_2).snd)) y_4 → true = true ∧ ((!inL y_4 y_2) = true → false = true ∧ True) ∧ ((!inL y_4 y_2) = false → ∃ (x' : Nat), x'.le (without x.snd.snd (List.take 
  x_1 [])).length ∧ (without x.snd.snd (List.take x_1 [])).length - x' < (without x.snd.snd (List.take x_1 [])).length - x_2 ∧ (True ∧ True) ∧ (IntKind.i64.wrap ((↑x_2 : Int) + (1 : Int)) = (↑x' : Int) ∧ (↑(without 
  x.snd.snd (List.take x_1 [])).length : Int) = (↑(without x.snd.snd (List.take x_1 [])).length : Int) ∧ True ∧ false = false ∧ false = false ∧ (↑x_1 : Int) = (↑x_1 : Int) ∧ True ∧ True ∧ (0 : Int) = (0 : Int) ∧ false = 
  false ∧ false = false ∧ false = false ∧ false = false ∧ false = false ∧ false = false ∧ y.fst = y.fst ∧ SV.val (Value.slice none (0 : Nat) (0 : Nat)) = SV.val (Value.slice none (0 : Nat) (0 : Nat)) ∧ false = false ∧ 
  (↑x.fst : Int) = (↑x.fst : Int) ∧ True ∧ true = true ∧ (↑x.fst : Int) = (↑x.fst : Int) ∧ (↑sc.length : Int) = (↑sc.length : Int) ∧ sc = sc ∧ True ∧ false = false ∧ sc = sc ∧ True) ∧ (KR.cust = KR.cust ∧ x.snd.fst = 
  x.snd.fst) ∧ without x.snd.snd (List.take x_1 []) = without x.snd.snd (List.take x_1 []) ∧ (y.fst = y.fst ∧ y.snd.fst = y.snd.fst ∧ y.snd.snd.fst = y.snd.snd.fst ∧ y.snd.snd.snd.fst = y.snd.snd.snd.fst ∧ 
  y.snd.snd.snd.snd = y.snd.snd.snd.snd ∧ True) ∧ ([] : List Int) = [] ∧ True)) ∧ True) ∧ ((!(lookL (tks x.snd.fst) y_2).isSome) = !false → false = true ∧ True)) ∧ True) ∧ (decide ((↑x_2 : Int) < (↑(without x.snd.snd 
  (List.take x_1 [])).length : Int)) = false → ∃ (x' : Nat × Rm × List Int), ((x'.fst ≤ sc.length ∧ x'.fst ≤ (200 : Nat)) ∧ Wait1 x'.snd.fst x'.fst ∧ x'.snd.snd = allW x'.snd.fst) ∧ sc.length - x'.fst < sc.length - x.fst 
  ∧ (True ∧ True) ∧ (IntKind.i64.wrap ((↑x.fst : Int) + (1 : Int)) = (↑x'.fst : Int) ∧ True ∧ (↑sc.length : Int) = (↑sc.length : Int) ∧ sc = sc ∧ True ∧ false = false ∧ sc = sc ∧ True) ∧ (KR.cust = KR.cust ∧ x.snd.fst = 
  x'.snd.fst) ∧ without x.snd.snd (List.take x_1 []) = x'.snd.snd ∧ True))) ∧ True))))))))) ∧ (decide ((↑x.fst : Int) < (↑sc.length : Int)) = false → true = true ∧ True)) ∧ True)) := by kernel_rfl
end Go.Proofs.Ytfdcmbaoekjkgaa
namespace Go.Proofs.Ytfdcmbaoekjkgaa
open Go.Proofs.Ytfdcmbaoekjkgaa.Gx
set_option maxRecDepth 100000
set_option linter.unusedSimpArgs false
set_option linter.unusedVariables false
theorem insL_new {α : Type} : {l : List (Int × α)} → {k : Int} → lookL l k = none → (v : α) → insL l k v = l ++ [(k, v)]
  | [], _, _, _ => rfl
  | x :: l, k, h, v => by
    unfold lookL at h
    split at h
    · cases h
    · rename_i hne
      simp only [insL, if_neg hne, insL_new h v, List.cons_append]
theorem delL_filter {α : Type} : (l : List (Int × α)) → (k : Int) → (l.map (·.1)).Nodup → delL l k = l.filter (fun x => x.1 != k)
  | [], _, _ => rfl
  | x :: l, k, h => by
    simp only [List.map_cons, List.nodup_cons] at h
    by_cases e : x.1 = k
    · simp only [delL, if_pos e, List.filter_cons]
      rw [if_neg (by simp [e])]
      refine (List.filter_eq_self.2 fun z hz => ?_).symm
      have : z.1 ≠ k := fun e2 => h.1 (by rw [e, ← e2]; exact List.mem_map_of_mem hz)
      simpa using this
    · simp only [delL, if_neg e, List.filter_cons]
      rw [if_pos (by simpa using e), delL_filter l k h.2]
theorem tkOf_mem {ts : List (Int × Tk)} (hn : (ts.map (·.1)).Nodup) {x : Int × Tk} (hx : x ∈ ts) : tkOf ts x.1 = x.2 := by
  simp [tkOf, lookL_some hn (v := x.2) hx]
theorem keysAt_eq {ts : List (Int × Tk)} (hn : (ts.map (·.1)).Nodup) (p : Int × Int → Bool) : keysAt ts p = (ts.filter fun x => p x.2.1).map (·.1) := by
  unfold keysAt
  rw [List.filter_map]
  congr 1
  refine List.filter_congr fun x hx => ?_
  simp [tkOf_mem hn hx]
theorem keysAt_lt {ts : List (Int × Tk)} (hn : (ts.map (·.1)).Nodup) (ha : ts.Pairwise fun a b => a.2.2 < b.2.2) (p : Int × Int → Bool) : (keysAt ts p).Pairwise fun a b => noOf ts a < noOf ts b := by
  rw [keysAt_eq hn, List.pairwise_map]
  refine List.Pairwise.sublist List.filter_sublist ?_
  refine List.Pairwise.imp_of_mem ?_ ha
  intro a b hma hmb hab
  simp only [noOf, tkOf_mem hn hma, tkOf_mem hn hmb]; exact hab
theorem delAll_filter : (l : List Int) → (ts : List (Int × Tk)) → (ts.map (·.1)).Nodup → delAll ts l = ts.filter (fun x => !decide (x.1 ∈ l))
  | [], ts, _ => by
    rw [List.filter_eq_self.2 (fun _ _ => by simp)]; rfl
  | k :: l, ts, h => by
    show delAll (delL ts k) l = _
    have h2 : ((delL ts k).map (·.1)).Nodup := List.Nodup.sublist ((delL_sub ts k).map _) h
    rw [delAll_filter l _ h2, delL_filter ts k h, List.filter_filter]
    refine List.filter_congr fun x _ => ?_
    by_cases e : x.1 = k <;> by_cases e2 : x.1 ∈ l <;> simp [e, e2]
theorem delAll_at {ts : List (Int × Tk)} (hn : (ts.map (·.1)).Nodup) (p : Int × Int → Bool) : delAll ts (keysAt ts p) = ts.filter fun x => !p x.2.1 := by
  rw [delAll_filter _ _ hn]
  refine List.filter_congr fun x hx => ?_
  congr 1
  have : x.1 ∈ keysAt ts p ↔ p x.2.1 = true := by
    rw [keysAt, List.mem_filter, tkOf_mem hn hx]
    exact ⟨fun h => h.2, fun h => ⟨List.mem_map_of_mem hx, h⟩⟩
  cases hp : p x.2.1 with
  | true => simpa using this.2 hp
  | false => simpa using fun h => by simpa [hp] using this.1 h
theorem filter_two {α : Type} (p : α → Bool) : (l : List α) → (l.filter p).length + (l.filter fun x => !p x).length = l.length
  | [] => rfl
  | x :: l => by
    have := filter_two p l
    cases h : p x <;> simp only [List.filter_cons, h, List.length_cons, Bool.not_true, Bool.not_false, if_true, if_false, Bool.false_eq_true] <;> omega
theorem len_keysAt {ts : List (Int × Tk)} (hn : (ts.map (·.1)).Nodup) (p : Int × Int → Bool) : (keysAt ts p).length = (ts.filter fun x => p x.2.1).length := by
  rw [keysAt_eq hn, List.length_map]
theorem keysAt_gone {ts : List (Int × Tk)} (hn : (ts.map (·.1)).Nodup) (p : Int × Int → Bool) : keysAt (delAll ts (keysAt ts p)) p = [] := by
  have h2 : ((delAll ts (keysAt ts p)).map (·.1)).Nodup := List.Nodup.sublist ((delAll_sub _ ts).map _) hn
  rw [keysAt_eq h2, delAll_at hn, List.filter_filter]
  simp
theorem wrap_small {a : Int} (h0 : -9223372036854775808 ≤ a) (h1 : a ≤ 9223372036854775807) : IntKind.i64.wrap a = a := wrap64 h0 (by omega)
variable {R : Rm} {n : Nat}
theorem Came.row (h : Came R n) {p : Int × Int → Bool} {ys : List Int} (hy : Row (tks R) (keysAt (tks R) p) ys) : ys = keysAt (tks R) p :=
  row_eq hy (keysAt_lt h.nd h.asc p)
theorem Came.mono (h : Came R n) {m : Nat} (hm : n ≤ m) : Came R m :=
  ⟨h.al, h.nd, h.asc, h.le, h.lo, by have := h.hi; omega, Nat.le_trans h.few hm⟩
theorem came_none : Came (0, [], []) 0 := ⟨rfl, by simp [tks], by simp [tks], by simp [tks], by simp [last], by simp [last], by simp [tks]⟩
/-- Waiting: it fails, and nothing changes; or one more waits, last of all. -/
theorem waitR_two (R : Rm) (t seg off : Int) : ((waitR R t seg off).1 ≠ 0 ∧ (waitR R t seg off).2 = R) ∨
    (lookL (tks R) t = none ∧ alOf R t = [] ∧ (idB t = true ∧ idB seg = true ∧ 0 ≤ off ∧ off < 4096) ∧ waitR R t seg off = (0, (IntKind.i64.wrap (last R + 1), tks R ++ [(t, ((seg, off), IntKind.i64.wrap (last R + 1)))], als R))) := by
  unfold waitR
  by_cases c1 : (!idB t || !idB seg || decide (off < 0) || decide (off ≥ 4096)) = true
  · left; rw [if_pos c1]; exact ⟨fun h => by simp at h, rfl⟩
  · rw [if_neg c1]
    by_cases c2 : (lookL (tks R) t).isSome = true
    · left; rw [if_pos c2]; exact ⟨fun h => by simp at h, rfl⟩
    · rw [if_neg c2]
      by_cases c3 : alOf R t ≠ []
      · left; rw [if_pos c3]; exact ⟨fun h => by simp at h, rfl⟩
      · right
        rw [if_neg c3]
        have hl : lookL (tks R) t = none := by simpa using c2
        refine ⟨hl, by simpa using c3, ?_, by rw [insL_new hl]⟩
        simp at c1
        exact ⟨c1.1.1.1, c1.1.1.2, by omega, by omega⟩
theorem came_wait (h : Came R n) (hn : n ≤ 1000) (t o : Int) : Came (waitR R t 9 o).2 (n + 1) ∧ at9 (waitR R t 9 o).2 = (if (waitR R t 9 o).1 = 0 ∧ o = 0 then at9 R ++ [t] else at9 R) := by
  rcases waitR_two R t 9 o with ⟨h1, h2⟩ | ⟨hl, hal, -, hw⟩
  · rw [h2]
    exact ⟨h.mono (by omega), by rw [if_neg (fun hh => h1 hh.1)]⟩
  · rw [hw]
    have hlo := h.lo
    have hhi := h.hi
    have hwr : IntKind.i64.wrap (last R + 1) = last R + 1 := wrap_small (by omega) (by omega)
    rw [hwr]
    have hnd : ((tks R ++ [(t, (((9 : Int), o), last R + 1))]).map (·.1)).Nodup := by
      rw [List.map_append, List.nodup_append]
      refine ⟨h.nd, by simp, fun a ha b hb => ?_⟩
      obtain rfl := List.mem_singleton.1 hb
      rintro rfl
      exact (lookL_none _).1 hl ha
    refine ⟨⟨h.al, hnd, ?_, ?_, by show 0 ≤ last R + 1; omega, by show last R + 1 ≤ _; omega, ?_⟩, ?_⟩
    · show (tks R ++ _).Pairwise _
      rw [List.pairwise_append]
      refine ⟨h.asc, by simp, fun a ha b hb => ?_⟩
      obtain rfl := List.mem_singleton.1 hb
      have := h.le a ha
      show a.2.2 < last R + 1
      omega
    · intro x hx
      show x.2.2 ≤ last R + 1
      rcases List.mem_append.1 hx with hx | hx
      · have := h.le x hx; omega
      · obtain rfl := List.mem_singleton.1 hx; exact Int.le_refl _
    · show (tks R ++ _).length ≤ n + 1
      have := h.few
      simp; omega
    · unfold at9
      show keysAt (tks R ++ [(t, ((9, o), last R + 1))]) (atP 9 0) = _
      rw [keysAt_eq hnd, keysAt_eq h.nd, List.filter_append, List.map_append]
      by_cases e : o = 0
      · subst e; simp [atP]
      · simp [atP, e]
theorem came_forget (h : Came R n) (t : Int) : Came (forgetR R t) n ∧ at9 (forgetR R t) = (at9 R).filter (· != t) := by
  have hnd : ((delL (tks R) t).map (·.1)).Nodup := List.Nodup.sublist ((delL_sub (tks R) t).map _) h.nd
  refine ⟨⟨?_, hnd, List.Pairwise.sublist (delL_sub (tks R) t) h.asc, fun x hx => h.le x (mem_delL _ _ x hx), h.lo, h.hi, Nat.le_trans (delL_sub (tks R) t).length_le h.few⟩, ?_⟩
  · show delL (als R) t = []
    rw [h.al]; rfl
  · unfold at9
    show keysAt (delL (tks R) t) (atP 9 0) = _
    rw [keysAt_eq hnd, keysAt_eq h.nd, delL_filter _ _ h.nd, List.filter_map, List.filter_filter, List.filter_filter]
    congr 1
    refine List.filter_congr fun x _ => ?_
    simp [Bool.and_comm]
end Go.Proofs.Ytfdcmbaoekjkgaa
namespace Go.Proofs.Ytfdcmbaoekjkgaa
open Go.Proofs.Ytfdcmbaoekjkgaa.Gx
set_option maxRecDepth 100000
set_option linter.unusedSimpArgs false
set_option linter.unusedVariables false
theorem flt_yes {l : List Int} {i : Nat} {y t : Int} (h : l[i]? = some y) (hp : (y != t) = true) : (l.take i).filter (fun x => x != t) ++ [y] = (l.take (i + 1)).filter fun x => x != t := by
  rw [take_snoc h, List.filter_append, List.filter_cons, if_pos hp]; rfl
theorem flt_no {l : List Int} {i : Nat} {y t : Int} (h : l[i]? = some y) (hp : (y != t) = false) : (l.take i).filter (fun x => x != t) = (l.take (i + 1)).filter fun x => x != t := by
  rw [take_snoc h, List.filter_append, List.filter_cons, if_neg (by rw [hp]; simp)]; simp
theorem inL_mem {l : List Int} {x : Int} : inL l x = true ↔ x ∈ l := by
  simp [inL, List.any_eq_true]
theorem without_nil (ws : List Int) : without ws [] = ws := List.filter_eq_self.2 fun x _ => by simp [inL]
theorem without_step {ws g : List Int} {i : Nat} {t : Int} (h : g[i]? = some t) : (without ws (g.take i)).filter (fun x => x != t) = without ws (g.take (i + 1)) := by
  unfold without
  rw [take_snoc h, List.filter_filter]
  refine List.filter_congr fun x _ => ?_
  have : inL (g.take i ++ [t]) x = (inL (g.take i) x || t == x) := by simp [inL, List.any_append]
  rw [this]
  have e : (t == x) = (x == t) := by
    by_cases e : t = x
    · subst e; rfl
    · rw [beq_eq_false_iff_ne.2 e, beq_eq_false_iff_ne.2 (fun h => e h.symm)]
  rw [e]
  cases inL (g.take i) x <;> cases h2 : x == t <;> simp [bne, h2]
theorem without_in {ws g : List Int} (hsub : ∀ x ∈ g, x ∈ ws) (hnd : g.Nodup) {i : Nat} {t : Int} (h : g[i]? = some t) : (!inL (without ws (g.take i)) t) = false := by
  have hm : t ∈ without ws (g.take i) := by
    unfold without
    refine List.mem_filter.2 ⟨hsub t (List.mem_of_getElem? h), ?_⟩
    have h1 : (g.take (i + 1)).Nodup := List.Nodup.sublist (List.take_sublist _ _) hnd
    rw [take_snoc h, List.nodup_append] at h1
    have : t ∉ g.take i := fun hx => h1.2.2 t hx t (by simp) rfl
    cases hi : inL (g.take i) t with
    | true => exact absurd (inL_mem.1 hi) this
    | false => rfl
  rw [inL_mem.2 hm]; rfl
theorem there_is {R : Rm} {t : Int} (h : t ∈ allW R) : (lookL (tks R) t).isSome = true := by
  cases hl : lookL (tks R) t with
  | none => exact absurd h ((lookL_none _).1 hl)
  | some _ => rfl
theorem look_in {R : Rm} {t : Int} (h : (lookL (tks R) t).isSome = true) : t ∈ allW R := by
  cases hl : lookL (tks R) t with
  | none => rw [hl] at h; cases h
  | some v => exact List.mem_map_of_mem (lookL_mem hl)
theorem there_in {R : Rm} {t : Int} (h : t ∈ allW R) {l : List Int} (hl : Row (tks R) (keysAt (tks R) (atP (placeOf R t).1 (placeOf R t).2)) l) : (!inL l t) = false := by
  have hm : t ∈ keysAt (tks R) (atP (placeOf R t).1 (placeOf R t).2) := by
    refine List.mem_filter.2 ⟨h, ?_⟩
    have := there_is h
    unfold tkOf placeOf
    cases hh : lookL (tks R) t with
    | none => rw [hh] at this; cases this
    | some v => simp [atP]
  rw [inL_mem.2 (hl.perm.symm.subset hm)]; rfl
theorem all_gone {ts : List (Int × Tk)} (hn : (ts.map (·.1)).Nodup) (g : List Int) : (delAll ts g).map (·.1) = without (ts.map (·.1)) g := by
  rw [delAll_filter _ _ hn]
  unfold without
  rw [List.filter_map]
  congr 1
  refine List.filter_congr fun x _ => ?_
  simp only [Function.comp]
  congr 1
  cases h : inL g x.1 with
  | true => simpa using inL_mem.1 h
  | false => simpa using fun hm => by rw [inL_mem.2 hm] at h; cases h
theorem delL_absent {α : Type} : {l : List (Int × α)} → {k : Int} → lookL l k = none → delL l k = l
  | [], _, _ => rfl
  | x :: l, k, h => by
    unfold lookL at h
    split at h
    · cases h
    · rename_i hne
      simp only [delL, if_neg hne, delL_absent h]
theorem post_two (R : Rm) (t c : Int) : ((postR R t c).2.1 = 0 → (postR R t c).1 = true → (lookL (tks R) t).isSome = true ∧ tks (postR R t c).2.2 = delAll (tks R) [t]) ∧ ((decide ((postR R t c).2.1 = 0) && (postR R t c).1) = false → tks (postR R t c).2.2 = tks R) := by
  unfold postR
  split
  · exact ⟨fun h => by simp at h, fun _ => rfl⟩
  · split
    · exact ⟨fun h => by simp at h, fun _ => rfl⟩
    · refine ⟨fun _ h => ⟨h, rfl⟩, fun h => ?_⟩
      show delL (tks R) t = tks R
      refine delL_absent ?_
      simpa using h
end Go.Proofs.Ytfdcmbaoekjkgaa
namespace Go.Proofs.Ytfdcmbaoekjkgaa
open Go.Proofs.Ytfdcmbaoekjkgaa.Gx
set_option maxRecDepth 100000
set_option maxHeartbeats 8000000
set_option linter.unusedSimpArgs false
set_option linter.unusedVariables false
theorem ans_a {sc : List opT.den} {a : Nat} {R1 : Rm} {ws g : List Int} (hA : sc.length ≤ maxLen) (ha : a < sc.length) (h2 : a < 200) (hw : Wait1 R1 (a + 1)) (hall : allW R1 = without ws g) (hsub : ∀ x ∈ g, x ∈ ws) (hnd : g.Nodup) (hws : ws.length ≤ 1000) :
    g.length ≤ maxLen → ∃ (x0 : Nat), x0.le g.length ∧ ((0 : Int) = (x0 : Int) ∧ ws = without ws (List.take x0 g)) ∧ ∀ (x_1 : Nat), x_1.le g.length → (decide ((x_1 : Int) < (g.length : Int)) = true → ((0 : Int) ≤ (x_1 : Int) ∧ (x_1 : Int) < (g.length : Int)) ∧ ∀ (y : Int), g[(x_1 : Int).toNat]? = some y → ((!inL (without ws (List.take x_1 g)) y) = true → false = true) ∧ ((!inL (without ws (List.take x_1 g)) y) = false → (without ws (List.take x_1 g)).length ≤ maxLen → ∃ (x0 : Nat), x0.le (without ws (List.take x_1 g)).length ∧ ((0 : Int) = (x0 : Int) ∧ [] = List.filter (fun (x : Int) => x != y) (List.take x0 (without ws (List.take x_1 g)))) ∧ ∀ (x_2 : Nat), x_2.le (without ws (List.take x_1 g)).length → (decide ((x_2 : Int) < ((without ws (List.take x_1 g)).length : Int)) = true → ((0 : Int) ≤ (x_2 : Int) ∧ (x_2 : Int) < ((without ws (List.take x_1 g)).length : Int)) ∧ (x_2 : Int).toNat < (without ws (List.take x_1 g)).length ∧ ∀ (y_2 : Int), (without ws (List.take x_1 g))[(x_2 : Int).toNat]? = some y_2 → ((y_2 != y) = true → ((List.filter (fun (x : Int) => x != y) (List.take x_2 (without ws (List.take x_1 g)))).length + [y_2].length) * 8 ≤ 140737488355328 ∧ ∃ (x' : Nat), x'.le (without ws (List.take x_1 g)).length ∧ (without ws (List.take x_1 g)).length - x' < (without ws (List.take x_1 g)).length - x_2 ∧ IntKind.i64.wrap ((x_2 : Int) + (1 : Int)) = (x' : Int) ∧ List.filter (fun (x : Int) => x != y) (List.take x_2 (without ws (List.take x_1 g))) ++ [y_2] = List.filter (fun (x : Int) => x != y) (List.take x' (without ws (List.take x_1 g)))) ∧ ((y_2 != y) = false → ∃ (x' : Nat), x'.le (without ws (List.take x_1 g)).length ∧ (without ws (List.take x_1 g)).length - x' < (without ws (List.take x_1 g)).length - x_2 ∧ IntKind.i64.wrap ((x_2 : Int) + (1 : Int)) = (x' : Int) ∧ List.filter (fun (x : Int) => x != y) (List.take x_2 (without ws (List.take x_1 g))) = List.filter (fun (x : Int) => x != y) (List.take x' (without ws (List.take x_1 g))))) ∧ (decide ((x_2 : Int) < ((without ws (List.take x_1 g)).length : Int)) = false → ∃ (x' : Nat), x'.le g.length ∧ g.length - x' < g.length - x_1 ∧ IntKind.i64.wrap ((x_1 : Int) + (1 : Int)) = (x' : Int) ∧ List.filter (fun (x : Int) => x != y) (List.take x_2 (without ws (List.take x_1 g))) = without ws (List.take x' g)))) ∧ (decide ((x_1 : Int) < (g.length : Int)) = false → R1 = lenC.inn R1 ∧ ∀ (y : Unit), True → (without ws (List.take x_1 g)).length ≤ maxLen → ((((tks R1).length : Int) != ((without ws (List.take x_1 g)).length : Int)) = true → false = true) ∧ ((((tks R1).length : Int) != ((without ws (List.take x_1 g)).length : Int)) = false → (without ws (List.take x_1 g)).length ≤ maxLen → ∃ (x0 : Nat), x0.le (without ws (List.take x_1 g)).length ∧ (0 : Int) = (x0 : Int) ∧ ∀ (x_2 : Nat), x_2.le (without ws (List.take x_1 g)).length → (decide ((x_2 : Int) < ((without ws (List.take x_1 g)).length : Int)) = true → ((0 : Int) ≤ (x_2 : Int) ∧ (x_2 : Int) < ((without ws (List.take x_1 g)).length : Int)) ∧ (x_2 : Int).toNat < (without ws (List.take x_1 g)).length ∧ ∀ (y : Int), (without ws (List.take x_1 g))[(x_2 : Int).toNat]? = some y → R1 = whereC.inn (R1, y) ∧ ∀ (y_2 : Unit), True → ((!(lookL (tks R1) y).isSome) = false → (tks R1).length.le 1000000000000 ∧ R1 = listC.inn (R1, (placeOf R1 y).fst, (placeOf R1 y).snd) ∧ ∀ (y_3 : List Int), Row (tks R1) (keysAt (tks R1) (atP (placeOf R1 y).fst (placeOf R1 y).snd)) y_3 → ((!inL y_3 y) = true → false = true) ∧ ((!inL y_3 y) = false → ∃ (x' : Nat), x'.le (without ws (List.take x_1 g)).length ∧ (without ws (List.take x_1 g)).length - x' < (without ws (List.take x_1 g)).length - x_2 ∧ IntKind.i64.wrap ((x_2 : Int) + (1 : Int)) = (x' : Int))) ∧ ((!(lookL (tks R1) y).isSome) = !false → false = true)) ∧ (decide ((x_2 : Int) < ((without ws (List.take x_1 g)).length : Int)) = false → ∃ (x' : Nat × Rm × List Int), ((x'.fst ≤ sc.length ∧ x'.fst ≤ 200) ∧ Wait1 x'.snd.fst x'.fst ∧ x'.snd.snd = allW x'.snd.fst) ∧ sc.length - x'.fst < sc.length - a ∧ IntKind.i64.wrap ((a : Int) + (1 : Int)) = (x'.fst : Int) ∧ R1 = x'.snd.fst ∧ without ws (List.take x_1 g) = x'.snd.snd))) := by
  simp only [toNat_cast]
  intro hB
  refine ⟨0, Nat.zero_le _, ⟨rfl, (without_nil ws).symm⟩, fun i hi => ?_⟩
  have hi : i ≤ g.length := hi
  have hwl : (without ws (g.take i)).length ≤ 1000 := Nat.le_trans (List.length_filter_le _ _) hws
  refine ⟨fun hlt => ?_, fun hge => ?_⟩
  · have hlt : i < g.length := by simp at hlt; omega
    refine ⟨⟨by omega, by omega⟩, fun t ht => ⟨fun hin => ?_, fun hin hC => ⟨0, Nat.zero_le _, ⟨rfl, by simp⟩, fun j hj => ?_⟩⟩⟩
    · rw [without_in hsub hnd ht] at hin; cases hin
    · have hj : j ≤ (without ws (g.take i)).length := hj
      refine ⟨fun hjl => ?_, fun hjg => ?_⟩
      · have hjl : j < (without ws (g.take i)).length := by simp at hjl; omega
        refine ⟨⟨by omega, by omega⟩, hjl, fun z hz => ⟨fun hne => ⟨?_, j + 1, hjl, by omega, wrap_succ hjl hC, flt_yes hz hne⟩, fun he => ⟨j + 1, hjl, by omega, wrap_succ hjl hC, flt_no hz he⟩⟩⟩
        have h1 : (List.filter (fun x => x != t) (List.take j (without ws (g.take i)))).length ≤ (List.take j (without ws (g.take i))).length := List.length_filter_le _ _
        have h2 : (List.take j (without ws (g.take i))).length ≤ j := by rw [List.length_take]; omega
        simp only [List.length_singleton]; omega
      · have hje : j = (without ws (g.take i)).length := by simp at hjg; omega
        subst hje
        refine ⟨i + 1, hlt, by omega, wrap_succ hlt hB, ?_⟩
        rw [List.take_length]
        exact without_step ht
  · have hie : i = g.length := by simp at hge; omega
    subst hie
    rw [List.take_length] at hwl ⊢
    rw [← hall] at hwl ⊢
    have hlen : (allW R1).length = (tks R1).length := by simp [allW]
    have hfew := hw.few
    refine ⟨rfl, fun _ _ hC => ⟨fun hne => ?_, fun _ hD => ⟨0, Nat.zero_le _, rfl, fun j hj => ?_⟩⟩⟩
    · rw [hlen] at hne; simp at hne
    · have hj : j ≤ (allW R1).length := hj
      refine ⟨fun hjl => ?_, fun hjg => ⟨(a + 1, R1, allW R1), ⟨⟨ha, h2⟩, hw, rfl⟩, by simp only; omega, wrap_succ ha hA, rfl, rfl⟩⟩
      have hjl : j < (allW R1).length := by simp at hjl; omega
      refine ⟨⟨by omega, by omega⟩, hjl, fun t ht => ⟨rfl, fun _ _ => ⟨fun hs => ⟨(by show (tks R1).length ≤ 1000000000000; omega), rfl, fun l hl => ⟨fun hin => ?_, fun _ => ⟨j + 1, hjl, by omega, wrap_succ hjl hD⟩⟩⟩, fun hs => ?_⟩⟩⟩
      · rw [there_in (List.mem_of_getElem? ht) hl] at hin; cases hin
      · rw [there_is (List.mem_of_getElem? ht)] at hs; cases hs
theorem ans_b {sc : List opT.den} {a : Nat} {R1 : Rm} {ws g : List Int} (hA : sc.length ≤ maxLen) (ha : a < sc.length) (h2 : a < 200) (hw : Wait1 R1 (a + 1)) (hall : allW R1 = without ws g) (hsub : ∀ x ∈ g, x ∈ ws) (hnd : g.Nodup) (hws : ws.length ≤ 1000) :
    g.length ≤ maxLen → ∃ (x0 : Nat), x0.le g.length ∧ ((0 : Int) = (x0 : Int) ∧ ws = without ws (List.take x0 g)) ∧ ∀ (x_1 : Nat), x_1.le g.length → (decide ((x_1 : Int) < (g.length : Int)) = true → ((0 : Int) ≤ (x_1 : Int) ∧ (x_1 : Int) < (g.length : Int)) ∧ (x_1 : Int).toNat < g.length ∧ ∀ (y_2 : Int), g[(x_1 : Int).toNat]? = some y_2 → ((!inL (without ws (List.take x_1 g)) y_2) = true → false = true) ∧ ((!inL (without ws (List.take x_1 g)) y_2) = false → (without ws (List.take x_1 g)).length ≤ maxLen → ∃ (x0 : Nat), x0.le (without ws (List.take x_1 g)).length ∧ ((0 : Int) = (x0 : Int) ∧ [] = List.filter (fun (x : Int) => x != y_2) (List.take x0 (without ws (List.take x_1 g)))) ∧ ∀ (x_2 : Nat), x_2.le (without ws (List.take x_1 g)).length → (decide ((x_2 : Int) < ((without ws (List.take x_1 g)).length : Int)) = true → ((0 : Int) ≤ (x_2 : Int) ∧ (x_2 : Int) < ((without ws (List.take x_1 g)).length : Int)) ∧ (x_2 : Int).toNat < (without ws (List.take x_1 g)).length ∧ ∀ (y_3 : Int), (without ws (List.take x_1 g))[(x_2 : Int).toNat]? = some y_3 → ((y_3 != y_2) = true → ((List.filter (fun (x : Int) => x != y_2) (List.take x_2 (without ws (List.take x_1 g)))).length + [y_3].length) * 8 ≤ 140737488355328 ∧ ∃ (x' : Nat), x'.le (without ws (List.take x_1 g)).length ∧ (without ws (List.take x_1 g)).length - x' < (without ws (List.take x_1 g)).length - x_2 ∧ IntKind.i64.wrap ((x_2 : Int) + (1 : Int)) = (x' : Int) ∧ List.filter (fun (x : Int) => x != y_2) (List.take x_2 (without ws (List.take x_1 g))) ++ [y_3] = List.filter (fun (x : Int) => x != y_2) (List.take x' (without ws (List.take x_1 g)))) ∧ ((y_3 != y_2) = false → ∃ (x' : Nat), x'.le (without ws (List.take x_1 g)).length ∧ (without ws (List.take x_1 g)).length - x' < (without ws (List.take x_1 g)).length - x_2 ∧ IntKind.i64.wrap ((x_2 : Int) + (1 : Int)) = (x' : Int) ∧ List.filter (fun (x : Int) => x != y_2) (List.take x_2 (without ws (List.take x_1 g))) = List.filter (fun (x : Int) => x != y_2) (List.take x' (without ws (List.take x_1 g))))) ∧ (decide ((x_2 : Int) < ((without ws (List.take x_1 g)).length : Int)) = false → ∃ (x' : Nat), x'.le g.length ∧ g.length - x' < g.length - x_1 ∧ IntKind.i64.wrap ((x_1 : Int) + (1 : Int)) = (x' : Int) ∧ List.filter (fun (x : Int) => x != y_2) (List.take x_2 (without ws (List.take x_1 g))) = without ws (List.take x' g)))) ∧ (decide ((x_1 : Int) < (g.length : Int)) = false → R1 = lenC.inn R1 ∧ ∀ (y_2 : Unit), True → (without ws (List.take x_1 g)).length ≤ maxLen → ((((tks R1).length : Int) != ((without ws (List.take x_1 g)).length : Int)) = true → false = true) ∧ ((((tks R1).length : Int) != ((without ws (List.take x_1 g)).length : Int)) = false → (without ws (List.take x_1 g)).length ≤ maxLen → ∃ (x0 : Nat), x0.le (without ws (List.take x_1 g)).length ∧ (0 : Int) = (x0 : Int) ∧ ∀ (x_2 : Nat), x_2.le (without ws (List.take x_1 g)).length → (decide ((x_2 : Int) < ((without ws (List.take x_1 g)).length : Int)) = true → ((0 : Int) ≤ (x_2 : Int) ∧ (x_2 : Int) < ((without ws (List.take x_1 g)).length : Int)) ∧ (x_2 : Int).toNat < (without ws (List.take x_1 g)).length ∧ ∀ (y_3 : Int), (without ws (List.take x_1 g))[(x_2 : Int).toNat]? = some y_3 → R1 = whereC.inn (R1, y_3) ∧ ∀ (y_4 : Unit), True → ((!(lookL (tks R1) y_3).isSome) = false → (tks R1).length.le 1000000000000 ∧ R1 = listC.inn (R1, (placeOf R1 y_3).fst, (placeOf R1 y_3).snd) ∧ ∀ (y_5 : List Int), Row (tks R1) (keysAt (tks R1) (atP (placeOf R1 y_3).fst (placeOf R1 y_3).snd)) y_5 → ((!inL y_5 y_3) = true → false = true) ∧ ((!inL y_5 y_3) = false → ∃ (x' : Nat), x'.le (without ws (List.take x_1 g)).length ∧ (without ws (List.take x_1 g)).length - x' < (without ws (List.take x_1 g)).length - x_2 ∧ IntKind.i64.wrap ((x_2 : Int) + (1 : Int)) = (x' : Int))) ∧ ((!(lookL (tks R1) y_3).isSome) = !false → false = true)) ∧ (decide ((x_2 : Int) < ((without ws (List.take x_1 g)).length : Int)) = false → ∃ (x' : Nat × Rm × List Int), ((x'.fst ≤ sc.length ∧ x'.fst ≤ 200) ∧ Wait1 x'.snd.fst x'.fst ∧ x'.snd.snd = allW x'.snd.fst) ∧ sc.length - x'.fst < sc.length - a ∧ IntKind.i64.wrap ((a : Int) + (1 : Int)) = (x'.fst : Int) ∧ R1 = x'.snd.fst ∧ without ws (List.take x_1 g) = x'.snd.snd))) := by
  simp only [toNat_cast]
  intro hB
  refine ⟨0, Nat.zero_le _, ⟨rfl, (without_nil ws).symm⟩, fun i hi => ?_⟩
  have hi : i ≤ g.length := hi
  have hwl : (without ws (g.take i)).length ≤ 1000 := Nat.le_trans (List.length_filter_le _ _) hws
  refine ⟨fun hlt => ?_, fun hge => ?_⟩
  · have hlt : i < g.length := by simp at hlt; omega
    refine ⟨⟨by omega, by omega⟩, hlt, fun t ht => ⟨fun hin => ?_, fun hin hC => ⟨0, Nat.zero_le _, ⟨rfl, by simp⟩, fun j hj => ?_⟩⟩⟩
    · rw [without_in hsub hnd ht] at hin; cases hin
    · have hj : j ≤ (without ws (g.take i)).length := hj
      refine ⟨fun hjl => ?_, fun hjg => ?_⟩
      · have hjl : j < (without ws (g.take i)).length := by simp at hjl; omega
        refine ⟨⟨by omega, by omega⟩, hjl, fun z hz => ⟨fun hne => ⟨?_, j + 1, hjl, by omega, wrap_succ hjl hC, flt_yes hz hne⟩, fun he => ⟨j + 1, hjl, by omega, wrap_succ hjl hC, flt_no hz he⟩⟩⟩
        have h1 : (List.filter (fun x => x != t) (List.take j (without ws (g.take i)))).length ≤ (List.take j (without ws (g.take i))).length := List.length_filter_le _ _
        have h2 : (List.take j (without ws (g.take i))).length ≤ j := by rw [List.length_take]; omega
        simp only [List.length_singleton]; omega
      · have hje : j = (without ws (g.take i)).length := by simp at hjg; omega
        subst hje
        refine ⟨i + 1, hlt, by omega, wrap_succ hlt hB, ?_⟩
        rw [List.take_length]
        exact without_step ht
  · have hie : i = g.length := by simp at hge; omega
    subst hie
    rw [List.take_length] at hwl ⊢
    rw [← hall] at hwl ⊢
    have hlen : (allW R1).length = (tks R1).length := by simp [allW]
    have hfew := hw.few
    refine ⟨rfl, fun _ _ hC => ⟨fun hne => ?_, fun _ hD => ⟨0, Nat.zero_le _, rfl, fun j hj => ?_⟩⟩⟩
    · rw [hlen] at hne; simp at hne
    · have hj : j ≤ (allW R1).length := hj
      refine ⟨fun hjl => ?_, fun hjg => ⟨(a + 1, R1, allW R1), ⟨⟨ha, h2⟩, hw, rfl⟩, by simp only; omega, wrap_succ ha hA, rfl, rfl⟩⟩
      have hjl : j < (allW R1).length := by simp at hjl; omega
      refine ⟨⟨by omega, by omega⟩, hjl, fun t ht => ⟨rfl, fun _ _ => ⟨fun hs => ⟨(by show (tks R1).length ≤ 1000000000000; omega), rfl, fun l hl => ⟨fun hin => ?_, fun _ => ⟨j + 1, hjl, by omega, wrap_succ hjl hD⟩⟩⟩, fun hs => ?_⟩⟩⟩
      · rw [there_in (List.mem_of_getElem? ht) hl] at hin; cases hin
      · rw [there_is (List.mem_of_getElem? ht)] at hs; cases hs
theorem ans_ok : PSpecOk PP 5 (Q [.slice opT] [.bool] (fun _ => true) (fun _ => (true, ()))) := by
  refine pspec_Q mixed (fn := Try.f5) (c := c5) rfl rfl _ _ rfl ?_
  rintro ⟨sc, ⟨⟩⟩ - -
  refine ⟨env PP [p8] [m9, m10, m11, m12, m13, m14, m16, m17, m20, m21, b15, b19] [] [] (ansLoop sc), env_ok .., rfl, hold (ans_vc sc) ?_⟩
  simp only [true_and, and_true]
  refine ⟨fun h => (by simp at h), fun _ _ _ hA => ⟨(0, (0, [], []), []), ⟨⟨Nat.zero_le _, Nat.zero_le _⟩, ⟨by simp [tks], by simp [tks]⟩, rfl⟩, ⟨rfl, rfl, rfl⟩, ?_⟩⟩
  rintro ⟨a, R, ws⟩ ⟨⟨ha, ha2⟩, hw, hws⟩
  simp only at ha ha2 hw hws
  subst hws
  refine ⟨fun hlt => ?_, fun _ => trivial⟩
  have hlt : a < sc.length := by simp at hlt; omega
  refine ⟨⟨by simp only; omega, by simp only; omega⟩, ?_⟩
  rintro ⟨kind, t, seg, off, code⟩ hop
  refine ⟨fun _ => trivial, fun h200 => ?_⟩
  have h200 : a < 200 := by simp at h200; omega
  have hl : (allW R).length ≤ 200 := by have := hw.few; simp only [allW, List.length_map]; omega
  have hl2 : (allW R).length ≤ 1000 := by omega
  have hw1 : Wait1 R (a + 1) := ⟨hw.nd, by have := hw.few; omega⟩
  have hfew := hw.few
  -- nothing is given, nothing changes
  have nil : ∀ {R1 : Rm}, tks R1 = tks R → Wait1 R1 (a + 1) ∧ allW R1 = without (allW R) [] := fun {R1} e => ⟨⟨by rw [e]; exact hw.nd, by rw [e]; exact hw1.few⟩, by rw [without_nil]; unfold allW; rw [e]⟩
  -- some leave
  have gone : ∀ {R1 : Rm} {g : List Int}, tks R1 = delAll (tks R) g → Wait1 R1 (a + 1) ∧ allW R1 = without (allW R) g := fun {R1 g} e => ⟨⟨by rw [e]; exact List.Nodup.sublist ((delAll_sub _ _).map _) hw.nd, by rw [e]; exact Nat.le_trans (delAll_sub _ _).length_le hw1.few⟩, by unfold allW; rw [e]; exact all_gone hw.nd g⟩
  have rowIs : ∀ {p : Int × Int → Bool} {ys : List Int}, Row (tks R) (keysAt (tks R) p) ys → (∀ x ∈ ys, x ∈ allW R) ∧ ys.Nodup := fun {p ys} h => ⟨fun x hx => (List.mem_filter.1 (h.perm.subset hx)).1, h.perm.symm.nodup (List.Nodup.sublist List.filter_sublist hw.nd)⟩
  have one : ∀ {t : Int}, (lookL (tks R) t).isSome = true → (∀ x ∈ [t], x ∈ allW R) ∧ [t].Nodup := fun {t} h => ⟨fun x hx => by obtain rfl := List.mem_singleton.1 hx; exact look_in h, by simp⟩
  refine ⟨fun _ => ⟨rfl, fun _ _ => ⟨fun he => ?_, fun he => ?_⟩⟩, fun _ => ⟨fun _ => ⟨(by show (tks R).length ≤ 1000000000000; omega), rfl, fun ys hy hB => ?_⟩, fun _ => ⟨fun _ => ⟨rfl, fun _ _ => ?_⟩, fun _ => ⟨fun _ => ⟨rfl, fun _ _ => ?_⟩, fun _ => ⟨fun _ => ⟨(by show (tks R).length ≤ 1000000000000; omega), rfl, fun ys hy hB => ?_⟩, fun _ => ⟨fun _ => ⟨rfl, fun _ _ => ⟨fun hs hB => ?_, fun hs => ?_⟩⟩, fun _ => ?_⟩⟩⟩⟩⟩⟩
  · -- one more waits
    rcases waitR_two R t seg off with ⟨h1, -⟩ | ⟨hn, -, -, hW⟩
    · exact absurd (by simpa using he) h1
    have hnot : t ∉ allW R := (lookL_none _).1 hn
    refine ⟨fun hin => absurd (inL_mem.1 hin) hnot, fun _ => ⟨by simp only [List.length_singleton]; omega, ?_⟩⟩
    have e : tks (waitR R t seg off).2 = tks R ++ [(t, ((seg, off), IntKind.i64.wrap (last R + 1)))] := by rw [hW]; rfl
    have hb : Wait1 (waitR R t seg off).2 (a + 1) ∧ allW (waitR R t seg off).2 = without (allW R ++ [t]) [] := by
      refine ⟨⟨?_, ?_⟩, ?_⟩
      · rw [e, List.map_append, List.nodup_append]
        refine ⟨hw.nd, by simp, fun x hx y hy => ?_⟩
        obtain rfl := List.mem_singleton.1 hy
        rintro rfl; exact hnot hx
      · rw [e, List.length_append, List.length_singleton]; omega
      · rw [without_nil]; unfold allW; rw [e, List.map_append]; rfl
    exact ans_b (g := []) hA hlt h200 hb.1 hb.2 (by simp) (by simp) (by simp; omega) (Nat.zero_le _)
  · have e : (waitR R t seg off).2 = R := by
      rcases waitR_two R t seg off with ⟨-, h⟩ | ⟨-, -, -, hW⟩
      · exact h
      · rw [hW] at he; simp at he
    have hb := nil (R1 := (waitR R t seg off).2) (by rw [e])
    exact ans_b (g := []) hA hlt h200 hb.1 hb.2 (by simp) (by simp) hl2 (Nat.zero_le _)
  · have hb := gone (R1 := (last R, delAll (tks R) ys, als R)) (g := ys) rfl
    exact ans_a hA hlt h200 hb.1 hb.2 (rowIs hy).1 (rowIs hy).2 hl2 hB
  · -- an alert
    obtain ⟨hp1, hp2⟩ := post_two R t code
    refine ⟨decide ((postR R t code).2.1 = 0) && (postR R t code).1, ⟨fun h => ?_, fun h => ?_⟩, ⟨fun hv hB => ?_, fun hv => ?_⟩⟩
    · have : (postR R t code).2.1 = 0 := by simpa using h
      simp [this]
    · have : ¬ (postR R t code).2.1 = 0 := by simpa using h
      simp [this]
    · have hv : (postR R t code).2.1 = 0 ∧ (postR R t code).1 = true := by simpa using hv
      have hb := gone (R1 := (postR R t code).2.2) (g := [t]) (hp1 hv.1 hv.2).2
      exact ans_b hA hlt h200 hb.1 hb.2 (one (hp1 hv.1 hv.2).1).1 (one (hp1 hv.1 hv.2).1).2 hl2 hB
    · have hb := nil (R1 := (postR R t code).2.2) (hp2 (by simpa using hv))
      exact ans_b (g := []) hA hlt h200 hb.1 hb.2 (by simp) (by simp) hl2 (Nat.zero_le _)
  · have hb := nil (R1 := (takeR R t).2.2) (by unfold takeR; split <;> rfl)
    exact ans_b (g := []) hA hlt h200 hb.1 hb.2 (by simp) (by simp) hl2 (Nat.zero_le _)
  · have hb := gone (R1 := (last R, delAll (tks R) ys, als R)) (g := ys) rfl
    exact ans_a hA hlt h200 hb.1 hb.2 (rowIs hy).1 (rowIs hy).2 hl2 hB
  · have hb := gone (R1 := forgetR R t) (g := [t]) rfl
    exact ans_b hA hlt h200 hb.1 hb.2 (one hs).1 (one hs).2 hl2 hB
  · have hb := nil (R1 := forgetR R t) (delL_absent (by simpa using hs))
    exact ans_b (g := []) hA hlt h200 hb.1 hb.2 (by simp) (by simp) hl2 (Nat.zero_le _)
  · have hb := nil (R1 := R) rfl
    exact ans_b (g := []) hA hlt h200 hb.1 hb.2 (by simp) (by simp) hl2 (Nat.zero_le _)
end Go.Proofs.Ytfdcmbaoekjkgaa
