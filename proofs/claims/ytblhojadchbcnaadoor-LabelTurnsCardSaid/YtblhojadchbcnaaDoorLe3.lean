/- Labels with another level at a category; conditions: labels of less than nineteen entries. -/
import Derived.Test.YtblhojadchbcnaaDoorLd3
namespace Go.Proofs.YtblhojadchbcnaaDoor
open Go.Proofs.YtblhojadchbcnaaDoor.Gx
set_option maxRecDepth 100000
set_option maxHeartbeats 0
noncomputable def c38 : Code := Tryd.f38.body.getD .skip
noncomputable def c10 : Code := Tryd.f10.body.getD .skip
def notC (c : Int) (x : Int × Int) : Bool := !(x.1 == c)
def delLoop (c : Int) : List (Nat × (St → Option LoopSpec)) :=
  [(5, fun (S : St) => match getT S.fr.tm 0 with
      | .row r => match (S.res[r]? : Option Res) with
        | some (Res.row _ (Ty.pair (Ty.int IntKind.i64) (Ty.int IntKind.i64)) base) => some { α := Nat × Nat × List (Int × Int), inv := fun x => (x.1 < x.2.1 ∧ x.2.1 ≤ base.length) ∧ x.2.2.length = base.length ∧ x.2.2.take x.1 = (base.take x.2.1).filter (notC c) ∧ x.2.2.drop x.2.1 = base.drop x.2.1, ov := fun x => [(5, .int .i64 (x.1 : Int)), (6, .int .i64 (x.2.1 : Int))], rov := fun x => [(r, .row 1 ent x.2.2)], meas := fun x => base.length - x.2.1 }
        | _ => none
      | _ => none)]
noncomputable def s67S (c : Int) : Sv PP := ⟨67, inlS PP (env PP [] [s80d c, s68] [] [] (delLoop c)) Tryd.f67 c67, ⟨rfl, inlS_ok (env_ok ..) rfl mixed rfl rfl⟩⟩
def withG (l : Lab) (c v : Int) : Lab × Int := bif catB c && levelB v then makeE l.1 (l.2.filter (notC c) ++ [(c, v)]) else ((0, []), 1)
theorem withG_vc (l : Lab) (c v : Int) : fvc PP (env PP [p14] [s49, s67S c] [] [] []) Tryd.f35 c35 (ofArgs [lab, i64, i64] (l, c, v, ())) St0 (gives [lab, i64] ((withG l c v).1, (withG l c v).2, ())) = (
  ∃ (v_1 : Bool), ((decide (c < (1 : Int)) = false → (decide (c > (2305843009213693951 : Int)) = false → (decide (v < (0 : Int)) = false → decide (v > (5 : Int)) = v_1) ∧ (decide (v < (0 : Int)) = !false → true = v_1)) ∧ 
  (decide (c > (2305843009213693951 : Int)) = !false → true = v_1)) ∧ (decide (c < (1 : Int)) = !false → true = v_1)) ∧ (v_1 = true → (((0 : Int) = (withG l c v).fst.fst ∧ (withG l c v).fst.snd = [] ∧ True) ∧ (1 : Int) = 
  (withG l c v).snd ∧ True) ∧ True) ∧ (v_1 = false → decide (l.snd.length ≤ (1000000 : Nat)) = true ∧ (l.snd.length ≤ maxLen → ∃ (x0 : Nat), (x0 ≤ l.snd.length ∧ ((List.drop x0 l.snd).any fun (x : Int × Int) => x.fst == 
  c) = l.snd.any fun (x : Int × Int) => x.fst == c) ∧ ((((True ∧ True) ∧ True ∧ SV.val (Value.slice none (0 : Nat) (0 : Nat)) = SV.val (Value.slice none (0 : Nat) (0 : Nat)) ∧ True ∧ (True ∧ True) ∧ True) ∧ ((True ∧ 
  True) ∧ True ∧ l.snd = l.snd ∧ True ∧ false = false ∧ false = false ∧ (0 : Int) = (0 : Int) ∧ True ∧ True ∧ True ∧ (l.fst = l.fst ∧ l.snd = l.snd ∧ True) ∧ c = c ∧ v = v ∧ True) ∧ True ∧ True) ∧ ((0 : Int) = (↑x0 : 
  Int) ∧ (↑l.snd.length : Int) = (↑l.snd.length : Int) ∧ True ∧ (True ∧ True) ∧ True) ∧ (l.fst = l.fst ∧ l.snd = l.snd ∧ True) ∧ (c = c ∧ True) ∧ ((0 : Int) = (0 : Int) ∧ SV.val (Value.slice none (0 : Nat) (0 : Nat)) = 
  SV.val (Value.slice none (0 : Nat) (0 : Nat)) ∧ True) ∧ l.snd = l.snd ∧ True) ∧ ∀ (x : Nat), (x ≤ l.snd.length ∧ ((List.drop x l.snd).any fun (x : Int × Int) => x.fst == c) = l.snd.any fun (x : Int × Int) => x.fst == 
  c) → (decide ((↑x : Int) < (↑l.snd.length : Int)) = true → ((0 : Int) ≤ (↑x : Int) ∧ (↑x : Int) < (↑l.snd.length : Int)) ∧ (↑x : Int).toNat < l.snd.length ∧ ∀ (y : Int × Int), l.snd[(↑x : Int).toNat]? = some y → 
  ((y.fst == c) = true → (((↑x : Int) == (-1 : Int)) = true → (l.snd.length + [(c, v)].length) * (16 : Nat) ≤ (140737488355328 : Nat) ∧ dist (l.snd ++ [(c, v)]) = true ∧ (((makeE l.fst (l.snd ++ [(c, v)])).fst.fst = 
  (withG l c v).fst.fst ∧ (makeE l.fst (l.snd ++ [(c, v)])).fst.snd = (withG l c v).fst.snd ∧ True) ∧ (makeE l.fst (l.snd ++ [(c, v)])).snd = (withG l c v).snd ∧ True) ∧ True) ∧ (((↑x : Int) == (-1 : Int)) = false → ∃ 
  (x0 : Nat × Nat × List (Int × Int)), ((x0.fst < x0.snd.fst ∧ x0.snd.fst ≤ l.snd.length) ∧ x0.snd.snd.length = l.snd.length ∧ List.take x0.fst x0.snd.snd = List.filter (notC c) (List.take x0.snd.fst l.snd) ∧ List.drop 
  x0.snd.fst x0.snd.snd = List.drop x0.snd.fst l.snd) ∧ ((((True ∧ True) ∧ True ∧ l.snd = l.snd ∧ True ∧ false = false ∧ false = false ∧ (0 : Int) = (0 : Int) ∧ True ∧ True ∧ True ∧ (l.fst = l.fst ∧ l.snd = l.snd ∧ True) 
  ∧ c = c ∧ v = v ∧ True) ∧ True ∧ True) ∧ ((↑x : Int) = (↑x0.fst : Int) ∧ IntKind.i64.wrap ((↑x : Int) + (1 : Int)) = (↑x0.snd.fst : Int) ∧ false = false ∧ SV.val (Value.slice none (0 : Nat) (0 : Nat)) = SV.val 
  (Value.slice none (0 : Nat) (0 : Nat)) ∧ True ∧ (True ∧ True) ∧ True) ∧ (l.fst = l.fst ∧ l.snd = l.snd ∧ True) ∧ (c = c ∧ True) ∧ ((0 : Int) = (0 : Int) ∧ SV.val (Value.slice none (0 : Nat) (0 : Nat)) = SV.val 
  (Value.slice none (0 : Nat) (0 : Nat)) ∧ True) ∧ l.snd = x0.snd.snd ∧ (y.fst = y.fst ∧ y.snd = y.snd ∧ True) ∧ True) ∧ ∀ (x : Nat × Nat × List (Int × Int)), (x.fst < x.snd.fst ∧ x.snd.fst ≤ l.snd.length) ∧ 
  x.snd.snd.length = l.snd.length ∧ List.take x.fst x.snd.snd = List.filter (notC c) (List.take x.snd.fst l.snd) ∧ List.drop x.snd.fst x.snd.snd = List.drop x.snd.fst l.snd → x.snd.snd.length ≤ maxLen → (decide 
  ((↑x.snd.fst : Int) < (↑x.snd.snd.length : Int)) = true → ((0 : Int) ≤ (↑x.snd.fst : Int) ∧ (↑x.snd.fst : Int) < (↑x.snd.snd.length : Int)) ∧ (↑x.snd.fst : Int).toNat < x.snd.snd.length ∧ ∀ (y_1 : Int × Int), 
  x.snd.snd[(↑x.snd.fst : Int).toNat]? = some y_1 → ((!y_1.fst == c) = true → ((0 : Int) ≤ (↑x.fst : Int) ∧ (↑x.fst : Int) < (↑x.snd.snd.length : Int)) ∧ (↑x.fst : Int).toNat < x.snd.snd.length ∧ ∃ (x' : Nat × Nat × List 
  (Int × Int)), ((x'.fst < x'.snd.fst ∧ x'.snd.fst ≤ l.snd.length) ∧ x'.snd.snd.length = l.snd.length ∧ List.take x'.fst x'.snd.snd = List.filter (notC c) (List.take x'.snd.fst l.snd) ∧ List.drop x'.snd.fst x'.snd.snd = 
  List.drop x'.snd.fst l.snd) ∧ l.snd.length - x'.snd.fst < l.snd.length - x.snd.fst ∧ (((True ∧ True) ∧ True ∧ l.snd = l.snd ∧ True ∧ false = false ∧ false = false ∧ (0 : Int) = (0 : Int) ∧ True ∧ True ∧ True ∧ (l.fst = 
  l.fst ∧ l.snd = l.snd ∧ True) ∧ c = c ∧ v = v ∧ True) ∧ True ∧ True) ∧ (IntKind.i64.wrap ((↑x.fst : Int) + (1 : Int)) = (↑x'.fst : Int) ∧ IntKind.i64.wrap ((↑x.snd.fst : Int) + (1 : Int)) = (↑x'.snd.fst : Int) ∧ false 
  = false ∧ SV.val (Value.slice none (0 : Nat) (0 : Nat)) = SV.val (Value.slice none (0 : Nat) (0 : Nat)) ∧ True ∧ (True ∧ True) ∧ True) ∧ (l.fst = l.fst ∧ l.snd = l.snd ∧ True) ∧ (c = c ∧ True) ∧ ((0 : Int) = (0 : Int) 
  ∧ SV.val (Value.slice none (0 : Nat) (0 : Nat)) = SV.val (Value.slice none (0 : Nat) (0 : Nat)) ∧ True) ∧ x.snd.snd.set (↑x.fst : Int).toNat (y_1.fst, y_1.snd) = x'.snd.snd ∧ (y.fst = y.fst ∧ y.snd = y.snd ∧ True) ∧ 
  True) ∧ ((!y_1.fst == c) = false → ∃ (x' : Nat × Nat × List (Int × Int)), ((x'.fst < x'.snd.fst ∧ x'.snd.fst ≤ l.snd.length) ∧ x'.snd.snd.length = l.snd.length ∧ List.take x'.fst x'.snd.snd = List.filter (notC c) 
  (List.take x'.snd.fst l.snd) ∧ List.drop x'.snd.fst x'.snd.snd = List.drop x'.snd.fst l.snd) ∧ l.snd.length - x'.snd.fst < l.snd.length - x.snd.fst ∧ (((True ∧ True) ∧ True ∧ l.snd = l.snd ∧ True ∧ false = false ∧ 
  false = false ∧ (0 : Int) = (0 : Int) ∧ True ∧ True ∧ True ∧ (l.fst = l.fst ∧ l.snd = l.snd ∧ True) ∧ c = c ∧ v = v ∧ True) ∧ True ∧ True) ∧ ((↑x.fst : Int) = (↑x'.fst : Int) ∧ IntKind.i64.wrap ((↑x.snd.fst : Int) + (1 
  : Int)) = (↑x'.snd.fst : Int) ∧ false = false ∧ SV.val (Value.slice none (0 : Nat) (0 : Nat)) = SV.val (Value.slice none (0 : Nat) (0 : Nat)) ∧ True ∧ (True ∧ True) ∧ True) ∧ (l.fst = l.fst ∧ l.snd = l.snd ∧ True) ∧ (c 
  = c ∧ True) ∧ ((0 : Int) = (0 : Int) ∧ SV.val (Value.slice none (0 : Nat) (0 : Nat)) = SV.val (Value.slice none (0 : Nat) (0 : Nat)) ∧ True) ∧ x.snd.snd = x'.snd.snd ∧ (y.fst = y.fst ∧ y.snd = y.snd ∧ True) ∧ True)) ∧ 
  (decide ((↑x.snd.fst : Int) < (↑x.snd.snd.length : Int)) = false → ((0 : Int) ≤ none.getD (↑x.snd.snd.length : Int) ∧ none.getD (↑x.snd.snd.length : Int) ≤ (↑x.snd.snd.length : Int) ∧ (0 : Int) ≤ (some (↑x.fst : 
  Int)).getD (0 : Int) ∧ (some (↑x.fst : Int)).getD (0 : Int) ≤ none.getD (↑x.snd.snd.length : Int)) ∧ ((0 : Int) ≤ (some (↑x.fst : Int)).getD (↑(List.take ((some (↑x.fst : Int)).getD (0 : Int)).toNat x.snd.snd ++ 
  List.replicate ((none.getD (↑x.snd.snd.length : Int)).toNat - ((some (↑x.fst : Int)).getD (0 : Int)).toNat) ((0 : Int), (0 : Int)) ++ List.drop (none.getD (↑x.snd.snd.length : Int)).toNat x.snd.snd).length : Int) ∧ 
  (some (↑x.fst : Int)).getD (↑(List.take ((some (↑x.fst : Int)).getD (0 : Int)).toNat x.snd.snd ++ List.replicate ((none.getD (↑x.snd.snd.length : Int)).toNat - ((some (↑x.fst : Int)).getD (0 : Int)).toNat) ((0 : Int), 
  (0 : Int)) ++ List.drop (none.getD (↑x.snd.snd.length : Int)).toNat x.snd.snd).length : Int) ≤ (↑(List.take ((some (↑x.fst : Int)).getD (0 : Int)).toNat x.snd.snd ++ List.replicate ((none.getD (↑x.snd.snd.length : 
  Int)).toNat - ((some (↑x.fst : Int)).getD (0 : Int)).toNat) ((0 : Int), (0 : Int)) ++ List.drop (none.getD (↑x.snd.snd.length : Int)).toNat x.snd.snd).length : Int) ∧ (0 : Int) ≤ none.getD (0 : Int) ∧ none.getD (0 : 
  Int) ≤ (some (↑x.fst : Int)).getD (↑(List.take ((some (↑x.fst : Int)).getD (0 : Int)).toNat x.snd.snd ++ List.replicate ((none.getD (↑x.snd.snd.length : Int)).toNat - ((some (↑x.fst : Int)).getD (0 : Int)).toNat) ((0 : 
  Int), (0 : Int)) ++ List.drop (none.getD (↑x.snd.snd.length : Int)).toNat x.snd.snd).length : Int)) ∧ ((List.take ((some (↑x.fst : Int)).getD (↑(List.take ((some (↑x.fst : Int)).getD (0 : Int)).toNat x.snd.snd ++ 
  List.replicate ((none.getD (↑x.snd.snd.length : Int)).toNat - ((some (↑x.fst : Int)).getD (0 : Int)).toNat) ((0 : Int), (0 : Int)) ++ List.drop (none.getD (↑x.snd.snd.length : Int)).toNat x.snd.snd).length : 
  Int)).toNat (List.take ((some (↑x.fst : Int)).getD (0 : Int)).toNat x.snd.snd ++ List.replicate ((none.getD (↑x.snd.snd.length : Int)).toNat - ((some (↑x.fst : Int)).getD (0 : Int)).toNat) ((0 : Int), (0 : Int)) ++ 
  List.drop (none.getD (↑x.snd.snd.length : Int)).toNat x.snd.snd)).length + [(c, v)].length) * (16 : Nat) ≤ (140737488355328 : Nat) ∧ dist (List.take ((some (↑x.fst : Int)).getD (↑(List.take ((some (↑x.fst : Int)).getD 
  (0 : Int)).toNat x.snd.snd ++ List.replicate ((none.getD (↑x.snd.snd.length : Int)).toNat - ((some (↑x.fst : Int)).getD (0 : Int)).toNat) ((0 : Int), (0 : Int)) ++ List.drop (none.getD (↑x.snd.snd.length : Int)).toNat 
  x.snd.snd).length : Int)).toNat (List.take ((some (↑x.fst : Int)).getD (0 : Int)).toNat x.snd.snd ++ List.replicate ((none.getD (↑x.snd.snd.length : Int)).toNat - ((some (↑x.fst : Int)).getD (0 : Int)).toNat) ((0 : 
  Int), (0 : Int)) ++ List.drop (none.getD (↑x.snd.snd.length : Int)).toNat x.snd.snd) ++ [(c, v)]) = true ∧ (((makeE l.fst (List.take ((some (↑x.fst : Int)).getD (↑(List.take ((some (↑x.fst : Int)).getD (0 : Int)).toNat 
  x.snd.snd ++ List.replicate ((none.getD (↑x.snd.snd.length : Int)).toNat - ((some (↑x.fst : Int)).getD (0 : Int)).toNat) ((0 : Int), (0 : Int)) ++ List.drop (none.getD (↑x.snd.snd.length : Int)).toNat x.snd.snd).length 
  : Int)).toNat (List.take ((some (↑x.fst : Int)).getD (0 : Int)).toNat x.snd.snd ++ List.replicate ((none.getD (↑x.snd.snd.length : Int)).toNat - ((some (↑x.fst : Int)).getD (0 : Int)).toNat) ((0 : Int), (0 : Int)) ++ 
  List.drop (none.getD (↑x.snd.snd.length : Int)).toNat x.snd.snd) ++ [(c, v)])).fst.fst = (withG l c v).fst.fst ∧ (makeE l.fst (List.take ((some (↑x.fst : Int)).getD (↑(List.take ((some (↑x.fst : Int)).getD (0 : 
  Int)).toNat x.snd.snd ++ List.replicate ((none.getD (↑x.snd.snd.length : Int)).toNat - ((some (↑x.fst : Int)).getD (0 : Int)).toNat) ((0 : Int), (0 : Int)) ++ List.drop (none.getD (↑x.snd.snd.length : Int)).toNat 
  x.snd.snd).length : Int)).toNat (List.take ((some (↑x.fst : Int)).getD (0 : Int)).toNat x.snd.snd ++ List.replicate ((none.getD (↑x.snd.snd.length : Int)).toNat - ((some (↑x.fst : Int)).getD (0 : Int)).toNat) ((0 : 
  Int), (0 : Int)) ++ List.drop (none.getD (↑x.snd.snd.length : Int)).toNat x.snd.snd) ++ [(c, v)])).fst.snd = (withG l c v).fst.snd ∧ True) ∧ (makeE l.fst (List.take ((some (↑x.fst : Int)).getD (↑(List.take ((some 
  (↑x.fst : Int)).getD (0 : Int)).toNat x.snd.snd ++ List.replicate ((none.getD (↑x.snd.snd.length : Int)).toNat - ((some (↑x.fst : Int)).getD (0 : Int)).toNat) ((0 : Int), (0 : Int)) ++ List.drop (none.getD 
  (↑x.snd.snd.length : Int)).toNat x.snd.snd).length : Int)).toNat (List.take ((some (↑x.fst : Int)).getD (0 : Int)).toNat x.snd.snd ++ List.replicate ((none.getD (↑x.snd.snd.length : Int)).toNat - ((some (↑x.fst : 
  Int)).getD (0 : Int)).toNat) ((0 : Int), (0 : Int)) ++ List.drop (none.getD (↑x.snd.snd.length : Int)).toNat x.snd.snd) ++ [(c, v)])).snd = (withG l c v).snd ∧ True) ∧ True))) ∧ ((y.fst == c) = false → ∃ (x' : Nat), 
  (x' ≤ l.snd.length ∧ ((List.drop x' l.snd).any fun (x : Int × Int) => x.fst == c) = l.snd.any fun (x : Int × Int) => x.fst == c) ∧ l.snd.length - x' < l.snd.length - x ∧ (((True ∧ True) ∧ True ∧ SV.val (Value.slice 
  none (0 : Nat) (0 : Nat)) = SV.val (Value.slice none (0 : Nat) (0 : Nat)) ∧ True ∧ (True ∧ True) ∧ True) ∧ ((True ∧ True) ∧ True ∧ l.snd = l.snd ∧ True ∧ false = false ∧ false = false ∧ (0 : Int) = (0 : Int) ∧ True ∧ 
  True ∧ True ∧ (l.fst = l.fst ∧ l.snd = l.snd ∧ True) ∧ c = c ∧ v = v ∧ True) ∧ True ∧ True) ∧ (IntKind.i64.wrap ((↑x : Int) + (1 : Int)) = (↑x' : Int) ∧ (↑l.snd.length : Int) = (↑l.snd.length : Int) ∧ True ∧ (True ∧ 
  True) ∧ True) ∧ (l.fst = l.fst ∧ l.snd = l.snd ∧ True) ∧ (c = c ∧ True) ∧ ((0 : Int) = (0 : Int) ∧ SV.val (Value.slice none (0 : Nat) (0 : Nat)) = SV.val (Value.slice none (0 : Nat) (0 : Nat)) ∧ True) ∧ l.snd = l.snd ∧ 
  True)) ∧ (decide ((↑x : Int) < (↑l.snd.length : Int)) = false → (((-1 : Int) == (-1 : Int)) = true → (l.snd.length + [(c, v)].length) * (16 : Nat) ≤ (140737488355328 : Nat) ∧ dist (l.snd ++ [(c, v)]) = true ∧ (((makeE 
  l.fst (l.snd ++ [(c, v)])).fst.fst = (withG l c v).fst.fst ∧ (makeE l.fst (l.snd ++ [(c, v)])).fst.snd = (withG l c v).fst.snd ∧ True) ∧ (makeE l.fst (l.snd ++ [(c, v)])).snd = (withG l c v).snd ∧ True) ∧ True) ∧ (((-1 
  : Int) == (-1 : Int)) = false → ∃ (x0 : Nat × Nat × List (Int × Int)), ((x0.fst < x0.snd.fst ∧ x0.snd.fst ≤ l.snd.length) ∧ x0.snd.snd.length = l.snd.length ∧ List.take x0.fst x0.snd.snd = List.filter (notC c) 
  (List.take x0.snd.fst l.snd) ∧ List.drop x0.snd.fst x0.snd.snd = List.drop x0.snd.fst l.snd) ∧ ((((True ∧ True) ∧ True ∧ l.snd = l.snd ∧ True ∧ false = false ∧ false = false ∧ (0 : Int) = (0 : Int) ∧ True ∧ True ∧ True 
  ∧ (l.fst = l.fst ∧ l.snd = l.snd ∧ True) ∧ c = c ∧ v = v ∧ True) ∧ True ∧ True) ∧ ((-1 : Int) = (↑x0.fst : Int) ∧ IntKind.i64.wrap ((-1 : Int) + (1 : Int)) = (↑x0.snd.fst : Int) ∧ false = false ∧ SV.val (Value.slice 
  none (0 : Nat) (0 : Nat)) = SV.val (Value.slice none (0 : Nat) (0 : Nat)) ∧ True ∧ (True ∧ True) ∧ True) ∧ (l.fst = l.fst ∧ l.snd = l.snd ∧ True) ∧ (c = c ∧ True) ∧ ((0 : Int) = (0 : Int) ∧ SV.val (Value.slice none (0 
  : Nat) (0 : Nat)) = SV.val (Value.slice none (0 : Nat) (0 : Nat)) ∧ True) ∧ l.snd = x0.snd.snd ∧ True) ∧ ∀ (x : Nat × Nat × List (Int × Int)), (x.fst < x.snd.fst ∧ x.snd.fst ≤ l.snd.length) ∧ x.snd.snd.length = 
  l.snd.length ∧ List.take x.fst x.snd.snd = List.filter (notC c) (List.take x.snd.fst l.snd) ∧ List.drop x.snd.fst x.snd.snd = List.drop x.snd.fst l.snd → x.snd.snd.length ≤ maxLen → (decide ((↑x.snd.fst : Int) < 
  (↑x.snd.snd.length : Int)) = true → ((0 : Int) ≤ (↑x.snd.fst : Int) ∧ (↑x.snd.fst : Int) < (↑x.snd.snd.length : Int)) ∧ (↑x.snd.fst : Int).toNat < x.snd.snd.length ∧ ∀ (y : Int × Int), x.snd.snd[(↑x.snd.fst : 
  Int).toNat]? = some y → ((!y.fst == c) = true → ((0 : Int) ≤ (↑x.fst : Int) ∧ (↑x.fst : Int) < (↑x.snd.snd.length : Int)) ∧ (↑x.fst : Int).toNat < x.snd.snd.length ∧ ∃ (x' : Nat × Nat × List (Int × Int)), ((x'.fst < 
  x'.snd.fst ∧ x'.snd.fst ≤ l.snd.length) ∧ x'.snd.snd.length = l.snd.length ∧ List.take x'.fst x'.snd.snd = List.filter (notC c) (List.take x'.snd.fst l.snd) ∧ List.drop x'.snd.fst x'.snd.snd = List.drop x'.snd.fst 
  l.snd) ∧ l.snd.length - x'.snd.fst < l.snd.length - x.snd.fst ∧ (((True ∧ True) ∧ True ∧ l.snd = l.snd ∧ True ∧ false = false ∧ false = false ∧ (0 : Int) = (0 : Int) ∧ True ∧ True ∧ True ∧ (l.fst = l.fst ∧ l.snd = 
  l.snd ∧ True) ∧ c = c ∧ v = v ∧ True) ∧ True ∧ True) ∧ (IntKind.i64.wrap ((↑x.fst : Int) + (1 : Int)) = (↑x'.fst : Int) ∧ IntKind.i64.wrap ((↑x.snd.fst : Int) + (1 : Int)) = (↑x'.snd.fst : Int) ∧ false = false ∧ SV.val 
  (Value.slice none (0 : Nat) (0 : Nat)) = SV.val (Value.slice none (0 : Nat) (0 : Nat)) ∧ True ∧ (True ∧ True) ∧ True) ∧ (l.fst = l.fst ∧ l.snd = l.snd ∧ True) ∧ (c = c ∧ True) ∧ ((0 : Int) = (0 : Int) ∧ SV.val 
  (Value.slice none (0 : Nat) (0 : Nat)) = SV.val (Value.slice none (0 : Nat) (0 : Nat)) ∧ True) ∧ x.snd.snd.set (↑x.fst : Int).toNat (y.fst, y.snd) = x'.snd.snd ∧ True) ∧ ((!y.fst == c) = false → ∃ (x' : Nat × Nat × 
  List (Int × Int)), ((x'.fst < x'.snd.fst ∧ x'.snd.fst ≤ l.snd.length) ∧ x'.snd.snd.length = l.snd.length ∧ List.take x'.fst x'.snd.snd = List.filter (notC c) (List.take x'.snd.fst l.snd) ∧ List.drop x'.snd.fst 
  x'.snd.snd = List.drop x'.snd.fst l.snd) ∧ l.snd.length - x'.snd.fst < l.snd.length - x.snd.fst ∧ (((True ∧ True) ∧ True ∧ l.snd = l.snd ∧ True ∧ false = false ∧ false = false ∧ (0 : Int) = (0 : Int) ∧ True ∧ True ∧ 
  True ∧ (l.fst = l.fst ∧ l.snd = l.snd ∧ True) ∧ c = c ∧ v = v ∧ True) ∧ True ∧ True) ∧ ((↑x.fst : Int) = (↑x'.fst : Int) ∧ IntKind.i64.wrap ((↑x.snd.fst : Int) + (1 : Int)) = (↑x'.snd.fst : Int) ∧ false = false ∧ 
  SV.val (Value.slice none (0 : Nat) (0 : Nat)) = SV.val (Value.slice none (0 : Nat) (0 : Nat)) ∧ True ∧ (True ∧ True) ∧ True) ∧ (l.fst = l.fst ∧ l.snd = l.snd ∧ True) ∧ (c = c ∧ True) ∧ ((0 : Int) = (0 : Int) ∧ SV.val 
  (Value.slice none (0 : Nat) (0 : Nat)) = SV.val (Value.slice none (0 : Nat) (0 : Nat)) ∧ True) ∧ x.snd.snd = x'.snd.snd ∧ True)) ∧ (decide ((↑x.snd.fst : Int) < (↑x.snd.snd.length : Int)) = false → ((0 : Int) ≤ 
  none.getD (↑x.snd.snd.length : Int) ∧ none.getD (↑x.snd.snd.length : Int) ≤ (↑x.snd.snd.length : Int) ∧ (0 : Int) ≤ (some (↑x.fst : Int)).getD (0 : Int) ∧ (some (↑x.fst : Int)).getD (0 : Int) ≤ none.getD 
  (↑x.snd.snd.length : Int)) ∧ ((0 : Int) ≤ (some (↑x.fst : Int)).getD (↑(List.take ((some (↑x.fst : Int)).getD (0 : Int)).toNat x.snd.snd ++ List.replicate ((none.getD (↑x.snd.snd.length : Int)).toNat - ((some (↑x.fst : 
  Int)).getD (0 : Int)).toNat) ((0 : Int), (0 : Int)) ++ List.drop (none.getD (↑x.snd.snd.length : Int)).toNat x.snd.snd).length : Int) ∧ (some (↑x.fst : Int)).getD (↑(List.take ((some (↑x.fst : Int)).getD (0 : 
  Int)).toNat x.snd.snd ++ List.replicate ((none.getD (↑x.snd.snd.length : Int)).toNat - ((some (↑x.fst : Int)).getD (0 : Int)).toNat) ((0 : Int), (0 : Int)) ++ List.drop (none.getD (↑x.snd.snd.length : Int)).toNat 
  x.snd.snd).length : Int) ≤ (↑(List.take ((some (↑x.fst : Int)).getD (0 : Int)).toNat x.snd.snd ++ List.replicate ((none.getD (↑x.snd.snd.length : Int)).toNat - ((some (↑x.fst : Int)).getD (0 : Int)).toNat) ((0 : Int), 
  (0 : Int)) ++ List.drop (none.getD (↑x.snd.snd.length : Int)).toNat x.snd.snd).length : Int) ∧ (0 : Int) ≤ none.getD (0 : Int) ∧ none.getD (0 : Int) ≤ (some (↑x.fst : Int)).getD (↑(List.take ((some (↑x.fst : Int)).getD 
  (0 : Int)).toNat x.snd.snd ++ List.replicate ((none.getD (↑x.snd.snd.length : Int)).toNat - ((some (↑x.fst : Int)).getD (0 : Int)).toNat) ((0 : Int), (0 : Int)) ++ List.drop (none.getD (↑x.snd.snd.length : Int)).toNat 
  x.snd.snd).length : Int)) ∧ ((List.take ((some (↑x.fst : Int)).getD (↑(List.take ((some (↑x.fst : Int)).getD (0 : Int)).toNat x.snd.snd ++ List.replicate ((none.getD (↑x.snd.snd.length : Int)).toNat - ((some (↑x.fst : 
  Int)).getD (0 : Int)).toNat) ((0 : Int), (0 : Int)) ++ List.drop (none.getD (↑x.snd.snd.length : Int)).toNat x.snd.snd).length : Int)).toNat (List.take ((some (↑x.fst : Int)).getD (0 : Int)).toNat x.snd.snd ++ 
  List.replicate ((none.getD (↑x.snd.snd.length : Int)).toNat - ((some (↑x.fst : Int)).getD (0 : Int)).toNat) ((0 : Int), (0 : Int)) ++ List.drop (none.getD (↑x.snd.snd.length : Int)).toNat x.snd.snd)).length + [(c, 
  v)].length) * (16 : Nat) ≤ (140737488355328 : Nat) ∧ dist (List.take ((some (↑x.fst : Int)).getD (↑(List.take ((some (↑x.fst : Int)).getD (0 : Int)).toNat x.snd.snd ++ List.replicate ((none.getD (↑x.snd.snd.length : 
  Int)).toNat - ((some (↑x.fst : Int)).getD (0 : Int)).toNat) ((0 : Int), (0 : Int)) ++ List.drop (none.getD (↑x.snd.snd.length : Int)).toNat x.snd.snd).length : Int)).toNat (List.take ((some (↑x.fst : Int)).getD (0 : 
  Int)).toNat x.snd.snd ++ List.replicate ((none.getD (↑x.snd.snd.length : Int)).toNat - ((some (↑x.fst : Int)).getD (0 : Int)).toNat) ((0 : Int), (0 : Int)) ++ List.drop (none.getD (↑x.snd.snd.length : Int)).toNat 
  x.snd.snd) ++ [(c, v)]) = true ∧ (((makeE l.fst (List.take ((some (↑x.fst : Int)).getD (↑(List.take ((some (↑x.fst : Int)).getD (0 : Int)).toNat x.snd.snd ++ List.replicate ((none.getD (↑x.snd.snd.length : Int)).toNat 
  - ((some (↑x.fst : Int)).getD (0 : Int)).toNat) ((0 : Int), (0 : Int)) ++ List.drop (none.getD (↑x.snd.snd.length : Int)).toNat x.snd.snd).length : Int)).toNat (List.take ((some (↑x.fst : Int)).getD (0 : Int)).toNat 
  x.snd.snd ++ List.replicate ((none.getD (↑x.snd.snd.length : Int)).toNat - ((some (↑x.fst : Int)).getD (0 : Int)).toNat) ((0 : Int), (0 : Int)) ++ List.drop (none.getD (↑x.snd.snd.length : Int)).toNat x.snd.snd) ++ 
  [(c, v)])).fst.fst = (withG l c v).fst.fst ∧ (makeE l.fst (List.take ((some (↑x.fst : Int)).getD (↑(List.take ((some (↑x.fst : Int)).getD (0 : Int)).toNat x.snd.snd ++ List.replicate ((none.getD (↑x.snd.snd.length : 
  Int)).toNat - ((some (↑x.fst : Int)).getD (0 : Int)).toNat) ((0 : Int), (0 : Int)) ++ List.drop (none.getD (↑x.snd.snd.length : Int)).toNat x.snd.snd).length : Int)).toNat (List.take ((some (↑x.fst : Int)).getD (0 : 
  Int)).toNat x.snd.snd ++ List.replicate ((none.getD (↑x.snd.snd.length : Int)).toNat - ((some (↑x.fst : Int)).getD (0 : Int)).toNat) ((0 : Int), (0 : Int)) ++ List.drop (none.getD (↑x.snd.snd.length : Int)).toNat 
  x.snd.snd) ++ [(c, v)])).fst.snd = (withG l c v).fst.snd ∧ True) ∧ (makeE l.fst (List.take ((some (↑x.fst : Int)).getD (↑(List.take ((some (↑x.fst : Int)).getD (0 : Int)).toNat x.snd.snd ++ List.replicate ((none.getD 
  (↑x.snd.snd.length : Int)).toNat - ((some (↑x.fst : Int)).getD (0 : Int)).toNat) ((0 : Int), (0 : Int)) ++ List.drop (none.getD (↑x.snd.snd.length : Int)).toNat x.snd.snd).length : Int)).toNat (List.take ((some (↑x.fst 
  : Int)).getD (0 : Int)).toNat x.snd.snd ++ List.replicate ((none.getD (↑x.snd.snd.length : Int)).toNat - ((some (↑x.fst : Int)).getD (0 : Int)).toNat) ((0 : Int), (0 : Int)) ++ List.drop (none.getD (↑x.snd.snd.length : 
  Int)).toNat x.snd.snd) ++ [(c, v)])).snd = (withG l c v).snd ∧ True) ∧ True)))))) := by kernel_rfl
theorem downN_vc (l : Lab) : fvc PP (eP [p69]) Tryd.f38 c38 (ofArgs [lab] (l, ())) St0 (gives [lab] (downL l, ())) = (
  decide (l.snd.length ≤ (1000000 : Nat)) = true ∧ ((turnL (l.fst, l.snd) (5 : Int) (0 : Int)).fst = (downL l).fst ∧ (turnL (l.fst, l.snd) (5 : Int) (0 : Int)).snd = (downL l).snd ∧ True) ∧ True) := by kernel_rfl
end Go.Proofs.YtblhojadchbcnaaDoor
namespace Go.Proofs.YtblhojadchbcnaaDoor
open Go.Proofs.YtblhojadchbcnaaDoor.Gx
set_option maxRecDepth 100000
set_option maxHeartbeats 4000000
set_option linter.unusedSimpArgs false
set_option linter.unusedVariables false
theorem downN_ok : PSpecOk PP 38 (Q [lab] [lab] (fun x => sml x.1) (fun x => (downL x.1, ()))) := by
  refine pspec_Q mixed (fn := Tryd.f38) (c := c38) rfl rfl _ _ rfl ?_
  rintro ⟨l, ⟨⟩⟩ - hp
  refine ⟨_, env_ok [p69] [] [] [] [], rfl, hold (downN_vc l) ?_⟩
  simp only [true_and, and_true]
  exact ⟨hp, rfl, rfl⟩
theorem few_filter {l : Lab} {c v : Int} (h : few l = true) : dist (l.2.filter (notC c) ++ [(c, v)]) = true := by
  simp only [few, Bool.and_eq_true, decide_eq_true_eq] at h
  have hl := List.length_filter_le (notC c) l.2
  simp only [dist, Bool.and_eq_true, decide_eq_true_eq, List.length_append, List.length_cons, List.length_nil, List.map_append, List.map_cons, List.map_nil]
  refine ⟨by omega, List.nodup_append.2 ⟨List.Nodup.sublist ((List.filter_sublist (p := notC c)).map _) h.2, by simp, ?_⟩⟩
  intro a ha b hb
  simp only [List.mem_singleton] at hb
  obtain ⟨x, hx, rfl⟩ := List.mem_map.1 ha
  rw [hb]
  have := (List.mem_filter.1 hx).2
  simpa [notC] using this
theorem nodup_before {l : List (Int × Int)} (hd : (l.map (·.1)).Nodup) {i : Nat} {x : Int × Int} (hx : l[i]? = some x) : (l.take i).filter (notC x.1) = l.take i := by
  rw [List.filter_eq_self]
  intro y hy
  obtain ⟨j, hj⟩ := List.mem_iff_getElem?.1 hy
  rw [List.getElem?_take] at hj
  split at hj
  · rename_i hji
    obtain ⟨h1, rfl⟩ := List.getElem?_eq_some_iff.1 hj
    obtain ⟨h2, rfl⟩ := List.getElem?_eq_some_iff.1 hx
    unfold List.Nodup at hd
    rw [List.pairwise_iff_getElem] at hd
    have := hd j i (by simpa using h1) (by simpa using h2) hji
    simp only [List.getElem_map] at this
    simpa [notC] using this
  · cases hj
theorem withG_ok : PSpecOk PP 35 (Q [lab, i64, i64] [lab, i64] (fun x => few x.1) (fun x => ((withG x.1 x.2.1 x.2.2.1).1, (withG x.1 x.2.1 x.2.2.1).2, ()))) := by
  refine pspec_Q mixed (fn := Tryd.f35) (c := c35) rfl rfl _ _ rfl ?_
  rintro ⟨l, c, v, ⟨⟩⟩ - hp
  have hp : few l = true := hp
  have hp' := hp
  simp only [few, Bool.and_eq_true, decide_eq_true_eq] at hp'
  obtain ⟨hlen, hnd⟩ := hp'
  have hD := few_filter (c := c) (v := v) hp
  refine ⟨_, env_ok [p14] [s49, s67S c] [] [] [], rfl, hold (withG_vc l c v) ?_⟩
  simp only [true_and, and_true, Prod.eta, Option.getD_some, Option.getD_none, Int.toNat_natCast]
  refine ⟨!(catB c && levelB v), ?_, fun h => ?_, fun h => ⟨by simp; omega, fun hA => ⟨0, ⟨by simp, rfl⟩, rfl, ?_⟩⟩⟩
  · exact cat_or c v
  · have h : (catB c && levelB v) = false := by cases hb : (catB c && levelB v) <;> simp_all
    simp [withG, h]
  · have h : (catB c && levelB v) = true := by cases hb : (catB c && levelB v) <;> simp_all
    have hW : withG l c v = makeE l.1 (l.2.filter (notC c) ++ [(c, v)]) := by simp [withG, h]
    rw [hW]
    rintro i ⟨hi, hinv⟩
    have hz : ((-1 : Int) == -1) = true := rfl
    have hM := maxLen_eq
    have hfl := List.length_filter_le (notC c) l.2
    rcases get_cases l.2 i hi with ⟨x, hx, hi'⟩ | ⟨hx, hi'⟩
    · refine ⟨fun _ => ⟨by omega, by omega, fun y hy => ?_⟩, fun h => by simp at h; omega⟩
      obtain rfl : x = y := by simpa [hx] using hy
      rw [drop_get hx, List.any_cons] at hinv
      refine ⟨fun hc => ⟨fun hm => ?_, fun _ => ?_⟩, fun hc => ⟨i + 1, ⟨by omega, by rw [hc, Bool.false_or] at hinv; exact hinv⟩, by omega, wrap_succ hi' hA⟩⟩
      · exfalso
        have : ((i : Int) == -1) = true := hm
        simp at this
      · have hc : x.1 = c := by simpa using hc
        refine ⟨(i, i + 1, l.2), ⟨⟨by simp only; omega, by simp only; omega⟩, rfl, ?_, rfl⟩, ⟨⟨rfl, wrap_succ hi' hA⟩, rfl⟩, ?_⟩
        · simp only
          rw [take_snoc' hx, List.filter_append, ← hc, nodup_before hnd hx]
          simp [notC]
        · rintro ⟨a, j, xs⟩ ⟨⟨h1, h2⟩, h3, h4, h5⟩ h6
          simp only at h1 h2 h3 h4 h5 h6 ⊢
          refine ⟨fun hlt => ?_, fun hlt => ?_⟩
          · have hj : j < xs.length := by simp at hlt; omega
            refine ⟨by omega, by omega, fun y hy => ?_⟩
            have hyb : l.2[j]? = some y := by
              have e1 : (xs.drop j)[0]? = some y := by rw [List.getElem?_drop]; simpa using hy
              rw [h5, List.getElem?_drop] at e1
              simpa using e1
            have hjl : j < l.2.length := by omega
            have hdj : ∀ zs : List (Int × Int), zs.drop j = l.2.drop j → zs.drop (j + 1) = l.2.drop (j + 1) := by
              intro zs hz
              rw [← List.drop_drop, ← List.drop_drop, hz]
            refine ⟨fun hn => ⟨by omega, by omega, (a + 1, j + 1, xs.set a y), ⟨⟨by simp only; omega, by simp only; omega⟩, by simp only [List.length_set]; exact h3, ?_, ?_⟩, by simp only; omega, ⟨wrap_succ (n := l.2.length) (by omega) hA, wrap_succ hjl hA⟩, rfl⟩, fun hn => ⟨(a, j + 1, xs), ⟨⟨by simp only; omega, by simp only; omega⟩, h3, ?_, hdj _ h5⟩, by simp only; omega, ⟨rfl, wrap_succ hjl hA⟩, rfl⟩⟩
            · simp only
              have e1 : (xs.set a y).take (a + 1) = xs.take a ++ [y] := by
                rw [take_snoc' (x := y) (by rw [List.getElem?_set_self (by omega)])]
                rw [List.take_set_of_le (Nat.le_refl _)]
              rw [e1, h4, take_snoc' hyb, List.filter_append]
              congr 1
              have hn' : (!(y.1 == c)) = true := hn
              have : notC c y = true := hn'
              simp [this]
            · simp only
              rw [List.drop_set_of_lt (by omega)]
              exact hdj _ h5
            · simp only
              rw [h4, take_snoc' hyb, List.filter_append]
              have hn' : (!(y.1 == c)) = false := hn
              have : notC c y = false := hn'
              simp [this]
          · have hj : j = l.2.length := by simp at hlt; omega
            subst hj
            rw [List.take_length] at h4
            have hX : (xs.take a ++ List.replicate (xs.length - a) ((0 : Int), (0 : Int)) ++ xs.drop xs.length).take a = l.2.filter (notC c) := by
              rw [List.append_assoc, List.take_append_of_le_length (by rw [List.length_take]; omega), List.take_take, Nat.min_self, h4]
            have hXl : (xs.take a ++ List.replicate (xs.length - a) ((0 : Int), (0 : Int)) ++ xs.drop xs.length).length = xs.length := by
              simp only [List.length_append, List.length_take, List.length_replicate, List.length_drop]; omega
            simp only [hXl, hX, hD, true_and]
            refine ⟨by omega, by omega, ?_, trivial⟩
            simp only [List.length_cons, List.length_nil]; omega
    · subst hi'
      refine ⟨fun h => by simp at h, fun _ => ⟨fun _ => ?_, (fun h => by rw [hz] at h; cases h)⟩⟩
      have hnone : l.2.filter (notC c) = l.2 := by
        rw [List.filter_eq_self]
        intro y hy
        rw [List.drop_length] at hinv
        have : l.2.any (fun x => x.1 == c) = false := hinv.symm
        rw [List.any_eq_false] at this
        have := this y hy
        simpa [notC] using this
      rw [hnone] at hD ⊢
      exact ⟨by simp only [List.length_cons, List.length_nil]; omega, hD, ⟨rfl, rfl⟩, rfl⟩
end Go.Proofs.YtblhojadchbcnaaDoor
namespace Go.Proofs.YtblhojadchbcnaaDoor
open Go.Proofs.YtblhojadchbcnaaDoor.Gx
set_option maxRecDepth 100000
set_option maxHeartbeats 0
noncomputable def p35g : Pv PP := ⟨35, _, ⟨rfl, withG_ok⟩⟩
noncomputable def p38 : Pv PP := ⟨38, _, ⟨rfl, downN_ok⟩⟩
theorem turns_vc (l : Lab) (k v : Int) : fvc PP (eP [p13, p17, p35g, p36', p16, p25, p37, p24, p38]) Tryd.f10 c10 (ofArgs [lab, i64, i64] (l, k, v, ())) St0 (gives [.bool] (true, ())) = (
  true = true ∧ ((!true) = true → false = true ∧ True) ∧ ((!true) = false → true = true ∧ ((!rightsL [(l.fst, l.snd)]) = true → true = true ∧ True) ∧ ((!rightsL [(l.fst, l.snd)]) = false → few (l.fst, l.snd) = true ∧ few 
  (l.fst, l.snd) = true ∧ ∃ (v_1 : Bool), ((((withG (l.fst, l.snd) k v).snd == (withNL (l.fst, l.snd) k v).snd) = true → true = true ∧ (sameL ((withG (l.fst, l.snd) k v).fst.fst, (withG (l.fst, l.snd) k v).fst.snd) 
  ((withNL (l.fst, l.snd) k v).fst.fst, (withNL (l.fst, l.snd) k v).fst.snd) = true → decide (l.snd.length ≤ (1000000 : Nat)) = true ∧ decide (l.snd.length ≤ (1000000 : Nat)) = true ∧ true = true ∧ (sameL ((upL (l.fst, 
  l.snd)).fst, (upL (l.fst, l.snd)).snd) ((upL (l.fst, l.snd)).fst, (upL (l.fst, l.snd)).snd) = true → sml (l.fst, l.snd) = true ∧ sml (l.fst, l.snd) = true ∧ true = true ∧ sameL ((downL (l.fst, l.snd)).fst, (downL 
  (l.fst, l.snd)).snd) ((downL (l.fst, l.snd)).fst, (downL (l.fst, l.snd)).snd) = v_1) ∧ (sameL ((upL (l.fst, l.snd)).fst, (upL (l.fst, l.snd)).snd) ((upL (l.fst, l.snd)).fst, (upL (l.fst, l.snd)).snd) = !true → false = 
  v_1)) ∧ (sameL ((withG (l.fst, l.snd) k v).fst.fst, (withG (l.fst, l.snd) k v).fst.snd) ((withNL (l.fst, l.snd) k v).fst.fst, (withNL (l.fst, l.snd) k v).fst.snd) = !true → false = v_1)) ∧ (((withG (l.fst, l.snd) k 
  v).snd == (withNL (l.fst, l.snd) k v).snd) = !true → false = v_1)) ∧ v_1 = true ∧ True))) := by kernel_rfl
end Go.Proofs.YtblhojadchbcnaaDoor
namespace Go.Proofs.YtblhojadchbcnaaDoor
open Go.Proofs.YtblhojadchbcnaaDoor.Gx
set_option maxRecDepth 100000
set_option maxHeartbeats 4000000
set_option linter.unusedSimpArgs false
set_option linter.unusedVariables false
theorem few_right {l : Lab} (h : rightL l = true) : few l = true := by
  have := right_few h
  simp only [few, Bool.and_eq_true, decide_eq_true_eq]; exact this
theorem withG_eq {l : Lab} {k v : Int} (hl : rightL l = true) : withG l k v = withNL l k v := by
  unfold withG withNL
  cases hkv : catB k && levelB v
  · rfl
  · rw [cond_true, cond_true]
    rw [Bool.and_eq_true] at hkv
    obtain ⟨hk, hv⟩ := hkv
    have hss := srt_ss _ (right_srt hl)
    have hw : wrongE l.1 (l.2.filter (notC k) ++ [(k, v)]) = false := by
      rw [wrongE_snoc, hk, hv]
      have h1 : levelB l.1 = true := levelB_iff.2 (right_def hl)
      have h2 : ((l.2.filter (notC k)).any fun x => !levelB x.2 || !catB x.1) = false := by
        rw [List.any_eq_false]
        intro x hx
        have := right_mem hl x (List.mem_filter.1 hx).1
        simp [this.1, this.2.1]
      simp [wrongE, h1, h2]
    have hrow : ((sortE (l.2.filter (notC k) ++ [(k, v)])).filter fun x => !(x.2 == l.1)) = buildR l.1 (fun c => if c = k then v else atL l c) (namedL [l, (0, [(k, v)])]) := by
      refine ss_ext _ _ ?_ (build_ss (named_sorted _)) fun x => ?_
      · refine List.Pairwise.filter _ (sort_ss ?_)
        have := few_filter (c := k) (v := v) (few_right hl)
        simp only [dist, Bool.and_eq_true, decide_eq_true_eq] at this
        exact this.2
      · rw [List.mem_filter, sort_mem, build_mem, mem_namedL, List.mem_append, List.mem_singleton, List.mem_filter]
        simp only [Bool.not_eq_true', beq_eq_false_iff_ne, List.mem_cons, List.not_mem_nil, or_false, exists_eq_or_imp, exists_eq_left, notC]
        constructor
        · rintro ⟨⟨h, hne⟩ | h, h2⟩
          · refine ⟨.inl ⟨x, h, rfl⟩, ?_, h2⟩
            rw [if_neg hne]
            exact (ss_at _ hss x h).symm
          · subst h; exact ⟨.inr rfl, by simp, h2⟩
        · rintro ⟨h1, h2, h3⟩
          refine ⟨?_, h3⟩
          by_cases e : x.1 = k
          · rw [if_pos e] at h2; exact .inr (Prod.ext e h2)
          · rw [if_neg e] at h2
            rcases h1 with h1 | h1
            · left
              have := at_mem (d := l.1) l.2 h1
              rw [show x = (x.1, atR l.1 l.2 x.1) from Prod.ext rfl h2]; exact ⟨this, e⟩
            · exact absurd h1.symm e
    simp only [makeE, hw, cond_false, hrow]
theorem turns_ok : PSpecOk PP 10 (Q [lab, i64, i64] [.bool] (fun _ => true) (fun _ => (true, ()))) := by
  refine pspec_Q mixed (fn := Tryd.f10) (c := c10) rfl rfl _ _ rfl ?_
  rintro ⟨l, k, v, ⟨⟩⟩ - -
  refine ⟨_, env_ok [p13, p17, p35g, p36', p16, p25, p37, p24, p38] [] [] [] [], rfl, hold (turns_vc l k v) ?_⟩
  simp only [true_and, and_true, Prod.eta]
  refine ⟨fun h => by simp at h, fun _ => ⟨fun _ => trivial, fun h => ?_⟩⟩
  simp [rightsL] at h
  have hs := sml_right h
  have hd : decide (l.2.length ≤ 1000000) = true := hs
  simp only [few_right h, hs, hd, withG_eq h, same_self, beq_self_eq_true, true_and]
  simp
end Go.Proofs.YtblhojadchbcnaaDoor
