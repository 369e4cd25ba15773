/- What the functions of the program give, one by one, and the law. -/
import Derived.Test.YthoaelmomocohaaWbHk
namespace Go.Proofs.Ythoaelmomocohaa
open Go.Proofs.Ythoaelmomocohaa.Gx
set_option maxRecDepth 100000
set_option linter.unusedVariables false
set_option maxHeartbeats 0
noncomputable def s17 : Sv PP := ⟨17, inl PP e0 Try.f17 c17, ⟨rfl, inl_ok (env_ok ..) rfl mixed rfl rfl⟩⟩
/-- The boxes that link to 600 still: made. Each stands in the root, is a container with 600 alone in it; 600 is a segment of so many links. -/
structure LkInv (q : Int) (T : Tb) (made : List Int) : Prop where
  wf : WfT T
  root : T.2 = 1
  nodup : made.Nodup
  few : made.length ≤ 13
  box : ∀ b ∈ made, ∃ o, lookL T.1 b = some o ∧ kindOf o = 1 ∧ o.2 = [600]
  top : ∀ b ∈ made, b ∈ (obL T.1 1).2
  seg : made ≠ [] → ∃ o, lookL T.1 600 = some o ∧ kindOf o = 2 ∧ quotaOf o = q ∧ linksOf o = (made.length : Int)
  out : made = [] → lookL T.1 600 = none
structure LkA (q n : Int) (i : Nat) (T : Tb) (made : List Int) : Prop where
  inv : LkInv q T made
  len : made.length = i + 1
  le : (i : Int) ≤ n
  ids : ∀ b ∈ made, b = 500 ∨ (10 ≤ b ∧ b < 10 + (i : Int))
  room : ∃ o, lookL T.1 1 = some o ∧ quotaOf o - usedOf o ≥ 100000 - 2000 * (i : Int)
  size : T.1.length ≤ 3 + i
  free : ∀ b, 10 + (i : Int) ≤ b → b ≤ 30 → lookL T.1 b = none
def lkLoop (q : Int) : List (Nat × (St → Option LoopSpec)) :=
  [(10, fun S => match getT S.fr.tm 7, getT S.fr.tm 9, getT S.fr.tm 8 with
     | .ptr j 0, .row r, .int _ n => some { α := Nat × Tb × List Int, inv := fun x => LkA q n x.1 x.2.1 x.2.2, ov := fun x => [(10, .int .i64 (x.1 : Int)), (9, .row r)], rov := fun x => [(j, .cust tblT KT.cust x.2.1), (r, .row 0 i64 x.2.2)], meas := fun x => n.toNat - x.1 }
     | _, _, _ => none),
   (17, fun S => match getT S.fr.tm 7 with
     | .ptr j 0 => some { α := Nat × Tb × List Int, inv := fun x => LkInv q x.2.1 x.2.2 ∧ x.1 + x.2.2.length ≤ 13, ov := fun x => [(12, .int .i64 (x.1 : Int)), (9, .rs i64 x.2.2)], rov := fun x => [(j, .cust tblT KT.cust x.2.1)], meas := fun x => x.2.2.length, fz := [.slot 9] }
     | _ => none)]
theorem links_vc (boxes order : List Int) (quota : Int) (q : Int) : (fvc PP (envC PP [p10] [s12, s17, m11, m13, m14, m15, m16] [] [] (lkLoop q) [22]) Try.f3 c3 (ofArgs [ints, ints, i64] (boxes, order, quota, ())) St0 (gives [.bool] (true, ()))) = (
  true = true ∧ True ∧ ((1 : Int) = (1 : Int) ∧ ((2 : Int) = (2 : Int) ∧ ([] : List (Int × Int)) = [] ∧ True) ∧ True) ∧ True ∧ (∀ (y : Unit), NoNew (1 : Int) ((2 : Int), []) → boxes.length ≤ maxLen → (1000 : Int) ≠ (0 : 
  Int) ∧ False) ∧ (∀ (y : Tb), NewP (1 : Int) ((2 : Int), []) y → boxes.length ≤ maxLen → (1000 : Int) ≠ (0 : Int) ∧ WfT y ∧ (True ∧ (1 : Int) = (1 : Int) ∧ (500 : Int) = (500 : Int) ∧ (1 : Int) = (1 : Int) ∧ (5000 : 
  Int) = (5000 : Int) ∧ ((2 : Int) = (2 : Int) ∧ ([] : List (Int × Int)) = [] ∧ True) ∧ True) ∧ ((KT.cust = KT.cust ∧ y = makeV.inn (y, (1 : Int), (500 : Int), (1 : Int), (5000 : Int), (2 : Int), [])) ∧ True) ∧ (∀ (y_1 : 
  Int × List (Int × (Int × Int × Int × Int × Int × Int × List (Int × Int)) × List Int) × Int), Ran (makeT y (1 : Int) (500 : Int) (1 : Int) (5000 : Int) ((2 : Int), [])) y_1 → ((y_1.fst != (0 : Int)) = false → WfT 
  y_1.snd ∧ (True ∧ (500 : Int) = (500 : Int) ∧ (600 : Int) = (600 : Int) ∧ (2 : Int) = (2 : Int) ∧ IntKind.i64.wrap ((1 : Int) + IntKind.i64.wrap ((IntKind.u64.wrap quota).tmod (1000 : Int))) = IntKind.i64.wrap ((1 : 
  Int) + IntKind.i64.wrap ((IntKind.u64.wrap quota).tmod (1000 : Int))) ∧ ((2 : Int) = (2 : Int) ∧ ([] : List (Int × Int)) = [] ∧ True) ∧ True) ∧ ((KT.cust = KT.cust ∧ y_1.snd = makeV.inn (y_1.snd, (500 : Int), (600 : 
  Int), (2 : Int), IntKind.i64.wrap ((1 : Int) + IntKind.i64.wrap ((IntKind.u64.wrap quota).tmod (1000 : Int))), (2 : Int), [])) ∧ True) ∧ (∀ (y : Int × List (Int × (Int × Int × Int × Int × Int × Int × List (Int × Int)) 
  × List Int) × Int), Ran (makeT y_1.snd (500 : Int) (600 : Int) (2 : Int) (IntKind.i64.wrap ((1 : Int) + IntKind.i64.wrap ((IntKind.u64.wrap quota).tmod (1000 : Int)))) ((2 : Int), [])) y → ((y.fst != (0 : Int)) = true 
  → false = true ∧ True) ∧ ((y.fst != (0 : Int)) = false → ∃ (x0 : Nat × Tb × List Int), LkA q (minI (↑boxes.length : Int) (12 : Int)) x0.fst x0.snd.fst x0.snd.snd ∧ ((True ∧ True) ∧ ((0 : Int) = (↑x0.fst : Int) ∧ True ∧ 
  false = false ∧ IntKind.i64.wrap ((1 : Int) + IntKind.i64.wrap ((IntKind.u64.wrap quota).tmod (1000 : Int))) = IntKind.i64.wrap ((1 : Int) + IntKind.i64.wrap ((IntKind.u64.wrap quota).tmod (1000 : Int))) ∧ minI 
  (↑boxes.length : Int) (12 : Int) = minI (↑boxes.length : Int) (12 : Int) ∧ True ∧ false = false ∧ boxes = boxes ∧ order = order ∧ True) ∧ ((2 : Int) = (2 : Int) ∧ SV.val (Value.slice none (0 : Nat) (0 : Nat)) = SV.val 
  (Value.slice none (0 : Nat) (0 : Nat)) ∧ True) ∧ (KT.cust = KT.cust ∧ y.snd = x0.snd.fst) ∧ ((2 : Int) = (2 : Int) ∧ SV.val (Value.slice none (0 : Nat) (0 : Nat)) = SV.val (Value.slice none (0 : Nat) (0 : Nat)) ∧ True) 
  ∧ ((2 : Int) = (2 : Int) ∧ SV.val (Value.slice none (0 : Nat) (0 : Nat)) = SV.val (Value.slice none (0 : Nat) (0 : Nat)) ∧ True) ∧ [(500 : Int)] = x0.snd.snd ∧ True) ∧ ∀ (x : Nat × Tb × List Int), LkA q (minI 
  (↑boxes.length : Int) (12 : Int)) x.fst x.snd.fst x.snd.snd → (decide ((↑x.fst : Int) < minI (↑boxes.length : Int) (12 : Int)) = true → WfT x.snd.fst ∧ (True ∧ (1 : Int) = (1 : Int) ∧ IntKind.i64.wrap ((10 : Int) + 
  (↑x.fst : Int)) = IntKind.i64.wrap ((10 : Int) + (↑x.fst : Int)) ∧ (1 : Int) = (1 : Int) ∧ (2000 : Int) = (2000 : Int) ∧ ((2 : Int) = (2 : Int) ∧ ([] : List (Int × Int)) = [] ∧ True) ∧ True) ∧ ((KT.cust = KT.cust ∧ 
  x.snd.fst = makeV.inn (x.snd.fst, (1 : Int), IntKind.i64.wrap ((10 : Int) + (↑x.fst : Int)), (1 : Int), (2000 : Int), (2 : Int), [])) ∧ True) ∧ (∀ (y : Int × List (Int × (Int × Int × Int × Int × Int × Int × List (Int × 
  Int)) × List Int) × Int), Ran (makeT x.snd.fst (1 : Int) (IntKind.i64.wrap ((10 : Int) + (↑x.fst : Int))) (1 : Int) (2000 : Int) ((2 : Int), [])) y → ((y.fst != (0 : Int)) = false → WfT y.snd ∧ (True ∧ IntKind.i64.wrap 
  ((10 : Int) + (↑x.fst : Int)) = IntKind.i64.wrap ((10 : Int) + (↑x.fst : Int)) ∧ (600 : Int) = (600 : Int) ∧ True) ∧ ((KT.cust = KT.cust ∧ y.snd = linkV.inn (y.snd, IntKind.i64.wrap ((10 : Int) + (↑x.fst : Int)), (600 
  : Int))) ∧ True) ∧ (∀ (y_2 : Int × List (Int × (Int × Int × Int × Int × Int × Int × List (Int × Int)) × List Int) × Int), Ran (linkR y.snd (IntKind.i64.wrap ((10 : Int) + (↑x.fst : Int))) (600 : Int)) y_2 → ((y_2.fst 
  != (0 : Int)) = false → WfT y_2.snd ∧ (True ∧ IntKind.i64.wrap ((10 : Int) + (↑x.fst : Int)) = IntKind.i64.wrap ((10 : Int) + (↑x.fst : Int)) ∧ (600 : Int) = (600 : Int) ∧ True) ∧ ((KT.cust = KT.cust ∧ y_2.snd = 
  linkV.inn (y_2.snd, IntKind.i64.wrap ((10 : Int) + (↑x.fst : Int)), (600 : Int))) ∧ True) ∧ (∀ (y : Int × List (Int × (Int × Int × Int × Int × Int × Int × List (Int × Int)) × List Int) × Int), Ran (linkR y_2.snd 
  (IntKind.i64.wrap ((10 : Int) + (↑x.fst : Int))) (600 : Int)) y → ((y.fst != (1 : Int)) = true → false = true ∧ True) ∧ ((y.fst != (1 : Int)) = false → (x.snd.snd.length + [IntKind.i64.wrap ((10 : Int) + (↑x.fst : 
  Int))].length) * (8 : Nat) ≤ (140737488355328 : Nat) ∧ ∃ (x' : Nat × Tb × List Int), LkA q (minI (↑boxes.length : Int) (12 : Int)) x'.fst x'.snd.fst x'.snd.snd ∧ (minI (↑boxes.length : Int) (12 : Int)).toNat - x'.fst < 
  (minI (↑boxes.length : Int) (12 : Int)).toNat - x.fst ∧ (True ∧ True) ∧ (IntKind.i64.wrap ((↑x.fst : Int) + (1 : Int)) = (↑x'.fst : Int) ∧ True ∧ false = false ∧ IntKind.i64.wrap ((1 : Int) + IntKind.i64.wrap 
  ((IntKind.u64.wrap quota).tmod (1000 : Int))) = IntKind.i64.wrap ((1 : Int) + IntKind.i64.wrap ((IntKind.u64.wrap quota).tmod (1000 : Int))) ∧ minI (↑boxes.length : Int) (12 : Int) = minI (↑boxes.length : Int) (12 : 
  Int) ∧ True ∧ false = false ∧ boxes = boxes ∧ order = order ∧ True) ∧ ((2 : Int) = (2 : Int) ∧ SV.val (Value.slice none (0 : Nat) (0 : Nat)) = SV.val (Value.slice none (0 : Nat) (0 : Nat)) ∧ True) ∧ (KT.cust = KT.cust 
  ∧ y.snd = x'.snd.fst) ∧ ((2 : Int) = (2 : Int) ∧ SV.val (Value.slice none (0 : Nat) (0 : Nat)) = SV.val (Value.slice none (0 : Nat) (0 : Nat)) ∧ True) ∧ ((2 : Int) = (2 : Int) ∧ SV.val (Value.slice none (0 : Nat) (0 : 
  Nat)) = SV.val (Value.slice none (0 : Nat) (0 : Nat)) ∧ True) ∧ x.snd.snd ++ [IntKind.i64.wrap ((10 : Int) + (↑x.fst : Int))] = x'.snd.snd ∧ True)) ∧ True) ∧ ((y_2.fst != (0 : Int)) = !false → false = true ∧ True)) ∧ 
  True) ∧ ((y.fst != (0 : Int)) = !false → false = true ∧ True)) ∧ True) ∧ (decide ((↑x.fst : Int) < minI (↑boxes.length : Int) (12 : Int)) = false → ∃ (x0 : Nat × Tb × List Int), (LkInv q x0.snd.fst x0.snd.snd ∧ x0.fst 
  + x0.snd.snd.length ≤ (13 : Nat)) ∧ ((True ∧ True) ∧ ((0 : Int) = (↑x0.fst : Int) ∧ x.snd.snd = x0.snd.snd ∧ false = false ∧ (↑x.fst : Int) = (↑x.fst : Int) ∧ false = false ∧ IntKind.i64.wrap ((1 : Int) + 
  IntKind.i64.wrap ((IntKind.u64.wrap quota).tmod (1000 : Int))) = IntKind.i64.wrap ((1 : Int) + IntKind.i64.wrap ((IntKind.u64.wrap quota).tmod (1000 : Int))) ∧ minI (↑boxes.length : Int) (12 : Int) = minI 
  (↑boxes.length : Int) (12 : Int) ∧ True ∧ false = false ∧ boxes = boxes ∧ order = order ∧ True) ∧ ((2 : Int) = (2 : Int) ∧ SV.val (Value.slice none (0 : Nat) (0 : Nat)) = SV.val (Value.slice none (0 : Nat) (0 : Nat)) ∧ 
  True) ∧ (KT.cust = KT.cust ∧ x.snd.fst = x0.snd.fst) ∧ ((2 : Int) = (2 : Int) ∧ SV.val (Value.slice none (0 : Nat) (0 : Nat)) = SV.val (Value.slice none (0 : Nat) (0 : Nat)) ∧ True) ∧ ((2 : Int) = (2 : Int) ∧ SV.val 
  (Value.slice none (0 : Nat) (0 : Nat)) = SV.val (Value.slice none (0 : Nat) (0 : Nat)) ∧ True) ∧ True ∧ True) ∧ ∀ (x_1 : Nat × Tb × List Int), LkInv q x_1.snd.fst x_1.snd.snd ∧ x_1.fst + x_1.snd.snd.length ≤ (13 : Nat) 
  → x_1.snd.snd.length ≤ maxLen → (decide ((↑x_1.snd.snd.length : Int) > (0 : Int)) = true → order.length ≤ maxLen → (decide ((↑x_1.fst : Int) < (↑order.length : Int)) = true → ((0 : Int) ≤ (↑x_1.fst : Int) ∧ (↑x_1.fst : 
  Int) < (↑order.length : Int)) ∧ ∀ (y : Int), order[(↑x_1.fst : Int).toNat]? = some y → x_1.snd.snd.length ≤ maxLen → IntKind.u64.wrap (↑x_1.snd.snd.length : Int) ≠ (0 : Int) ∧ WfT x_1.snd.fst ∧ (True ∧ (600 : Int) = 
  (600 : Int) ∧ True) ∧ ((KT.cust = KT.cust ∧ x_1.snd.fst = infoV.inn (x_1.snd.fst, (600 : Int))) ∧ True) ∧ (∀ (y_2 : Info × Bool), Ran (infoR x_1.snd.fst (600 : Int)) y_2 → ∃ (v : Bool), (((!y_2.snd) = false → 
  x_1.snd.snd.length ≤ maxLen → ((y_2.fst.snd.snd.snd.snd.fst != (↑x_1.snd.snd.length : Int)) = false → (y_2.fst.snd.snd.fst != IntKind.i64.wrap ((1 : Int) + IntKind.i64.wrap ((IntKind.u64.wrap quota).tmod (1000 : 
  Int)))) = v) ∧ ((y_2.fst.snd.snd.snd.snd.fst != (↑x_1.snd.snd.length : Int)) = !false → true = v)) ∧ ((!y_2.snd) = !false → true = v)) ∧ (v = true → false = true ∧ True) ∧ (v = false → ((0 : Int) ≤ IntKind.i64.wrap 
  ((IntKind.u64.wrap y).tmod (IntKind.u64.wrap (↑x_1.snd.snd.length : Int))) ∧ IntKind.i64.wrap ((IntKind.u64.wrap y).tmod (IntKind.u64.wrap (↑x_1.snd.snd.length : Int))) < (↑x_1.snd.snd.length : Int)) ∧ ∀ (y_3 : Int), 
  x_1.snd.snd[(IntKind.i64.wrap ((IntKind.u64.wrap y).tmod (IntKind.u64.wrap (↑x_1.snd.snd.length : Int)))).toNat]? = some y_3 → ((0 : Int) ≤ (some (IntKind.i64.wrap ((IntKind.u64.wrap y).tmod (IntKind.u64.wrap 
  (↑x_1.snd.snd.length : Int))))).getD (↑x_1.snd.snd.length : Int) ∧ (some (IntKind.i64.wrap ((IntKind.u64.wrap y).tmod (IntKind.u64.wrap (↑x_1.snd.snd.length : Int))))).getD (↑x_1.snd.snd.length : Int) ≤ 
  (↑x_1.snd.snd.length : Int) ∧ (0 : Int) ≤ none.getD (0 : Int) ∧ none.getD (0 : Int) ≤ (some (IntKind.i64.wrap ((IntKind.u64.wrap y).tmod (IntKind.u64.wrap (↑x_1.snd.snd.length : Int))))).getD (↑x_1.snd.snd.length : 
  Int)) ∧ (List.drop (0 : Nat) (List.take ((some (IntKind.i64.wrap ((IntKind.u64.wrap y).tmod (IntKind.u64.wrap (↑x_1.snd.snd.length : Int))))).getD (↑x_1.snd.snd.length : Int)).toNat x_1.snd.snd)).length * (8 : Nat) ≤ 
  (140737488355328 : Nat) ∧ (List.drop (0 : Nat) (List.take ((some (IntKind.i64.wrap ((IntKind.u64.wrap y).tmod (IntKind.u64.wrap (↑x_1.snd.snd.length : Int))))).getD (↑x_1.snd.snd.length : Int)).toNat x_1.snd.snd) = [] 
  → ((0 : Int) ≤ none.getD (↑x_1.snd.snd.length : Int) ∧ none.getD (↑x_1.snd.snd.length : Int) ≤ (↑x_1.snd.snd.length : Int) ∧ (0 : Int) ≤ (some (IntKind.i64.wrap (IntKind.i64.wrap ((IntKind.u64.wrap y).tmod 
  (IntKind.u64.wrap (↑x_1.snd.snd.length : Int))) + (1 : Int)))).getD (0 : Int) ∧ (some (IntKind.i64.wrap (IntKind.i64.wrap ((IntKind.u64.wrap y).tmod (IntKind.u64.wrap (↑x_1.snd.snd.length : Int))) + (1 : Int)))).getD 
  (0 : Int) ≤ none.getD (↑x_1.snd.snd.length : Int)) ∧ (List.drop ((some (IntKind.i64.wrap (IntKind.i64.wrap ((IntKind.u64.wrap y).tmod (IntKind.u64.wrap (↑x_1.snd.snd.length : Int))) + (1 : Int)))).getD (0 : Int)).toNat 
  (List.take (none.getD (↑x_1.snd.snd.length : Int)).toNat x_1.snd.snd)).length * (8 : Nat) ≤ (140737488355328 : Nat) ∧ (List.drop ((some (IntKind.i64.wrap (IntKind.i64.wrap ((IntKind.u64.wrap y).tmod (IntKind.u64.wrap 
  (↑x_1.snd.snd.length : Int))) + (1 : Int)))).getD (0 : Int)).toNat (List.take (none.getD (↑x_1.snd.snd.length : Int)).toNat x_1.snd.snd) = [] → ∃ (v : Bool), (boxes.length ≤ maxLen → (decide ((↑x_1.fst : Int) < 
  (↑boxes.length : Int)) = true → ((0 : Int) ≤ (↑x_1.fst : Int) ∧ (↑x_1.fst : Int) < (↑boxes.length : Int)) ∧ ∀ (y : Int), boxes[(↑x_1.fst : Int).toNat]? = some y → (2 : Int) ≠ (0 : Int) ∧ (y.tmod (2 : Int) == (0 : Int)) 
  = v) ∧ (decide ((↑x_1.fst : Int) < (↑boxes.length : Int)) = !true → false = v)) ∧ (v = true → WfT x_1.snd.fst ∧ (True ∧ y_3 = y_3 ∧ (600 : Int) = (600 : Int) ∧ True) ∧ ((KT.cust = KT.cust ∧ x_1.snd.fst = dropV.inn 
  (x_1.snd.fst, y_3, (600 : Int))) ∧ True) ∧ (∀ (y : (List Int × Int) × List (Int × (Int × Int × Int × Int × Int × Int × List (Int × Int)) × List Int) × Int), Ran (((dropR x_1.snd.fst y_3 (600 : Int)).fst, (dropR 
  x_1.snd.fst y_3 (600 : Int)).snd.fst), (dropR x_1.snd.fst y_3 (600 : Int)).snd.snd) y → ((y.fst.snd != (0 : Int)) = false → ∃ (v : Bool), (y.fst.fst.length ≤ maxLen → (decide ((↑y.fst.fst.length : Int) > (0 : Int)) = 
  true → y.fst.fst.length ≤ maxLen → ((0 : Int) ≤ IntKind.i64.wrap ((↑y.fst.fst.length : Int) - (1 : Int)) ∧ IntKind.i64.wrap ((↑y.fst.fst.length : Int) - (1 : Int)) < (↑y.fst.fst.length : Int)) ∧ ∀ (y_4 : Int), 
  y.fst.fst[(IntKind.i64.wrap ((↑y.fst.fst.length : Int) - (1 : Int))).toNat]? = some y_4 → (y_4 == (600 : Int)) = v) ∧ (decide ((↑y.fst.fst.length : Int) > (0 : Int)) = !true → false = v)) ∧ ((!((0 : Int) == (0 : Int)) 
  == v) = true → false = true ∧ True) ∧ ((!((0 : Int) == (0 : Int)) == v) = false → ∃ (x' : Nat × Tb × List Int), (LkInv q x'.snd.fst x'.snd.snd ∧ x'.fst + x'.snd.snd.length ≤ (13 : Nat)) ∧ x'.snd.snd.length < 
  x_1.snd.snd.length ∧ (True ∧ True) ∧ (IntKind.i64.wrap ((↑x_1.fst : Int) + (1 : Int)) = (↑x'.fst : Int) ∧ x'.snd.snd = [] ∧ false = false ∧ (↑x.fst : Int) = (↑x.fst : Int) ∧ false = false ∧ IntKind.i64.wrap ((1 : Int) 
  + IntKind.i64.wrap ((IntKind.u64.wrap quota).tmod (1000 : Int))) = IntKind.i64.wrap ((1 : Int) + IntKind.i64.wrap ((IntKind.u64.wrap quota).tmod (1000 : Int))) ∧ minI (↑boxes.length : Int) (12 : Int) = minI 
  (↑boxes.length : Int) (12 : Int) ∧ True ∧ false = false ∧ boxes = boxes ∧ order = order ∧ True) ∧ ((2 : Int) = (2 : Int) ∧ SV.val (Value.slice none (0 : Nat) (0 : Nat)) = SV.val (Value.slice none (0 : Nat) (0 : Nat)) ∧ 
  True) ∧ (KT.cust = KT.cust ∧ y.snd = x'.snd.fst) ∧ ((2 : Int) = (2 : Int) ∧ SV.val (Value.slice none (0 : Nat) (0 : Nat)) = SV.val (Value.slice none (0 : Nat) (0 : Nat)) ∧ True) ∧ ((2 : Int) = (2 : Int) ∧ SV.val 
  (Value.slice none (0 : Nat) (0 : Nat)) = SV.val (Value.slice none (0 : Nat) (0 : Nat)) ∧ True) ∧ True ∧ True)) ∧ ((y.fst.snd != (0 : Int)) = !false → false = true ∧ True)) ∧ True) ∧ (v = false → WfT x_1.snd.fst ∧ (True 
  ∧ (1 : Int) = (1 : Int) ∧ y_3 = y_3 ∧ True) ∧ ((KT.cust = KT.cust ∧ x_1.snd.fst = dropV.inn (x_1.snd.fst, (1 : Int), y_3)) ∧ True) ∧ (∀ (y : (List Int × Int) × List (Int × (Int × Int × Int × Int × Int × Int × List (Int 
  × Int)) × List Int) × Int), Ran (((dropR x_1.snd.fst (1 : Int) y_3).fst, (dropR x_1.snd.fst (1 : Int) y_3).snd.fst), (dropR x_1.snd.fst (1 : Int) y_3).snd.snd) y → ((y.fst.snd != (0 : Int)) = false → ∃ (v : Bool), 
  (y.fst.fst.length ≤ maxLen → (decide ((↑y.fst.fst.length : Int) > (0 : Int)) = true → y.fst.fst.length ≤ maxLen → ((0 : Int) ≤ IntKind.i64.wrap ((↑y.fst.fst.length : Int) - (1 : Int)) ∧ IntKind.i64.wrap 
  ((↑y.fst.fst.length : Int) - (1 : Int)) < (↑y.fst.fst.length : Int)) ∧ ∀ (y_4 : Int), y.fst.fst[(IntKind.i64.wrap ((↑y.fst.fst.length : Int) - (1 : Int))).toNat]? = some y_4 → (y_4 == (600 : Int)) = v) ∧ (decide 
  ((↑y.fst.fst.length : Int) > (0 : Int)) = !true → false = v)) ∧ ((!((0 : Int) == (0 : Int)) == v) = true → false = true ∧ True) ∧ ((!((0 : Int) == (0 : Int)) == v) = false → ∃ (x' : Nat × Tb × List Int), (LkInv q 
  x'.snd.fst x'.snd.snd ∧ x'.fst + x'.snd.snd.length ≤ (13 : Nat)) ∧ x'.snd.snd.length < x_1.snd.snd.length ∧ (True ∧ True) ∧ (IntKind.i64.wrap ((↑x_1.fst : Int) + (1 : Int)) = (↑x'.fst : Int) ∧ x'.snd.snd = [] ∧ false = 
  false ∧ (↑x.fst : Int) = (↑x.fst : Int) ∧ false = false ∧ IntKind.i64.wrap ((1 : Int) + IntKind.i64.wrap ((IntKind.u64.wrap quota).tmod (1000 : Int))) = IntKind.i64.wrap ((1 : Int) + IntKind.i64.wrap ((IntKind.u64.wrap 
  quota).tmod (1000 : Int))) ∧ minI (↑boxes.length : Int) (12 : Int) = minI (↑boxes.length : Int) (12 : Int) ∧ True ∧ false = false ∧ boxes = boxes ∧ order = order ∧ True) ∧ ((2 : Int) = (2 : Int) ∧ SV.val (Value.slice 
  none (0 : Nat) (0 : Nat)) = SV.val (Value.slice none (0 : Nat) (0 : Nat)) ∧ True) ∧ (KT.cust = KT.cust ∧ y.snd = x'.snd.fst) ∧ ((2 : Int) = (2 : Int) ∧ SV.val (Value.slice none (0 : Nat) (0 : Nat)) = SV.val 
  (Value.slice none (0 : Nat) (0 : Nat)) ∧ True) ∧ ((2 : Int) = (2 : Int) ∧ SV.val (Value.slice none (0 : Nat) (0 : Nat)) = SV.val (Value.slice none (0 : Nat) (0 : Nat)) ∧ True) ∧ True ∧ True)) ∧ ((y.fst.snd != (0 : 
  Int)) = !false → false = true ∧ True)) ∧ True)) ∧ (List.drop ((some (IntKind.i64.wrap (IntKind.i64.wrap ((IntKind.u64.wrap y).tmod (IntKind.u64.wrap (↑x_1.snd.snd.length : Int))) + (1 : Int)))).getD (0 : Int)).toNat 
  (List.take (none.getD (↑x_1.snd.snd.length : Int)).toNat x_1.snd.snd) ≠ [] → ∃ (v : Bool), (boxes.length ≤ maxLen → (decide ((↑x_1.fst : Int) < (↑boxes.length : Int)) = true → ((0 : Int) ≤ (↑x_1.fst : Int) ∧ (↑x_1.fst 
  : Int) < (↑boxes.length : Int)) ∧ ∀ (y : Int), boxes[(↑x_1.fst : Int).toNat]? = some y → (2 : Int) ≠ (0 : Int) ∧ (y.tmod (2 : Int) == (0 : Int)) = v) ∧ (decide ((↑x_1.fst : Int) < (↑boxes.length : Int)) = !true → false 
  = v)) ∧ (v = true → WfT x_1.snd.fst ∧ (True ∧ y_3 = y_3 ∧ (600 : Int) = (600 : Int) ∧ True) ∧ ((KT.cust = KT.cust ∧ x_1.snd.fst = dropV.inn (x_1.snd.fst, y_3, (600 : Int))) ∧ True) ∧ (∀ (y_4 : (List Int × Int) × List 
  (Int × (Int × Int × Int × Int × Int × Int × List (Int × Int)) × List Int) × Int), Ran (((dropR x_1.snd.fst y_3 (600 : Int)).fst, (dropR x_1.snd.fst y_3 (600 : Int)).snd.fst), (dropR x_1.snd.fst y_3 (600 : 
  Int)).snd.snd) y_4 → ((y_4.fst.snd != (0 : Int)) = false → (List.drop ((some (IntKind.i64.wrap (IntKind.i64.wrap ((IntKind.u64.wrap y).tmod (IntKind.u64.wrap (↑x_1.snd.snd.length : Int))) + (1 : Int)))).getD (0 : 
  Int)).toNat (List.take (none.getD (↑x_1.snd.snd.length : Int)).toNat x_1.snd.snd)).length ≤ maxLen → ∃ (v : Bool), (y_4.fst.fst.length ≤ maxLen → (decide ((↑y_4.fst.fst.length : Int) > (0 : Int)) = true → 
  y_4.fst.fst.length ≤ maxLen → ((0 : Int) ≤ IntKind.i64.wrap ((↑y_4.fst.fst.length : Int) - (1 : Int)) ∧ IntKind.i64.wrap ((↑y_4.fst.fst.length : Int) - (1 : Int)) < (↑y_4.fst.fst.length : Int)) ∧ ∀ (y : Int), 
  y_4.fst.fst[(IntKind.i64.wrap ((↑y_4.fst.fst.length : Int) - (1 : Int))).toNat]? = some y → (y == (600 : Int)) = v) ∧ (decide ((↑y_4.fst.fst.length : Int) > (0 : Int)) = !true → false = v)) ∧ ((!((↑(List.drop ((some 
  (IntKind.i64.wrap (IntKind.i64.wrap ((IntKind.u64.wrap y).tmod (IntKind.u64.wrap (↑x_1.snd.snd.length : Int))) + (1 : Int)))).getD (0 : Int)).toNat (List.take (none.getD (↑x_1.snd.snd.length : Int)).toNat 
  x_1.snd.snd)).length : Int) == (0 : Int)) == v) = true → false = true ∧ True) ∧ ((!((↑(List.drop ((some (IntKind.i64.wrap (IntKind.i64.wrap ((IntKind.u64.wrap y).tmod (IntKind.u64.wrap (↑x_1.snd.snd.length : Int))) + 
  (1 : Int)))).getD (0 : Int)).toNat (List.take (none.getD (↑x_1.snd.snd.length : Int)).toNat x_1.snd.snd)).length : Int) == (0 : Int)) == v) = false → ∃ (x' : Nat × Tb × List Int), (LkInv q x'.snd.fst x'.snd.snd ∧ 
  x'.fst + x'.snd.snd.length ≤ (13 : Nat)) ∧ x'.snd.snd.length < x_1.snd.snd.length ∧ (True ∧ True) ∧ (IntKind.i64.wrap ((↑x_1.fst : Int) + (1 : Int)) = (↑x'.fst : Int) ∧ List.drop ((some (IntKind.i64.wrap 
  (IntKind.i64.wrap ((IntKind.u64.wrap y).tmod (IntKind.u64.wrap (↑x_1.snd.snd.length : Int))) + (1 : Int)))).getD (0 : Int)).toNat (List.take (none.getD (↑x_1.snd.snd.length : Int)).toNat x_1.snd.snd) = x'.snd.snd ∧ 
  false = false ∧ (↑x.fst : Int) = (↑x.fst : Int) ∧ false = false ∧ IntKind.i64.wrap ((1 : Int) + IntKind.i64.wrap ((IntKind.u64.wrap quota).tmod (1000 : Int))) = IntKind.i64.wrap ((1 : Int) + IntKind.i64.wrap 
  ((IntKind.u64.wrap quota).tmod (1000 : Int))) ∧ minI (↑boxes.length : Int) (12 : Int) = minI (↑boxes.length : Int) (12 : Int) ∧ True ∧ false = false ∧ boxes = boxes ∧ order = order ∧ True) ∧ ((2 : Int) = (2 : Int) ∧ 
  SV.val (Value.slice none (0 : Nat) (0 : Nat)) = SV.val (Value.slice none (0 : Nat) (0 : Nat)) ∧ True) ∧ (KT.cust = KT.cust ∧ y_4.snd = x'.snd.fst) ∧ ((2 : Int) = (2 : Int) ∧ SV.val (Value.slice none (0 : Nat) (0 : 
  Nat)) = SV.val (Value.slice none (0 : Nat) (0 : Nat)) ∧ True) ∧ ((2 : Int) = (2 : Int) ∧ SV.val (Value.slice none (0 : Nat) (0 : Nat)) = SV.val (Value.slice none (0 : Nat) (0 : Nat)) ∧ True) ∧ True ∧ True)) ∧ 
  ((y_4.fst.snd != (0 : Int)) = !false → false = true ∧ True)) ∧ True) ∧ (v = false → WfT x_1.snd.fst ∧ (True ∧ (1 : Int) = (1 : Int) ∧ y_3 = y_3 ∧ True) ∧ ((KT.cust = KT.cust ∧ x_1.snd.fst = dropV.inn (x_1.snd.fst, (1 : 
  Int), y_3)) ∧ True) ∧ (∀ (y_4 : (List Int × Int) × List (Int × (Int × Int × Int × Int × Int × Int × List (Int × Int)) × List Int) × Int), Ran (((dropR x_1.snd.fst (1 : Int) y_3).fst, (dropR x_1.snd.fst (1 : Int) 
  y_3).snd.fst), (dropR x_1.snd.fst (1 : Int) y_3).snd.snd) y_4 → ((y_4.fst.snd != (0 : Int)) = false → (List.drop ((some (IntKind.i64.wrap (IntKind.i64.wrap ((IntKind.u64.wrap y).tmod (IntKind.u64.wrap 
  (↑x_1.snd.snd.length : Int))) + (1 : Int)))).getD (0 : Int)).toNat (List.take (none.getD (↑x_1.snd.snd.length : Int)).toNat x_1.snd.snd)).length ≤ maxLen → ∃ (v : Bool), (y_4.fst.fst.length ≤ maxLen → (decide 
  ((↑y_4.fst.fst.length : Int) > (0 : Int)) = true → y_4.fst.fst.length ≤ maxLen → ((0 : Int) ≤ IntKind.i64.wrap ((↑y_4.fst.fst.length : Int) - (1 : Int)) ∧ IntKind.i64.wrap ((↑y_4.fst.fst.length : Int) - (1 : Int)) < 
  (↑y_4.fst.fst.length : Int)) ∧ ∀ (y : Int), y_4.fst.fst[(IntKind.i64.wrap ((↑y_4.fst.fst.length : Int) - (1 : Int))).toNat]? = some y → (y == (600 : Int)) = v) ∧ (decide ((↑y_4.fst.fst.length : Int) > (0 : Int)) = 
  !true → false = v)) ∧ ((!((↑(List.drop ((some (IntKind.i64.wrap (IntKind.i64.wrap ((IntKind.u64.wrap y).tmod (IntKind.u64.wrap (↑x_1.snd.snd.length : Int))) + (1 : Int)))).getD (0 : Int)).toNat (List.take (none.getD 
  (↑x_1.snd.snd.length : Int)).toNat x_1.snd.snd)).length : Int) == (0 : Int)) == v) = true → false = true ∧ True) ∧ ((!((↑(List.drop ((some (IntKind.i64.wrap (IntKind.i64.wrap ((IntKind.u64.wrap y).tmod 
  (IntKind.u64.wrap (↑x_1.snd.snd.length : Int))) + (1 : Int)))).getD (0 : Int)).toNat (List.take (none.getD (↑x_1.snd.snd.length : Int)).toNat x_1.snd.snd)).length : Int) == (0 : Int)) == v) = false → ∃ (x' : Nat × Tb × 
  List Int), (LkInv q x'.snd.fst x'.snd.snd ∧ x'.fst + x'.snd.snd.length ≤ (13 : Nat)) ∧ x'.snd.snd.length < x_1.snd.snd.length ∧ (True ∧ True) ∧ (IntKind.i64.wrap ((↑x_1.fst : Int) + (1 : Int)) = (↑x'.fst : Int) ∧ 
  List.drop ((some (IntKind.i64.wrap (IntKind.i64.wrap ((IntKind.u64.wrap y).tmod (IntKind.u64.wrap (↑x_1.snd.snd.length : Int))) + (1 : Int)))).getD (0 : Int)).toNat (List.take (none.getD (↑x_1.snd.snd.length : 
  Int)).toNat x_1.snd.snd) = x'.snd.snd ∧ false = false ∧ (↑x.fst : Int) = (↑x.fst : Int) ∧ false = false ∧ IntKind.i64.wrap ((1 : Int) + IntKind.i64.wrap ((IntKind.u64.wrap quota).tmod (1000 : Int))) = IntKind.i64.wrap 
  ((1 : Int) + IntKind.i64.wrap ((IntKind.u64.wrap quota).tmod (1000 : Int))) ∧ minI (↑boxes.length : Int) (12 : Int) = minI (↑boxes.length : Int) (12 : Int) ∧ True ∧ false = false ∧ boxes = boxes ∧ order = order ∧ True) 
  ∧ ((2 : Int) = (2 : Int) ∧ SV.val (Value.slice none (0 : Nat) (0 : Nat)) = SV.val (Value.slice none (0 : Nat) (0 : Nat)) ∧ True) ∧ (KT.cust = KT.cust ∧ y_4.snd = x'.snd.fst) ∧ ((2 : Int) = (2 : Int) ∧ SV.val 
  (Value.slice none (0 : Nat) (0 : Nat)) = SV.val (Value.slice none (0 : Nat) (0 : Nat)) ∧ True) ∧ ((2 : Int) = (2 : Int) ∧ SV.val (Value.slice none (0 : Nat) (0 : Nat)) = SV.val (Value.slice none (0 : Nat) (0 : Nat)) ∧ 
  True) ∧ True ∧ True)) ∧ ((y_4.fst.snd != (0 : Int)) = !false → false = true ∧ True)) ∧ True))) ∧ (List.drop (0 : Nat) (List.take ((some (IntKind.i64.wrap ((IntKind.u64.wrap y).tmod (IntKind.u64.wrap 
  (↑x_1.snd.snd.length : Int))))).getD (↑x_1.snd.snd.length : Int)).toNat x_1.snd.snd) ≠ [] → ((0 : Int) ≤ none.getD (↑x_1.snd.snd.length : Int) ∧ none.getD (↑x_1.snd.snd.length : Int) ≤ (↑x_1.snd.snd.length : Int) ∧ (0 
  : Int) ≤ (some (IntKind.i64.wrap (IntKind.i64.wrap ((IntKind.u64.wrap y).tmod (IntKind.u64.wrap (↑x_1.snd.snd.length : Int))) + (1 : Int)))).getD (0 : Int) ∧ (some (IntKind.i64.wrap (IntKind.i64.wrap ((IntKind.u64.wrap 
  y).tmod (IntKind.u64.wrap (↑x_1.snd.snd.length : Int))) + (1 : Int)))).getD (0 : Int) ≤ none.getD (↑x_1.snd.snd.length : Int)) ∧ ((List.drop (0 : Nat) (List.take ((some (IntKind.i64.wrap ((IntKind.u64.wrap y).tmod 
  (IntKind.u64.wrap (↑x_1.snd.snd.length : Int))))).getD (↑x_1.snd.snd.length : Int)).toNat x_1.snd.snd)).length + (List.drop ((some (IntKind.i64.wrap (IntKind.i64.wrap ((IntKind.u64.wrap y).tmod (IntKind.u64.wrap 
  (↑x_1.snd.snd.length : Int))) + (1 : Int)))).getD (0 : Int)).toNat (List.take (none.getD (↑x_1.snd.snd.length : Int)).toNat x_1.snd.snd)).length) * (8 : Nat) ≤ (140737488355328 : Nat) ∧ ∃ (v : Bool), (boxes.length ≤ 
  maxLen → (decide ((↑x_1.fst : Int) < (↑boxes.length : Int)) = true → ((0 : Int) ≤ (↑x_1.fst : Int) ∧ (↑x_1.fst : Int) < (↑boxes.length : Int)) ∧ ∀ (y : Int), boxes[(↑x_1.fst : Int).toNat]? = some y → (2 : Int) ≠ (0 : 
  Int) ∧ (y.tmod (2 : Int) == (0 : Int)) = v) ∧ (decide ((↑x_1.fst : Int) < (↑boxes.length : Int)) = !true → false = v)) ∧ (v = true → WfT x_1.snd.fst ∧ (True ∧ y_3 = y_3 ∧ (600 : Int) = (600 : Int) ∧ True) ∧ ((KT.cust = 
  KT.cust ∧ x_1.snd.fst = dropV.inn (x_1.snd.fst, y_3, (600 : Int))) ∧ True) ∧ (∀ (y_4 : (List Int × Int) × List (Int × (Int × Int × Int × Int × Int × Int × List (Int × Int)) × List Int) × Int), Ran (((dropR x_1.snd.fst 
  y_3 (600 : Int)).fst, (dropR x_1.snd.fst y_3 (600 : Int)).snd.fst), (dropR x_1.snd.fst y_3 (600 : Int)).snd.snd) y_4 → ((y_4.fst.snd != (0 : Int)) = false → (List.drop (0 : Nat) (List.take ((some (IntKind.i64.wrap 
  ((IntKind.u64.wrap y).tmod (IntKind.u64.wrap (↑x_1.snd.snd.length : Int))))).getD (↑x_1.snd.snd.length : Int)).toNat x_1.snd.snd) ++ List.drop ((some (IntKind.i64.wrap (IntKind.i64.wrap ((IntKind.u64.wrap y).tmod 
  (IntKind.u64.wrap (↑x_1.snd.snd.length : Int))) + (1 : Int)))).getD (0 : Int)).toNat (List.take (none.getD (↑x_1.snd.snd.length : Int)).toNat x_1.snd.snd)).length ≤ maxLen → ∃ (v : Bool), (y_4.fst.fst.length ≤ maxLen → 
  (decide ((↑y_4.fst.fst.length : Int) > (0 : Int)) = true → y_4.fst.fst.length ≤ maxLen → ((0 : Int) ≤ IntKind.i64.wrap ((↑y_4.fst.fst.length : Int) - (1 : Int)) ∧ IntKind.i64.wrap ((↑y_4.fst.fst.length : Int) - (1 : 
  Int)) < (↑y_4.fst.fst.length : Int)) ∧ ∀ (y : Int), y_4.fst.fst[(IntKind.i64.wrap ((↑y_4.fst.fst.length : Int) - (1 : Int))).toNat]? = some y → (y == (600 : Int)) = v) ∧ (decide ((↑y_4.fst.fst.length : Int) > (0 : 
  Int)) = !true → false = v)) ∧ ((!((↑(List.drop (0 : Nat) (List.take ((some (IntKind.i64.wrap ((IntKind.u64.wrap y).tmod (IntKind.u64.wrap (↑x_1.snd.snd.length : Int))))).getD (↑x_1.snd.snd.length : Int)).toNat 
  x_1.snd.snd) ++ List.drop ((some (IntKind.i64.wrap (IntKind.i64.wrap ((IntKind.u64.wrap y).tmod (IntKind.u64.wrap (↑x_1.snd.snd.length : Int))) + (1 : Int)))).getD (0 : Int)).toNat (List.take (none.getD 
  (↑x_1.snd.snd.length : Int)).toNat x_1.snd.snd)).length : Int) == (0 : Int)) == v) = true → false = true ∧ True) ∧ ((!((↑(List.drop (0 : Nat) (List.take ((some (IntKind.i64.wrap ((IntKind.u64.wrap y).tmod 
  (IntKind.u64.wrap (↑x_1.snd.snd.length : Int))))).getD (↑x_1.snd.snd.length : Int)).toNat x_1.snd.snd) ++ List.drop ((some (IntKind.i64.wrap (IntKind.i64.wrap ((IntKind.u64.wrap y).tmod (IntKind.u64.wrap 
  (↑x_1.snd.snd.length : Int))) + (1 : Int)))).getD (0 : Int)).toNat (List.take (none.getD (↑x_1.snd.snd.length : Int)).toNat x_1.snd.snd)).length : Int) == (0 : Int)) == v) = false → ∃ (x' : Nat × Tb × List Int), (LkInv 
  q x'.snd.fst x'.snd.snd ∧ x'.fst + x'.snd.snd.length ≤ (13 : Nat)) ∧ x'.snd.snd.length < x_1.snd.snd.length ∧ (True ∧ True) ∧ (IntKind.i64.wrap ((↑x_1.fst : Int) + (1 : Int)) = (↑x'.fst : Int) ∧ List.drop (0 : Nat) 
  (List.take ((some (IntKind.i64.wrap ((IntKind.u64.wrap y).tmod (IntKind.u64.wrap (↑x_1.snd.snd.length : Int))))).getD (↑x_1.snd.snd.length : Int)).toNat x_1.snd.snd) ++ List.drop ((some (IntKind.i64.wrap 
  (IntKind.i64.wrap ((IntKind.u64.wrap y).tmod (IntKind.u64.wrap (↑x_1.snd.snd.length : Int))) + (1 : Int)))).getD (0 : Int)).toNat (List.take (none.getD (↑x_1.snd.snd.length : Int)).toNat x_1.snd.snd) = x'.snd.snd ∧ 
  false = false ∧ (↑x.fst : Int) = (↑x.fst : Int) ∧ false = false ∧ IntKind.i64.wrap ((1 : Int) + IntKind.i64.wrap ((IntKind.u64.wrap quota).tmod (1000 : Int))) = IntKind.i64.wrap ((1 : Int) + IntKind.i64.wrap 
  ((IntKind.u64.wrap quota).tmod (1000 : Int))) ∧ minI (↑boxes.length : Int) (12 : Int) = minI (↑boxes.length : Int) (12 : Int) ∧ True ∧ false = false ∧ boxes = boxes ∧ order = order ∧ True) ∧ ((2 : Int) = (2 : Int) ∧ 
  SV.val (Value.slice none (0 : Nat) (0 : Nat)) = SV.val (Value.slice none (0 : Nat) (0 : Nat)) ∧ True) ∧ (KT.cust = KT.cust ∧ y_4.snd = x'.snd.fst) ∧ ((2 : Int) = (2 : Int) ∧ SV.val (Value.slice none (0 : Nat) (0 : 
  Nat)) = SV.val (Value.slice none (0 : Nat) (0 : Nat)) ∧ True) ∧ ((2 : Int) = (2 : Int) ∧ SV.val (Value.slice none (0 : Nat) (0 : Nat)) = SV.val (Value.slice none (0 : Nat) (0 : Nat)) ∧ True) ∧ True ∧ True)) ∧ 
  ((y_4.fst.snd != (0 : Int)) = !false → false = true ∧ True)) ∧ True) ∧ (v = false → WfT x_1.snd.fst ∧ (True ∧ (1 : Int) = (1 : Int) ∧ y_3 = y_3 ∧ True) ∧ ((KT.cust = KT.cust ∧ x_1.snd.fst = dropV.inn (x_1.snd.fst, (1 : 
  Int), y_3)) ∧ True) ∧ (∀ (y_4 : (List Int × Int) × List (Int × (Int × Int × Int × Int × Int × Int × List (Int × Int)) × List Int) × Int), Ran (((dropR x_1.snd.fst (1 : Int) y_3).fst, (dropR x_1.snd.fst (1 : Int) 
  y_3).snd.fst), (dropR x_1.snd.fst (1 : Int) y_3).snd.snd) y_4 → ((y_4.fst.snd != (0 : Int)) = false → (List.drop (0 : Nat) (List.take ((some (IntKind.i64.wrap ((IntKind.u64.wrap y).tmod (IntKind.u64.wrap 
  (↑x_1.snd.snd.length : Int))))).getD (↑x_1.snd.snd.length : Int)).toNat x_1.snd.snd) ++ List.drop ((some (IntKind.i64.wrap (IntKind.i64.wrap ((IntKind.u64.wrap y).tmod (IntKind.u64.wrap (↑x_1.snd.snd.length : Int))) + 
  (1 : Int)))).getD (0 : Int)).toNat (List.take (none.getD (↑x_1.snd.snd.length : Int)).toNat x_1.snd.snd)).length ≤ maxLen → ∃ (v : Bool), (y_4.fst.fst.length ≤ maxLen → (decide ((↑y_4.fst.fst.length : Int) > (0 : Int)) 
  = true → y_4.fst.fst.length ≤ maxLen → ((0 : Int) ≤ IntKind.i64.wrap ((↑y_4.fst.fst.length : Int) - (1 : Int)) ∧ IntKind.i64.wrap ((↑y_4.fst.fst.length : Int) - (1 : Int)) < (↑y_4.fst.fst.length : Int)) ∧ ∀ (y : Int), 
  y_4.fst.fst[(IntKind.i64.wrap ((↑y_4.fst.fst.length : Int) - (1 : Int))).toNat]? = some y → (y == (600 : Int)) = v) ∧ (decide ((↑y_4.fst.fst.length : Int) > (0 : Int)) = !true → false = v)) ∧ ((!((↑(List.drop (0 : Nat) 
  (List.take ((some (IntKind.i64.wrap ((IntKind.u64.wrap y).tmod (IntKind.u64.wrap (↑x_1.snd.snd.length : Int))))).getD (↑x_1.snd.snd.length : Int)).toNat x_1.snd.snd) ++ List.drop ((some (IntKind.i64.wrap 
  (IntKind.i64.wrap ((IntKind.u64.wrap y).tmod (IntKind.u64.wrap (↑x_1.snd.snd.length : Int))) + (1 : Int)))).getD (0 : Int)).toNat (List.take (none.getD (↑x_1.snd.snd.length : Int)).toNat x_1.snd.snd)).length : Int) == 
  (0 : Int)) == v) = true → false = true ∧ True) ∧ ((!((↑(List.drop (0 : Nat) (List.take ((some (IntKind.i64.wrap ((IntKind.u64.wrap y).tmod (IntKind.u64.wrap (↑x_1.snd.snd.length : Int))))).getD (↑x_1.snd.snd.length : 
  Int)).toNat x_1.snd.snd) ++ List.drop ((some (IntKind.i64.wrap (IntKind.i64.wrap ((IntKind.u64.wrap y).tmod (IntKind.u64.wrap (↑x_1.snd.snd.length : Int))) + (1 : Int)))).getD (0 : Int)).toNat (List.take (none.getD 
  (↑x_1.snd.snd.length : Int)).toNat x_1.snd.snd)).length : Int) == (0 : Int)) == v) = false → ∃ (x' : Nat × Tb × List Int), (LkInv q x'.snd.fst x'.snd.snd ∧ x'.fst + x'.snd.snd.length ≤ (13 : Nat)) ∧ x'.snd.snd.length < 
  x_1.snd.snd.length ∧ (True ∧ True) ∧ (IntKind.i64.wrap ((↑x_1.fst : Int) + (1 : Int)) = (↑x'.fst : Int) ∧ List.drop (0 : Nat) (List.take ((some (IntKind.i64.wrap ((IntKind.u64.wrap y).tmod (IntKind.u64.wrap 
  (↑x_1.snd.snd.length : Int))))).getD (↑x_1.snd.snd.length : Int)).toNat x_1.snd.snd) ++ List.drop ((some (IntKind.i64.wrap (IntKind.i64.wrap ((IntKind.u64.wrap y).tmod (IntKind.u64.wrap (↑x_1.snd.snd.length : Int))) + 
  (1 : Int)))).getD (0 : Int)).toNat (List.take (none.getD (↑x_1.snd.snd.length : Int)).toNat x_1.snd.snd) = x'.snd.snd ∧ false = false ∧ (↑x.fst : Int) = (↑x.fst : Int) ∧ false = false ∧ IntKind.i64.wrap ((1 : Int) + 
  IntKind.i64.wrap ((IntKind.u64.wrap quota).tmod (1000 : Int))) = IntKind.i64.wrap ((1 : Int) + IntKind.i64.wrap ((IntKind.u64.wrap quota).tmod (1000 : Int))) ∧ minI (↑boxes.length : Int) (12 : Int) = minI 
  (↑boxes.length : Int) (12 : Int) ∧ True ∧ false = false ∧ boxes = boxes ∧ order = order ∧ True) ∧ ((2 : Int) = (2 : Int) ∧ SV.val (Value.slice none (0 : Nat) (0 : Nat)) = SV.val (Value.slice none (0 : Nat) (0 : Nat)) ∧ 
  True) ∧ (KT.cust = KT.cust ∧ y_4.snd = x'.snd.fst) ∧ ((2 : Int) = (2 : Int) ∧ SV.val (Value.slice none (0 : Nat) (0 : Nat)) = SV.val (Value.slice none (0 : Nat) (0 : Nat)) ∧ True) ∧ ((2 : Int) = (2 : Int) ∧ SV.val 
  (Value.slice none (0 : Nat) (0 : Nat)) = SV.val (Value.slice none (0 : Nat) (0 : Nat)) ∧ True) ∧ True ∧ True)) ∧ ((y_4.fst.snd != (0 : Int)) = !false → false = true ∧ True)) ∧ True)))) ∧ True) ∧ (decide ((↑x_1.fst : 
  Int) < (↑order.length : Int)) = false → WfT x_1.snd.fst ∧ (True ∧ (600 : Int) = (600 : Int) ∧ True) ∧ ((KT.cust = KT.cust ∧ x_1.snd.fst = infoV.inn (x_1.snd.fst, (600 : Int))) ∧ True) ∧ (∀ (y : Info × Bool), Ran (infoR 
  x_1.snd.fst (600 : Int)) y → ∃ (v : Bool), (((!y.snd) = false → x_1.snd.snd.length ≤ maxLen → ((y.fst.snd.snd.snd.snd.fst != (↑x_1.snd.snd.length : Int)) = false → (y.fst.snd.snd.fst != IntKind.i64.wrap ((1 : Int) + 
  IntKind.i64.wrap ((IntKind.u64.wrap quota).tmod (1000 : Int)))) = v) ∧ ((y.fst.snd.snd.snd.snd.fst != (↑x_1.snd.snd.length : Int)) = !false → true = v)) ∧ ((!y.snd) = !false → true = v)) ∧ (v = true → false = true ∧ 
  True) ∧ (v = false → ((0 : Int) ≤ (0 : Int) ∧ (0 : Int) < (↑x_1.snd.snd.length : Int)) ∧ ∀ (y : Int), x_1.snd.snd[(0 : Nat)]? = some y → ((0 : Int) ≤ (some (0 : Int)).getD (↑x_1.snd.snd.length : Int) ∧ (some (0 : 
  Int)).getD (↑x_1.snd.snd.length : Int) ≤ (↑x_1.snd.snd.length : Int) ∧ (0 : Int) ≤ none.getD (0 : Int) ∧ none.getD (0 : Int) ≤ (some (0 : Int)).getD (↑x_1.snd.snd.length : Int)) ∧ (List.drop (0 : Nat) (List.take ((some 
  (0 : Int)).getD (↑x_1.snd.snd.length : Int)).toNat x_1.snd.snd)).length * (8 : Nat) ≤ (140737488355328 : Nat) ∧ (List.drop (0 : Nat) (List.take ((some (0 : Int)).getD (↑x_1.snd.snd.length : Int)).toNat x_1.snd.snd) = 
  [] → ((0 : Int) ≤ none.getD (↑x_1.snd.snd.length : Int) ∧ none.getD (↑x_1.snd.snd.length : Int) ≤ (↑x_1.snd.snd.length : Int) ∧ (0 : Int) ≤ (some (IntKind.i64.wrap ((0 : Int) + (1 : Int)))).getD (0 : Int) ∧ (some 
  (IntKind.i64.wrap ((0 : Int) + (1 : Int)))).getD (0 : Int) ≤ none.getD (↑x_1.snd.snd.length : Int)) ∧ (List.drop (1 : Nat) (List.take (none.getD (↑x_1.snd.snd.length : Int)).toNat x_1.snd.snd)).length * (8 : Nat) ≤ 
  (140737488355328 : Nat) ∧ (List.drop (1 : Nat) (List.take (none.getD (↑x_1.snd.snd.length : Int)).toNat x_1.snd.snd) = [] → ∃ (v : Bool), (boxes.length ≤ maxLen → (decide ((↑x_1.fst : Int) < (↑boxes.length : Int)) = 
  true → ((0 : Int) ≤ (↑x_1.fst : Int) ∧ (↑x_1.fst : Int) < (↑boxes.length : Int)) ∧ ∀ (y : Int), boxes[(↑x_1.fst : Int).toNat]? = some y → (2 : Int) ≠ (0 : Int) ∧ (y.tmod (2 : Int) == (0 : Int)) = v) ∧ (decide 
  ((↑x_1.fst : Int) < (↑boxes.length : Int)) = !true → false = v)) ∧ (v = true → WfT x_1.snd.fst ∧ (True ∧ y = y ∧ (600 : Int) = (600 : Int) ∧ True) ∧ ((KT.cust = KT.cust ∧ x_1.snd.fst = dropV.inn (x_1.snd.fst, y, (600 : 
  Int))) ∧ True) ∧ (∀ (y_2 : (List Int × Int) × List (Int × (Int × Int × Int × Int × Int × Int × List (Int × Int)) × List Int) × Int), Ran (((dropR x_1.snd.fst y (600 : Int)).fst, (dropR x_1.snd.fst y (600 : 
  Int)).snd.fst), (dropR x_1.snd.fst y (600 : Int)).snd.snd) y_2 → ((y_2.fst.snd != (0 : Int)) = false → ∃ (v : Bool), (y_2.fst.fst.length ≤ maxLen → (decide ((↑y_2.fst.fst.length : Int) > (0 : Int)) = true → 
  y_2.fst.fst.length ≤ maxLen → ((0 : Int) ≤ IntKind.i64.wrap ((↑y_2.fst.fst.length : Int) - (1 : Int)) ∧ IntKind.i64.wrap ((↑y_2.fst.fst.length : Int) - (1 : Int)) < (↑y_2.fst.fst.length : Int)) ∧ ∀ (y : Int), 
  y_2.fst.fst[(IntKind.i64.wrap ((↑y_2.fst.fst.length : Int) - (1 : Int))).toNat]? = some y → (y == (600 : Int)) = v) ∧ (decide ((↑y_2.fst.fst.length : Int) > (0 : Int)) = !true → false = v)) ∧ ((!((0 : Int) == (0 : 
  Int)) == v) = true → false = true ∧ True) ∧ ((!((0 : Int) == (0 : Int)) == v) = false → ∃ (x' : Nat × Tb × List Int), (LkInv q x'.snd.fst x'.snd.snd ∧ x'.fst + x'.snd.snd.length ≤ (13 : Nat)) ∧ x'.snd.snd.length < 
  x_1.snd.snd.length ∧ (True ∧ True) ∧ (IntKind.i64.wrap ((↑x_1.fst : Int) + (1 : Int)) = (↑x'.fst : Int) ∧ x'.snd.snd = [] ∧ false = false ∧ (↑x.fst : Int) = (↑x.fst : Int) ∧ false = false ∧ IntKind.i64.wrap ((1 : Int) 
  + IntKind.i64.wrap ((IntKind.u64.wrap quota).tmod (1000 : Int))) = IntKind.i64.wrap ((1 : Int) + IntKind.i64.wrap ((IntKind.u64.wrap quota).tmod (1000 : Int))) ∧ minI (↑boxes.length : Int) (12 : Int) = minI 
  (↑boxes.length : Int) (12 : Int) ∧ True ∧ false = false ∧ boxes = boxes ∧ order = order ∧ True) ∧ ((2 : Int) = (2 : Int) ∧ SV.val (Value.slice none (0 : Nat) (0 : Nat)) = SV.val (Value.slice none (0 : Nat) (0 : Nat)) ∧ 
  True) ∧ (KT.cust = KT.cust ∧ y_2.snd = x'.snd.fst) ∧ ((2 : Int) = (2 : Int) ∧ SV.val (Value.slice none (0 : Nat) (0 : Nat)) = SV.val (Value.slice none (0 : Nat) (0 : Nat)) ∧ True) ∧ ((2 : Int) = (2 : Int) ∧ SV.val 
  (Value.slice none (0 : Nat) (0 : Nat)) = SV.val (Value.slice none (0 : Nat) (0 : Nat)) ∧ True) ∧ True ∧ True)) ∧ ((y_2.fst.snd != (0 : Int)) = !false → false = true ∧ True)) ∧ True) ∧ (v = false → WfT x_1.snd.fst ∧ 
  (True ∧ (1 : Int) = (1 : Int) ∧ y = y ∧ True) ∧ ((KT.cust = KT.cust ∧ x_1.snd.fst = dropV.inn (x_1.snd.fst, (1 : Int), y)) ∧ True) ∧ (∀ (y_2 : (List Int × Int) × List (Int × (Int × Int × Int × Int × Int × Int × List 
  (Int × Int)) × List Int) × Int), Ran (((dropR x_1.snd.fst (1 : Int) y).fst, (dropR x_1.snd.fst (1 : Int) y).snd.fst), (dropR x_1.snd.fst (1 : Int) y).snd.snd) y_2 → ((y_2.fst.snd != (0 : Int)) = false → ∃ (v : Bool), 
  (y_2.fst.fst.length ≤ maxLen → (decide ((↑y_2.fst.fst.length : Int) > (0 : Int)) = true → y_2.fst.fst.length ≤ maxLen → ((0 : Int) ≤ IntKind.i64.wrap ((↑y_2.fst.fst.length : Int) - (1 : Int)) ∧ IntKind.i64.wrap 
  ((↑y_2.fst.fst.length : Int) - (1 : Int)) < (↑y_2.fst.fst.length : Int)) ∧ ∀ (y : Int), y_2.fst.fst[(IntKind.i64.wrap ((↑y_2.fst.fst.length : Int) - (1 : Int))).toNat]? = some y → (y == (600 : Int)) = v) ∧ (decide 
  ((↑y_2.fst.fst.length : Int) > (0 : Int)) = !true → false = v)) ∧ ((!((0 : Int) == (0 : Int)) == v) = true → false = true ∧ True) ∧ ((!((0 : Int) == (0 : Int)) == v) = false → ∃ (x' : Nat × Tb × List Int), (LkInv q 
  x'.snd.fst x'.snd.snd ∧ x'.fst + x'.snd.snd.length ≤ (13 : Nat)) ∧ x'.snd.snd.length < x_1.snd.snd.length ∧ (True ∧ True) ∧ (IntKind.i64.wrap ((↑x_1.fst : Int) + (1 : Int)) = (↑x'.fst : Int) ∧ x'.snd.snd = [] ∧ false = 
  false ∧ (↑x.fst : Int) = (↑x.fst : Int) ∧ false = false ∧ IntKind.i64.wrap ((1 : Int) + IntKind.i64.wrap ((IntKind.u64.wrap quota).tmod (1000 : Int))) = IntKind.i64.wrap ((1 : Int) + IntKind.i64.wrap ((IntKind.u64.wrap 
  quota).tmod (1000 : Int))) ∧ minI (↑boxes.length : Int) (12 : Int) = minI (↑boxes.length : Int) (12 : Int) ∧ True ∧ false = false ∧ boxes = boxes ∧ order = order ∧ True) ∧ ((2 : Int) = (2 : Int) ∧ SV.val (Value.slice 
  none (0 : Nat) (0 : Nat)) = SV.val (Value.slice none (0 : Nat) (0 : Nat)) ∧ True) ∧ (KT.cust = KT.cust ∧ y_2.snd = x'.snd.fst) ∧ ((2 : Int) = (2 : Int) ∧ SV.val (Value.slice none (0 : Nat) (0 : Nat)) = SV.val 
  (Value.slice none (0 : Nat) (0 : Nat)) ∧ True) ∧ ((2 : Int) = (2 : Int) ∧ SV.val (Value.slice none (0 : Nat) (0 : Nat)) = SV.val (Value.slice none (0 : Nat) (0 : Nat)) ∧ True) ∧ True ∧ True)) ∧ ((y_2.fst.snd != (0 : 
  Int)) = !false → false = true ∧ True)) ∧ True)) ∧ (List.drop (1 : Nat) (List.take (none.getD (↑x_1.snd.snd.length : Int)).toNat x_1.snd.snd) ≠ [] → ∃ (v : Bool), (boxes.length ≤ maxLen → (decide ((↑x_1.fst : Int) < 
  (↑boxes.length : Int)) = true → ((0 : Int) ≤ (↑x_1.fst : Int) ∧ (↑x_1.fst : Int) < (↑boxes.length : Int)) ∧ ∀ (y : Int), boxes[(↑x_1.fst : Int).toNat]? = some y → (2 : Int) ≠ (0 : Int) ∧ (y.tmod (2 : Int) == (0 : Int)) 
  = v) ∧ (decide ((↑x_1.fst : Int) < (↑boxes.length : Int)) = !true → false = v)) ∧ (v = true → WfT x_1.snd.fst ∧ (True ∧ y = y ∧ (600 : Int) = (600 : Int) ∧ True) ∧ ((KT.cust = KT.cust ∧ x_1.snd.fst = dropV.inn 
  (x_1.snd.fst, y, (600 : Int))) ∧ True) ∧ (∀ (y_2 : (List Int × Int) × List (Int × (Int × Int × Int × Int × Int × Int × List (Int × Int)) × List Int) × Int), Ran (((dropR x_1.snd.fst y (600 : Int)).fst, (dropR 
  x_1.snd.fst y (600 : Int)).snd.fst), (dropR x_1.snd.fst y (600 : Int)).snd.snd) y_2 → ((y_2.fst.snd != (0 : Int)) = false → (List.drop (1 : Nat) (List.take (none.getD (↑x_1.snd.snd.length : Int)).toNat 
  x_1.snd.snd)).length ≤ maxLen → ∃ (v : Bool), (y_2.fst.fst.length ≤ maxLen → (decide ((↑y_2.fst.fst.length : Int) > (0 : Int)) = true → y_2.fst.fst.length ≤ maxLen → ((0 : Int) ≤ IntKind.i64.wrap ((↑y_2.fst.fst.length 
  : Int) - (1 : Int)) ∧ IntKind.i64.wrap ((↑y_2.fst.fst.length : Int) - (1 : Int)) < (↑y_2.fst.fst.length : Int)) ∧ ∀ (y : Int), y_2.fst.fst[(IntKind.i64.wrap ((↑y_2.fst.fst.length : Int) - (1 : Int))).toNat]? = some y → 
  (y == (600 : Int)) = v) ∧ (decide ((↑y_2.fst.fst.length : Int) > (0 : Int)) = !true → false = v)) ∧ ((!((↑(List.drop (1 : Nat) (List.take (none.getD (↑x_1.snd.snd.length : Int)).toNat x_1.snd.snd)).length : Int) == (0 
  : Int)) == v) = true → false = true ∧ True) ∧ ((!((↑(List.drop (1 : Nat) (List.take (none.getD (↑x_1.snd.snd.length : Int)).toNat x_1.snd.snd)).length : Int) == (0 : Int)) == v) = false → ∃ (x' : Nat × Tb × List Int), 
  (LkInv q x'.snd.fst x'.snd.snd ∧ x'.fst + x'.snd.snd.length ≤ (13 : Nat)) ∧ x'.snd.snd.length < x_1.snd.snd.length ∧ (True ∧ True) ∧ (IntKind.i64.wrap ((↑x_1.fst : Int) + (1 : Int)) = (↑x'.fst : Int) ∧ List.drop (1 : 
  Nat) (List.take (none.getD (↑x_1.snd.snd.length : Int)).toNat x_1.snd.snd) = x'.snd.snd ∧ false = false ∧ (↑x.fst : Int) = (↑x.fst : Int) ∧ false = false ∧ IntKind.i64.wrap ((1 : Int) + IntKind.i64.wrap 
  ((IntKind.u64.wrap quota).tmod (1000 : Int))) = IntKind.i64.wrap ((1 : Int) + IntKind.i64.wrap ((IntKind.u64.wrap quota).tmod (1000 : Int))) ∧ minI (↑boxes.length : Int) (12 : Int) = minI (↑boxes.length : Int) (12 : 
  Int) ∧ True ∧ false = false ∧ boxes = boxes ∧ order = order ∧ True) ∧ ((2 : Int) = (2 : Int) ∧ SV.val (Value.slice none (0 : Nat) (0 : Nat)) = SV.val (Value.slice none (0 : Nat) (0 : Nat)) ∧ True) ∧ (KT.cust = KT.cust 
  ∧ y_2.snd = x'.snd.fst) ∧ ((2 : Int) = (2 : Int) ∧ SV.val (Value.slice none (0 : Nat) (0 : Nat)) = SV.val (Value.slice none (0 : Nat) (0 : Nat)) ∧ True) ∧ ((2 : Int) = (2 : Int) ∧ SV.val (Value.slice none (0 : Nat) (0 
  : Nat)) = SV.val (Value.slice none (0 : Nat) (0 : Nat)) ∧ True) ∧ True ∧ True)) ∧ ((y_2.fst.snd != (0 : Int)) = !false → false = true ∧ True)) ∧ True) ∧ (v = false → WfT x_1.snd.fst ∧ (True ∧ (1 : Int) = (1 : Int) ∧ y 
  = y ∧ True) ∧ ((KT.cust = KT.cust ∧ x_1.snd.fst = dropV.inn (x_1.snd.fst, (1 : Int), y)) ∧ True) ∧ (∀ (y_2 : (List Int × Int) × List (Int × (Int × Int × Int × Int × Int × Int × List (Int × Int)) × List Int) × Int), Ran 
  (((dropR x_1.snd.fst (1 : Int) y).fst, (dropR x_1.snd.fst (1 : Int) y).snd.fst), (dropR x_1.snd.fst (1 : Int) y).snd.snd) y_2 → ((y_2.fst.snd != (0 : Int)) = false → (List.drop (1 : Nat) (List.take (none.getD 
  (↑x_1.snd.snd.length : Int)).toNat x_1.snd.snd)).length ≤ maxLen → ∃ (v : Bool), (y_2.fst.fst.length ≤ maxLen → (decide ((↑y_2.fst.fst.length : Int) > (0 : Int)) = true → y_2.fst.fst.length ≤ maxLen → ((0 : Int) ≤ 
  IntKind.i64.wrap ((↑y_2.fst.fst.length : Int) - (1 : Int)) ∧ IntKind.i64.wrap ((↑y_2.fst.fst.length : Int) - (1 : Int)) < (↑y_2.fst.fst.length : Int)) ∧ ∀ (y : Int), y_2.fst.fst[(IntKind.i64.wrap ((↑y_2.fst.fst.length 
  : Int) - (1 : Int))).toNat]? = some y → (y == (600 : Int)) = v) ∧ (decide ((↑y_2.fst.fst.length : Int) > (0 : Int)) = !true → false = v)) ∧ ((!((↑(List.drop (1 : Nat) (List.take (none.getD (↑x_1.snd.snd.length : 
  Int)).toNat x_1.snd.snd)).length : Int) == (0 : Int)) == v) = true → false = true ∧ True) ∧ ((!((↑(List.drop (1 : Nat) (List.take (none.getD (↑x_1.snd.snd.length : Int)).toNat x_1.snd.snd)).length : Int) == (0 : Int)) 
  == v) = false → ∃ (x' : Nat × Tb × List Int), (LkInv q x'.snd.fst x'.snd.snd ∧ x'.fst + x'.snd.snd.length ≤ (13 : Nat)) ∧ x'.snd.snd.length < x_1.snd.snd.length ∧ (True ∧ True) ∧ (IntKind.i64.wrap ((↑x_1.fst : Int) + 
  (1 : Int)) = (↑x'.fst : Int) ∧ List.drop (1 : Nat) (List.take (none.getD (↑x_1.snd.snd.length : Int)).toNat x_1.snd.snd) = x'.snd.snd ∧ false = false ∧ (↑x.fst : Int) = (↑x.fst : Int) ∧ false = false ∧ IntKind.i64.wrap 
  ((1 : Int) + IntKind.i64.wrap ((IntKind.u64.wrap quota).tmod (1000 : Int))) = IntKind.i64.wrap ((1 : Int) + IntKind.i64.wrap ((IntKind.u64.wrap quota).tmod (1000 : Int))) ∧ minI (↑boxes.length : Int) (12 : Int) = minI 
  (↑boxes.length : Int) (12 : Int) ∧ True ∧ false = false ∧ boxes = boxes ∧ order = order ∧ True) ∧ ((2 : Int) = (2 : Int) ∧ SV.val (Value.slice none (0 : Nat) (0 : Nat)) = SV.val (Value.slice none (0 : Nat) (0 : Nat)) ∧ 
  True) ∧ (KT.cust = KT.cust ∧ y_2.snd = x'.snd.fst) ∧ ((2 : Int) = (2 : Int) ∧ SV.val (Value.slice none (0 : Nat) (0 : Nat)) = SV.val (Value.slice none (0 : Nat) (0 : Nat)) ∧ True) ∧ ((2 : Int) = (2 : Int) ∧ SV.val 
  (Value.slice none (0 : Nat) (0 : Nat)) = SV.val (Value.slice none (0 : Nat) (0 : Nat)) ∧ True) ∧ True ∧ True)) ∧ ((y_2.fst.snd != (0 : Int)) = !false → false = true ∧ True)) ∧ True))) ∧ (List.drop (0 : Nat) (List.take 
  ((some (0 : Int)).getD (↑x_1.snd.snd.length : Int)).toNat x_1.snd.snd) ≠ [] → ((0 : Int) ≤ none.getD (↑x_1.snd.snd.length : Int) ∧ none.getD (↑x_1.snd.snd.length : Int) ≤ (↑x_1.snd.snd.length : Int) ∧ (0 : Int) ≤ (some 
  (IntKind.i64.wrap ((0 : Int) + (1 : Int)))).getD (0 : Int) ∧ (some (IntKind.i64.wrap ((0 : Int) + (1 : Int)))).getD (0 : Int) ≤ none.getD (↑x_1.snd.snd.length : Int)) ∧ ((List.drop (0 : Nat) (List.take ((some (0 : 
  Int)).getD (↑x_1.snd.snd.length : Int)).toNat x_1.snd.snd)).length + (List.drop (1 : Nat) (List.take (none.getD (↑x_1.snd.snd.length : Int)).toNat x_1.snd.snd)).length) * (8 : Nat) ≤ (140737488355328 : Nat) ∧ ∃ (v : 
  Bool), (boxes.length ≤ maxLen → (decide ((↑x_1.fst : Int) < (↑boxes.length : Int)) = true → ((0 : Int) ≤ (↑x_1.fst : Int) ∧ (↑x_1.fst : Int) < (↑boxes.length : Int)) ∧ ∀ (y : Int), boxes[(↑x_1.fst : Int).toNat]? = some 
  y → (2 : Int) ≠ (0 : Int) ∧ (y.tmod (2 : Int) == (0 : Int)) = v) ∧ (decide ((↑x_1.fst : Int) < (↑boxes.length : Int)) = !true → false = v)) ∧ (v = true → WfT x_1.snd.fst ∧ (True ∧ y = y ∧ (600 : Int) = (600 : Int) ∧ 
  True) ∧ ((KT.cust = KT.cust ∧ x_1.snd.fst = dropV.inn (x_1.snd.fst, y, (600 : Int))) ∧ True) ∧ (∀ (y_2 : (List Int × Int) × List (Int × (Int × Int × Int × Int × Int × Int × List (Int × Int)) × List Int) × Int), Ran 
  (((dropR x_1.snd.fst y (600 : Int)).fst, (dropR x_1.snd.fst y (600 : Int)).snd.fst), (dropR x_1.snd.fst y (600 : Int)).snd.snd) y_2 → ((y_2.fst.snd != (0 : Int)) = false → (List.drop (0 : Nat) (List.take ((some (0 : 
  Int)).getD (↑x_1.snd.snd.length : Int)).toNat x_1.snd.snd) ++ List.drop (1 : Nat) (List.take (none.getD (↑x_1.snd.snd.length : Int)).toNat x_1.snd.snd)).length ≤ maxLen → ∃ (v : Bool), (y_2.fst.fst.length ≤ maxLen → 
  (decide ((↑y_2.fst.fst.length : Int) > (0 : Int)) = true → y_2.fst.fst.length ≤ maxLen → ((0 : Int) ≤ IntKind.i64.wrap ((↑y_2.fst.fst.length : Int) - (1 : Int)) ∧ IntKind.i64.wrap ((↑y_2.fst.fst.length : Int) - (1 : 
  Int)) < (↑y_2.fst.fst.length : Int)) ∧ ∀ (y : Int), y_2.fst.fst[(IntKind.i64.wrap ((↑y_2.fst.fst.length : Int) - (1 : Int))).toNat]? = some y → (y == (600 : Int)) = v) ∧ (decide ((↑y_2.fst.fst.length : Int) > (0 : 
  Int)) = !true → false = v)) ∧ ((!((↑(List.drop (0 : Nat) (List.take ((some (0 : Int)).getD (↑x_1.snd.snd.length : Int)).toNat x_1.snd.snd) ++ List.drop (1 : Nat) (List.take (none.getD (↑x_1.snd.snd.length : Int)).toNat 
  x_1.snd.snd)).length : Int) == (0 : Int)) == v) = true → false = true ∧ True) ∧ ((!((↑(List.drop (0 : Nat) (List.take ((some (0 : Int)).getD (↑x_1.snd.snd.length : Int)).toNat x_1.snd.snd) ++ List.drop (1 : Nat) 
  (List.take (none.getD (↑x_1.snd.snd.length : Int)).toNat x_1.snd.snd)).length : Int) == (0 : Int)) == v) = false → ∃ (x' : Nat × Tb × List Int), (LkInv q x'.snd.fst x'.snd.snd ∧ x'.fst + x'.snd.snd.length ≤ (13 : Nat)) 
  ∧ x'.snd.snd.length < x_1.snd.snd.length ∧ (True ∧ True) ∧ (IntKind.i64.wrap ((↑x_1.fst : Int) + (1 : Int)) = (↑x'.fst : Int) ∧ List.drop (0 : Nat) (List.take ((some (0 : Int)).getD (↑x_1.snd.snd.length : Int)).toNat 
  x_1.snd.snd) ++ List.drop (1 : Nat) (List.take (none.getD (↑x_1.snd.snd.length : Int)).toNat x_1.snd.snd) = x'.snd.snd ∧ false = false ∧ (↑x.fst : Int) = (↑x.fst : Int) ∧ false = false ∧ IntKind.i64.wrap ((1 : Int) + 
  IntKind.i64.wrap ((IntKind.u64.wrap quota).tmod (1000 : Int))) = IntKind.i64.wrap ((1 : Int) + IntKind.i64.wrap ((IntKind.u64.wrap quota).tmod (1000 : Int))) ∧ minI (↑boxes.length : Int) (12 : Int) = minI 
  (↑boxes.length : Int) (12 : Int) ∧ True ∧ false = false ∧ boxes = boxes ∧ order = order ∧ True) ∧ ((2 : Int) = (2 : Int) ∧ SV.val (Value.slice none (0 : Nat) (0 : Nat)) = SV.val (Value.slice none (0 : Nat) (0 : Nat)) ∧ 
  True) ∧ (KT.cust = KT.cust ∧ y_2.snd = x'.snd.fst) ∧ ((2 : Int) = (2 : Int) ∧ SV.val (Value.slice none (0 : Nat) (0 : Nat)) = SV.val (Value.slice none (0 : Nat) (0 : Nat)) ∧ True) ∧ ((2 : Int) = (2 : Int) ∧ SV.val 
  (Value.slice none (0 : Nat) (0 : Nat)) = SV.val (Value.slice none (0 : Nat) (0 : Nat)) ∧ True) ∧ True ∧ True)) ∧ ((y_2.fst.snd != (0 : Int)) = !false → false = true ∧ True)) ∧ True) ∧ (v = false → WfT x_1.snd.fst ∧ 
  (True ∧ (1 : Int) = (1 : Int) ∧ y = y ∧ True) ∧ ((KT.cust = KT.cust ∧ x_1.snd.fst = dropV.inn (x_1.snd.fst, (1 : Int), y)) ∧ True) ∧ (∀ (y_2 : (List Int × Int) × List (Int × (Int × Int × Int × Int × Int × Int × List 
  (Int × Int)) × List Int) × Int), Ran (((dropR x_1.snd.fst (1 : Int) y).fst, (dropR x_1.snd.fst (1 : Int) y).snd.fst), (dropR x_1.snd.fst (1 : Int) y).snd.snd) y_2 → ((y_2.fst.snd != (0 : Int)) = false → (List.drop (0 : 
  Nat) (List.take ((some (0 : Int)).getD (↑x_1.snd.snd.length : Int)).toNat x_1.snd.snd) ++ List.drop (1 : Nat) (List.take (none.getD (↑x_1.snd.snd.length : Int)).toNat x_1.snd.snd)).length ≤ maxLen → ∃ (v : Bool), 
  (y_2.fst.fst.length ≤ maxLen → (decide ((↑y_2.fst.fst.length : Int) > (0 : Int)) = true → y_2.fst.fst.length ≤ maxLen → ((0 : Int) ≤ IntKind.i64.wrap ((↑y_2.fst.fst.length : Int) - (1 : Int)) ∧ IntKind.i64.wrap 
  ((↑y_2.fst.fst.length : Int) - (1 : Int)) < (↑y_2.fst.fst.length : Int)) ∧ ∀ (y : Int), y_2.fst.fst[(IntKind.i64.wrap ((↑y_2.fst.fst.length : Int) - (1 : Int))).toNat]? = some y → (y == (600 : Int)) = v) ∧ (decide 
  ((↑y_2.fst.fst.length : Int) > (0 : Int)) = !true → false = v)) ∧ ((!((↑(List.drop (0 : Nat) (List.take ((some (0 : Int)).getD (↑x_1.snd.snd.length : Int)).toNat x_1.snd.snd) ++ List.drop (1 : Nat) (List.take 
  (none.getD (↑x_1.snd.snd.length : Int)).toNat x_1.snd.snd)).length : Int) == (0 : Int)) == v) = true → false = true ∧ True) ∧ ((!((↑(List.drop (0 : Nat) (List.take ((some (0 : Int)).getD (↑x_1.snd.snd.length : 
  Int)).toNat x_1.snd.snd) ++ List.drop (1 : Nat) (List.take (none.getD (↑x_1.snd.snd.length : Int)).toNat x_1.snd.snd)).length : Int) == (0 : Int)) == v) = false → ∃ (x' : Nat × Tb × List Int), (LkInv q x'.snd.fst 
  x'.snd.snd ∧ x'.fst + x'.snd.snd.length ≤ (13 : Nat)) ∧ x'.snd.snd.length < x_1.snd.snd.length ∧ (True ∧ True) ∧ (IntKind.i64.wrap ((↑x_1.fst : Int) + (1 : Int)) = (↑x'.fst : Int) ∧ List.drop (0 : Nat) (List.take 
  ((some (0 : Int)).getD (↑x_1.snd.snd.length : Int)).toNat x_1.snd.snd) ++ List.drop (1 : Nat) (List.take (none.getD (↑x_1.snd.snd.length : Int)).toNat x_1.snd.snd) = x'.snd.snd ∧ false = false ∧ (↑x.fst : Int) = 
  (↑x.fst : Int) ∧ false = false ∧ IntKind.i64.wrap ((1 : Int) + IntKind.i64.wrap ((IntKind.u64.wrap quota).tmod (1000 : Int))) = IntKind.i64.wrap ((1 : Int) + IntKind.i64.wrap ((IntKind.u64.wrap quota).tmod (1000 : 
  Int))) ∧ minI (↑boxes.length : Int) (12 : Int) = minI (↑boxes.length : Int) (12 : Int) ∧ True ∧ false = false ∧ boxes = boxes ∧ order = order ∧ True) ∧ ((2 : Int) = (2 : Int) ∧ SV.val (Value.slice none (0 : Nat) (0 : 
  Nat)) = SV.val (Value.slice none (0 : Nat) (0 : Nat)) ∧ True) ∧ (KT.cust = KT.cust ∧ y_2.snd = x'.snd.fst) ∧ ((2 : Int) = (2 : Int) ∧ SV.val (Value.slice none (0 : Nat) (0 : Nat)) = SV.val (Value.slice none (0 : Nat) 
  (0 : Nat)) ∧ True) ∧ ((2 : Int) = (2 : Int) ∧ SV.val (Value.slice none (0 : Nat) (0 : Nat)) = SV.val (Value.slice none (0 : Nat) (0 : Nat)) ∧ True) ∧ True ∧ True)) ∧ ((y_2.fst.snd != (0 : Int)) = !false → false = true 
  ∧ True)) ∧ True)))) ∧ True)) ∧ (decide ((↑x_1.snd.snd.length : Int) > (0 : Int)) = false → WfT x_1.snd.fst ∧ (True ∧ (600 : Int) = (600 : Int) ∧ True) ∧ ((KT.cust = KT.cust ∧ x_1.snd.fst = infoV.inn (x_1.snd.fst, (600 
  : Int))) ∧ True) ∧ (∀ (y : Info × Bool), Ran (infoR x_1.snd.fst (600 : Int)) y → (!y.snd) = true ∧ True) ∧ True)))) ∧ True) ∧ ((y_1.fst != (0 : Int)) = !false → false = true ∧ True)) ∧ True) ∧ True) := by kernel_rfl
end Go.Proofs.Ythoaelmomocohaa
namespace Go.Proofs.Ythoaelmomocohaa
open Go.Proofs.Ythoaelmomocohaa.Gx
set_option maxRecDepth 100000
set_option maxHeartbeats 4000000
set_option linter.unusedSimpArgs false
set_option linter.unusedVariables false
structure LkDone (q : Int) (b : Int) (M' : List Int) (r : (List Int × Int) × Tb) : Prop where
  ok : r.1.2 = 0
  gone : (M' ≠ [] ∧ (r.1.1 = [] ∨ (r.1.1 = [b] ∧ b ≠ 600))) ∨ (M' = [] ∧ (r.1.1 = [600] ∨ r.1.1 = [b, 600]))
  inv : LkInv q r.2 M'
structure Cut (made : List Int) (k : Nat) (b : Int) (M' : List Int) : Prop where
  len : M'.length + 1 = made.length
  sub : ∀ x ∈ M', x ∈ made ∧ x ≠ b
  nodup : M'.Nodup
  at_ : made[k]? = some b
theorem cut_of {made : List Int} {k : Nat} {b : Int} (hn : made.Nodup) (h : made[k]? = some b) : Cut made k b (made.take k ++ made.drop (k + 1)) := by
  have hk := (List.getElem?_eq_some_iff.1 h).1
  have e : made = made.take k ++ b :: made.drop (k + 1) := by
    have h1 : made.drop k = b :: made.drop (k + 1) := by
      rw [List.drop_eq_getElem_cons hk]; congr 1; exact (List.getElem?_eq_some_iff.1 h).2
    rw [← h1, List.take_append_drop]
  have hp : made.Perm (b :: (made.take k ++ made.drop (k + 1))) := by
    rw [show (made.Perm (b :: (made.take k ++ made.drop (k + 1)))) = ((made.take k ++ b :: made.drop (k + 1)).Perm (b :: (made.take k ++ made.drop (k + 1)))) from by rw [← e]]
    exact List.perm_middle
  have hn2 := hp.nodup_iff.1 hn
  rw [List.nodup_cons] at hn2
  refine ⟨by have := hp.length_eq; simp only [List.length_cons] at this; exact this.symm, fun x hx => ⟨hp.symm.subset (List.mem_cons_of_mem _ hx), fun e => hn2.1 (e ▸ hx)⟩, hn2.2, h⟩
theorem Cut.mem {made : List Int} {k : Nat} {b : Int} {M' : List Int} (h : Cut made k b M') : b ∈ made := List.mem_of_getElem? h.at_
variable {q : Int} {T : Tb} {made : List Int} {k : Nat} {b : Int} {M' : List Int}
structure LkAt (q : Int) (T : Tb) (made : List Int) (b : Int) (o s r : Ob) : Prop where
  ho : lookL T.1 b = some o
  ko : kindOf o = 1
  ro : o.2 = [600]
  hs : lookL T.1 600 = some s
  ks : kindOf s = 2
  qs : quotaOf s = q
  ls : linksOf s = (made.length : Int)
  rs : s.2 = []
  hr : lookL T.1 1 = some r
  kr : kindOf r = 1
  br : b ∈ r.2
  n6 : b ≠ 600
  n1 : b ≠ 1
  n16 : (1 : Int) ≠ 600
theorem LkInv.get (h : LkInv q T made) (hb : b ∈ made) : ∃ o s r, LkAt q T made b o s r := by
  have hne : made ≠ [] := fun e => by rw [e] at hb; cases hb
  obtain ⟨o, ho, ko, ro⟩ := h.box b hb
  obtain ⟨s, hs, ks, qs, ls⟩ := h.seg hne
  obtain ⟨r, hr, kr⟩ := h.wf.root
  rw [h.root] at hr
  have hbr := h.top b hb
  rw [ob_of hr] at hbr
  refine ⟨o, s, r, ho, ko, ro, hs, ks, qs, ls, h.wf.kin _ _ hs (by rw [ks]; decide), hr, kr, hbr, ?_, ?_, ?_⟩
  · rintro rfl
    rw [ho] at hs; cases hs; rw [ko] at ks; cases ks
  · rintro rfl
    exact (h.wf.a.ent _ _ hr _ hbr).2 h.root.symm
  · intro e
    rw [e] at hr
    rw [hr] at hs; cases hs; rw [kr] at ks; cases ks
theorem lk_next (h : LkInv q T made) (hc : Cut made k b M') {T' : Tb} {s : Ob} (wf : WfT T') (hroot : T'.2 = T.2) (hs : lookL T.1 600 = some s) (ls : linksOf s = (made.length : Int))
    (h6 : lookL T'.1 600 = if M' = [] then none else some (unLinks s.1, s.2)) (hoth : ∀ x ∈ M', lookL T'.1 x = lookL T.1 x) (htop : ∀ x ∈ M', x ∈ (obL T'.1 1).2) : LkInv q T' M' := by
  have hlen := hc.len
  have hfew := h.few
  have hne : made ≠ [] := fun e => by have := hc.mem; rw [e] at this; cases this
  obtain ⟨s2, hs2, ks, qs, -⟩ := h.seg hne
  rw [hs] at hs2; cases hs2
  refine ⟨wf, hroot.trans h.root, hc.nodup, by omega, fun x hx => ?_, htop, fun hm => ?_, fun hm => ?_⟩
  · rw [hoth x hx]; exact h.box x (hc.sub x hx).1
  · rw [if_neg hm] at h6
    refine ⟨_, h6, ks, qs, ?_⟩
    show IntKind.i64.wrap (linksOf s - 1) = _
    rw [ls, wrap64 (by omega) (by omega)]; omega
  · rw [h6, if_pos hm]
theorem nil_iff (hc : Cut made k b M') : M' = [] ↔ made.length = 1 := by
  have := hc.len
  constructor
  · intro e; rw [e] at this; simpa using this.symm
  · intro e; exact List.eq_nil_of_length_eq_zero (by omega)
theorem lk_drop1 (h : LkInv q T made) (hc : Cut made k b M') : LkDone q b M' (((dropR T b 600).1, (dropR T b 600).2.1), (dropR T b 600).2.2) := by
  obtain ⟨o, s, r, H⟩ := h.get hc.mem
  have hwf' := drop_wf h.wf b 600
  have hin : (600 : Int) ∈ o.2 := by rw [H.ro]; simp
  have hD0 := drop_init h.wf H.ho hin
  have hid : idOf s = 600 := h.wf.a.ids _ _ H.hs
  have hlook := look_un H.ho H.hs H.n6
  have h600 : lookL (unlinkA T.1 b 600) 600 = some (unLinks s.1, s.2) := by rw [hlook, if_pos rfl]
  have hlk : linksOf (unLinks s.1, s.2) = (M'.length : Int) := by
    show IntKind.i64.wrap (linksOf s - 1) = _
    have := hc.len; have := h.few
    rw [H.ls, wrap64 (by omega) (by omega)]; omega
  have hstep : dropStep ⟨T.1, [], [(b, 600)]⟩ = if M' = [] then ⟨unlinkA T.1 b 600, [600], []⟩ else ⟨unlinkA T.1 b 600, [], []⟩ := by
    unfold dropStep
    simp only [ob_of h600, hlk, H.rs]
    by_cases e : M' = []
    · rw [if_pos e, if_neg (by rw [e]; simp)]; rfl
    · rw [if_neg e, if_pos (by have := List.length_pos_iff.2 e; omega)]
  have hend : dropEnd ⟨T.1, [], [(b, 600)]⟩ = if M' = [] then ⟨unlinkA T.1 b 600, [600], []⟩ else ⟨unlinkA T.1 b 600, [], []⟩ := by
    rw [← end_step hD0 rfl, hstep]
    split <;> exact end_nil rfl
  have hdrop : dropR T b 600 = (if M' = [] then [600] else [], 0, (aliveT (unlinkA T.1 b 600) (if M' = [] then [600] else []), T.2)) := by
    unfold dropR
    rw [H.ho]
    simp only
    rw [if_neg (by rw [H.ko]; simp), if_neg (by rw [H.ro]; simp), hend]
    split <;> rfl
  rw [hdrop] at hwf' ⊢
  have hsub := hc.sub
  refine ⟨rfl, ?_, ?_⟩
  · by_cases e : M' = []
    · right; simp [e]
    · left; simp [e]
  · have hx6 : ∀ x ∈ M', x ≠ 600 := fun x hx e => by
      obtain ⟨_, _, _, H2⟩ := h.get (hsub x hx).1
      exact H2.n6 e
    have hx1 : ∀ x ∈ M', ¬ x ∈ (if M' = [] then [600] else [] : List Int) := fun x hx => by
      split
      · simpa using hx6 x hx
      · simp
    have h11 : ¬ (1 : Int) ∈ (if M' = [] then [600] else [] : List Int) := by split <;> simp
    refine lk_next h hc hwf' rfl H.hs H.ls ?_ (fun x hx => ?_) (fun x hx => ?_)
    · show lookL (aliveT _ _) 600 = _
      rw [look_aliveT]
      by_cases e : M' = []
      · simp [e]
      · simp [e, h600]
    · show lookL (aliveT _ _) x = _
      rw [look_aliveT, if_neg (hx1 x hx), hlook, if_neg (hx6 x hx), if_neg (hsub x hx).2]
    · have : lookL (aliveT (unlinkA T.1 b 600) (if M' = [] then [600] else [])) 1 = some r := by
        rw [look_aliveT, if_neg h11, hlook, if_neg H.n16, if_neg (fun e => H.n1 e.symm)]; exact H.hr
      show x ∈ (obL (aliveT _ _) 1).2
      rw [ob_of this]
      have := h.top x (hsub x hx).1
      rw [ob_of H.hr] at this
      exact this
theorem lk_drop2 (h : LkInv q T made) (hc : Cut made k b M') : LkDone q b M' (((dropR T 1 b).1, (dropR T 1 b).2.1), (dropR T 1 b).2.2) := by
  obtain ⟨o, s, r, H⟩ := h.get hc.mem
  have hwf' := drop_wf h.wf 1 b
  have hD0 := drop_init h.wf H.hr H.br
  have hid : idOf s = 600 := h.wf.a.ids _ _ H.hs
  have hib : idOf o = b := h.wf.a.ids _ _ H.ho
  have hlook := look_un H.hr H.ho (fun e => H.n1 e.symm)
  have hb1 : lookL (unlinkA T.1 1 b) b = some (unLinks o.1, o.2) := by rw [hlook, if_pos rfl]
  have hs1 : lookL (unlinkA T.1 1 b) 600 = some s := by rw [hlook, if_neg (fun e => H.n6 e.symm), if_neg (fun e => H.n16 e.symm)]; exact H.hs
  have hl1 : linksOf (unLinks o.1, o.2) = 0 := by
    show IntKind.i64.wrap (linksOf o - 1) = _
    rw [h.wf.one _ _ H.ho H.ko]; rfl
  have hstep1 : dropStep ⟨T.1, [], [(1, b)]⟩ = ⟨unlinkA T.1 1 b, [b], [(b, 600)]⟩ := by
    unfold dropStep
    simp only [ob_of hb1, hl1, H.ro]
    rw [if_neg (by simp)]; rfl
  obtain ⟨a1, a2, HH⟩ := hD0.head (s := []) rfl
  have hD1 := (hD0.step (s := []) rfl HH).1
  rw [hstep1] at hD1
  have hlook2 := look_un hb1 hs1 H.n6
  have h600 : lookL (unlinkA (unlinkA T.1 1 b) b 600) 600 = some (unLinks s.1, s.2) := by rw [hlook2, if_pos rfl]
  have hlk : linksOf (unLinks s.1, s.2) = (M'.length : Int) := by
    show IntKind.i64.wrap (linksOf s - 1) = _
    have := hc.len; have := h.few
    rw [H.ls, wrap64 (by omega) (by omega)]; omega
  have hstep2 : dropStep ⟨unlinkA T.1 1 b, [b], [(b, 600)]⟩ = if M' = [] then ⟨unlinkA (unlinkA T.1 1 b) b 600, [b, 600], []⟩ else ⟨unlinkA (unlinkA T.1 1 b) b 600, [b], []⟩ := by
    unfold dropStep
    simp only [ob_of h600, hlk, H.rs]
    by_cases e : M' = []
    · rw [if_pos e, if_neg (by rw [e]; simp)]; rfl
    · rw [if_neg e, if_pos (by have := List.length_pos_iff.2 e; omega)]
  have hend : dropEnd ⟨T.1, [], [(1, b)]⟩ = if M' = [] then ⟨unlinkA (unlinkA T.1 1 b) b 600, [b, 600], []⟩ else ⟨unlinkA (unlinkA T.1 1 b) b 600, [b], []⟩ := by
    rw [← end_step hD0 rfl, hstep1, ← end_step hD1 rfl, hstep2]
    split <;> exact end_nil rfl
  have hdrop : dropR T 1 b = (if M' = [] then [b, 600] else [b], 0, (aliveT (unlinkA (unlinkA T.1 1 b) b 600) (if M' = [] then [b, 600] else [b]), T.2)) := by
    unfold dropR
    rw [H.hr]
    simp only
    rw [if_neg (by rw [H.kr]; simp), if_neg (by simpa using H.br), hend]
    split <;> rfl
  rw [hdrop] at hwf' ⊢
  have hsub := hc.sub
  refine ⟨rfl, ?_, ?_⟩
  · by_cases e : M' = []
    · right; simp [e]
    · left; simp [e, H.n6]
  · have hx6 : ∀ x ∈ M', x ≠ 600 := fun x hx e => by
      obtain ⟨_, _, _, H2⟩ := h.get (hsub x hx).1
      exact H2.n6 e
    have hxx1 : ∀ x ∈ M', x ≠ 1 := fun x hx e => by
      obtain ⟨_, _, _, H2⟩ := h.get (hsub x hx).1
      exact H2.n1 e
    have hx1 : ∀ x ∈ M', ¬ x ∈ (if M' = [] then [b, 600] else [b] : List Int) := fun x hx => by
      split
      · simpa using ⟨(hsub x hx).2, hx6 x hx⟩
      · simpa using (hsub x hx).2
    have h11 : ¬ (1 : Int) ∈ (if M' = [] then [b, 600] else [b] : List Int) := by
      have : ¬ (1 : Int) = b := fun e => H.n1 e.symm
      split <;> simp [this]
    refine lk_next h hc hwf' rfl H.hs H.ls ?_ (fun x hx => ?_) (fun x hx => ?_)
    · show lookL (aliveT _ _) 600 = _
      rw [look_aliveT]
      by_cases e : M' = []
      · simp [e]
      · have n6 : ¬ (600 : Int) = b := fun e => H.n6 e.symm
        simp [e, h600, n6]
    · show lookL (aliveT _ _) x = _
      rw [look_aliveT, if_neg (hx1 x hx), hlook2, if_neg (hx6 x hx), if_neg (hsub x hx).2, hlook, if_neg (hsub x hx).2, if_neg (hxx1 x hx)]
    · have : lookL (aliveT (unlinkA (unlinkA T.1 1 b) b 600) (if M' = [] then [b, 600] else [b])) 1 = some (unUsed r.1 (quotaOf o), r.2.filter (· != idOf o)) := by
        rw [look_aliveT, if_neg h11, hlook2, if_neg H.n16, if_neg (fun e => H.n1 e.symm), hlook, if_neg (fun e => H.n1 e.symm), if_pos rfl]
      show x ∈ (obL (aliveT _ _) 1).2
      rw [ob_of this]
      have := h.top x (hsub x hx).1
      rw [ob_of H.hr] at this
      simp only [List.mem_filter, hib]
      exact ⟨this, by simpa using (hsub x hx).2⟩
/-! ### More boxes -/
theorem lk_makeT {T : Tb} {inn id kind quota : Int} {l : Lab} {c : Ob} (hc : lookL T.1 inn = some c) (h1 : kindOf c = 1) (h2 : 1 ≤ kind ∧ kind ≤ 6) (h3 : 1 ≤ quota ∧ quota ≤ 1099511627776 ∧ mayL kind l = true) (h4 : 1 ≤ id ∧ id ≤ 2305843009213693951 ∧ lookL T.1 id = none) (h5 : T.1.length < 4096) (h6 : quota ≤ roomOf c) :
    makeT T inn id kind quota l = (0, linkT (insL T.1 id ((id, kind, quota, 0, 0, l), []), T.2) inn id c ((id, kind, quota, 0, 0, l), [])) := by
  unfold makeT
  rw [hc]
  simp only
  rw [if_neg (by simp [h1]), if_neg (by omega), if_neg (by rw [h3.2.2]; simp; omega), if_neg (by rw [h4.2.2]; simp; omega), if_neg (by omega), if_neg (by omega)]
structure LkMore (q n : Int) (i : Nat) (id : Int) (T : Tb) (made : List Int) : Prop where
  e1 : (makeT T 1 id 1 2000 (2, [])).1 = 0
  w1 : WfT (makeT T 1 id 1 2000 (2, [])).2
  e2 : (linkR (makeT T 1 id 1 2000 (2, [])).2 id 600).1 = 0
  w2 : WfT (linkR (makeT T 1 id 1 2000 (2, [])).2 id 600).2
  e3 : linkR (linkR (makeT T 1 id 1 2000 (2, [])).2 id 600).2 id 600 = (1, (linkR (makeT T 1 id 1 2000 (2, [])).2 id 600).2)
  inv : LkA q n (i + 1) (linkR (makeT T 1 id 1 2000 (2, [])).2 id 600).2 (made ++ [id])
theorem lk_more {q n : Int} {i : Nat} {T : Tb} {made : List Int} (h : LkA q n i T made) (hi : (i : Int) < n) (hn : n ≤ 12) (hq1 : 1 ≤ q) (hq2 : q ≤ 1000) : LkMore q n i (10 + (i : Int)) T made := by
  have hI := h.inv
  have hlen := h.len
  have hm : made ≠ [] := fun e => by rw [e] at hlen; simp at hlen
  obtain ⟨b0, hb0⟩ := List.exists_mem_of_ne_nil _ hm
  obtain ⟨o0, s, r, H⟩ := hI.get hb0
  obtain ⟨r', hr', hroom⟩ := h.room
  rw [H.hr] at hr'; cases hr'
  generalize hid : 10 + (i : Int) = id
  have hfree : lookL T.1 id = none := h.free id (by omega) (by omega)
  have hus := used_bound hI.wf.a H.hr
  have hq0 := hI.wf.a.quo _ _ H.hr
  have hrm := hI.wf.room H.hr
  have hw1 := makeR_wf hI.wf 1 id 1 2000 (2, [])
  have hsz := h.size
  have hmk := lk_makeT (T := T) (inn := 1) (id := id) (kind := 1) (quota := 2000) (l := (2, [])) H.hr H.kr (by omega) ⟨by omega, by omega, rfl⟩ ⟨by omega, by omega, hfree⟩ (by omega) (by omega)
  have hb6 : id ≠ 600 := by omega
  have hb1 : id ≠ 1 := by omega
  -- what is there behind it
  have L1 : ∀ j, lookL (makeT T 1 id 1 2000 (2, [])).2.1 j = if j = id then some ((id, 1, 2000, 0, 1, 2, []), []) else if j = 1 then some (addO r id 2000) else lookL T.1 j := by
    intro j
    rw [hmk]
    show lookL (insL (insL (insL T.1 id _) 1 _) id _) j = _
    rw [lookL_insL, lookL_insL, lookL_insL]
    by_cases e : j = id
    · rw [if_pos e, if_pos e]; rfl
    · simp [e]
  generalize hT1 : (makeT T 1 id 1 2000 (2, [])).2 = T1 at *
  have e1 : (makeT T 1 id 1 2000 (2, [])).1 = 0 := by rw [hmk]
  have hT1r : T1.2 = T.2 := by rw [← hT1, hmk]; rfl
  have hT1l : T1.1.length = T.1.length + 1 := by
    rw [← hT1, hmk]
    show (insL (insL (insL T.1 id _) 1 _) id _).length = _
    have a1 : lookL (insL T.1 id (((id, 1, 2000, 0, 0, 2, []), []) : Ob)) 1 = some r := by rw [lookL_insL, if_neg (fun e => hb1 e.symm)]; exact H.hr
    have a2 : lookL (insL (insL T.1 id (((id, 1, 2000, 0, 0, 2, []), []) : Ob)) 1 (addO r id 2000)) id = some ((id, 1, 2000, 0, 0, 2, []), []) := by rw [lookL_insL, if_neg hb1, lookL_insL, if_pos rfl]
    rw [len_ins a2, len_ins a1, insL_new hfree]; simp
  have hi1 : lookL T1.1 id = some ((id, 1, 2000, 0, 1, 2, []), []) := by rw [L1, if_pos rfl]
  have hs1 : lookL T1.1 600 = some s := by rw [L1, if_neg (fun e => hb6 e.symm), if_neg (fun e => H.n16 e.symm)]; exact H.hs
  have hlk : linkR T1 id 600 = (0, linkT T1 id 600 ((id, 1, 2000, 0, 1, 2, []), []) s) := by
    unfold linkR
    rw [hs1, hi1]
    simp only
    have hr0 : roomOf ((id, 1, 2000, 0, 1, 2, []), []) = 2000 := by unfold roomOf; show IntKind.i64.wrap (2000 - 0) = 2000; rfl
    rw [if_neg (by simp), if_neg (by rw [H.ks]; simp), if_neg (by simp), if_neg (by rw [hr0, H.qs]; omega)]
  have hw2 := linkR_wf hw1 id 600
  have his : idOf s = 600 := hI.wf.a.ids _ _ H.hs
  have L2 : ∀ j, lookL (linkR T1 id 600).2.1 j = if j = 600 then some (incO s) else if j = id then some ((id, 1, 2000, q, 1, 2, []), [600]) else lookL T1.1 j := by
    intro j
    rw [hlk]
    show lookL (insL (insL T1.1 id _) 600 _) j = _
    rw [lookL_insL, lookL_insL]
    have : addO ((id, 1, 2000, 0, 1, 2, []), []) (idOf s) (quotaOf s) = ((id, 1, 2000, q, 1, 2, []), [600]) := by
      rw [his, H.qs]
      show ((id, 1, 2000, IntKind.i64.wrap (0 + q), 1, 2, []), [] ++ [600]) = _
      rw [wrap64 (by omega) (by omega)]; simp
    rw [this]
  have e2 : (linkR T1 id 600).1 = 0 := by rw [hlk]
  generalize hT2 : (linkR T1 id 600).2 = T2 at *
  have hT2r : T2.2 = T1.2 := by rw [← hT2, hlk]; rfl
  have hT2l : T2.1.length = T1.1.length := by
    rw [← hT2, hlk]
    show (insL (insL T1.1 id _) 600 _).length = _
    have a2 : lookL (insL T1.1 id (addO (((id, 1, 2000, 0, 1, 2, []), []) : Ob) (idOf s) (quotaOf s))) 600 = some s := by rw [lookL_insL, if_neg (fun e => hb6 e.symm)]; exact hs1
    rw [len_ins a2, len_ins hi1]
  have hi2 : lookL T2.1 id = some ((id, 1, 2000, q, 1, 2, []), [600]) := by rw [L2, if_neg hb6, if_pos rfl]
  have hs2 : lookL T2.1 600 = some (incO s) := by rw [L2, if_pos rfl]
  have hr2 : lookL T2.1 1 = some (addO r id 2000) := by rw [L2, if_neg H.n16, if_neg (fun e => hb1 e.symm), L1, if_neg (fun e => hb1 e.symm), if_pos rfl]
  have e3 : linkR T2 id 600 = (1, T2) := by
    unfold linkR
    rw [hs2, hi2]
    simp only
    rw [if_neg (by simp), if_neg (by show ¬ (kindOf s ≠ 2 ∧ kindOf s ≠ 5); rw [H.ks]; simp), if_pos (by simp)]
  have hnew : id ∉ made := fun hm => by rcases h.ids id hm with e | e <;> omega
  have hold : ∀ x ∈ made, x ≠ id ∧ x ≠ 600 ∧ x ≠ 1 := fun x hx => by
    obtain ⟨_, _, _, H2⟩ := hI.get hx
    exact ⟨fun e => hnew (e ▸ hx), H2.n6, H2.n1⟩
  have hls := H.ls
  refine ⟨e1, by rw [hT1]; exact hw1, by rw [hT1]; exact e2, by rw [hT1, hT2]; exact hw2, by rw [hT1, hT2]; exact e3, ?_⟩
  rw [hT1, hT2]
  refine ⟨⟨hw2, hT2r.trans (hT1r.trans hI.root), ?_, by rw [List.length_append]; simp; omega, fun x hx => ?_, fun x hx => ?_, fun _ => ⟨_, hs2, H.ks, H.qs, ?_⟩, fun e => (by simp at e)⟩, by simp [hlen], by omega, fun x hx => ?_, ⟨_, hr2, ?_⟩, by omega, fun x h1 h2 => ?_⟩
  · rw [List.nodup_append]
    exact ⟨hI.nodup, by simp, fun a ha c hc e => by
      obtain rfl := List.mem_singleton.1 hc
      exact hnew (e ▸ ha)⟩
  · rcases List.mem_append.1 hx with hx | hx
    · obtain ⟨n1, n2, n3⟩ := hold x hx
      rw [L2, if_neg n2, if_neg n1, L1, if_neg n1, if_neg n3]
      exact hI.box x hx
    · obtain rfl := List.mem_singleton.1 hx
      exact ⟨_, hi2, rfl, rfl⟩
  · rw [ob_of hr2]
    show x ∈ r.2 ++ [id]
    rcases List.mem_append.1 hx with hx | hx
    · have := hI.top x hx
      rw [ob_of H.hr] at this
      exact List.mem_append_left _ this
    · exact List.mem_append_right _ hx
  · show IntKind.i64.wrap (linksOf s + 1) = _
    rw [hls, wrap64 (by omega) (by omega), List.length_append]; simp
  · rcases List.mem_append.1 hx with hx | hx
    · rcases h.ids x hx with e | e
      · exact .inl e
      · exact .inr (by omega)
    · obtain rfl := List.mem_singleton.1 hx
      exact .inr (by omega)
  · show quotaOf r - IntKind.i64.wrap (usedOf r + 2000) ≥ _
    rw [wrap64 (by omega) (by omega)]; omega
  · rw [L2, if_neg (by omega), if_neg (by omega), L1, if_neg (by omega), if_neg (by omega)]
    exact h.free x (by omega) h2
end Go.Proofs.Ythoaelmomocohaa
namespace Go.Proofs.Ythoaelmomocohaa
open Go.Proofs.Ythoaelmomocohaa.Gx
set_option maxRecDepth 100000
set_option maxHeartbeats 4000000
set_option linter.unusedSimpArgs false
set_option linter.unusedVariables false
theorem lk_box (boxes : List Int) (i : Nat) {P1 P2 : Prop} (h1 : P1) (h2 : P2) : ∃ (v : Bool), (boxes.length ≤ maxLen → (decide ((↑i : Int) < (↑boxes.length : Int)) = true → ((0 : Int) ≤ (↑i : Int) ∧ (↑i : Int) < (↑boxes.length : Int)) ∧ ∀ (y : Int), boxes[(↑i : Int).toNat]? = some y → (2 : Int) ≠ (0 : Int) ∧ (y.tmod (2 : Int) == (0 : Int)) = v) ∧ (decide ((↑i : Int) < (↑boxes.length : Int)) = !true → false = v)) ∧ (v = true → P1) ∧ (v = false → P2) := by
  by_cases e : i < boxes.length
  · refine ⟨boxes[i].tmod 2 == 0, fun _ => ⟨fun _ => ⟨⟨by omega, by omega⟩, fun y hy => ⟨by decide, ?_⟩⟩, fun h => ?_⟩, fun _ => h1, fun _ => h2⟩
    · have : boxes[i]? = some y := hy
      rw [List.getElem?_eq_getElem e] at this
      cases this; rfl
    · have : ¬ ((i : Int) < (boxes.length : Int)) := by simpa using h
      omega
  · exact ⟨false, fun _ => ⟨fun h => (by have : (i : Int) < (boxes.length : Int) := by simpa using h
                                         omega), fun _ => rfl⟩, fun _ => h1, fun _ => h2⟩
theorem lk_last {q b : Int} {M' : List Int} {y : (List Int × Int) × Tb} (h : LkDone q b M' y) : (y.fst.fst.length ≤ maxLen → (decide ((↑y.fst.fst.length : Int) > 0) = true → y.fst.fst.length ≤ maxLen → ((0 : Int) ≤ IntKind.i64.wrap ((↑y.fst.fst.length : Int) - (1 : Int)) ∧ IntKind.i64.wrap ((↑y.fst.fst.length : Int) - (1 : Int)) < (↑y.fst.fst.length : Int)) ∧ ∀ (y_4 : Int), y.fst.fst[(IntKind.i64.wrap ((↑y.fst.fst.length : Int) - (1 : Int))).toNat]? = some y_4 → (y_4 == (600 : Int)) = decide (M' = [])) ∧ (decide ((↑y.fst.fst.length : Int) > 0) = !true → false = decide (M' = []))) := by
  obtain ⟨⟨g, e⟩, T'⟩ := y
  have hg := h.gone
  simp only at hg ⊢
  rcases hg with ⟨hm, rfl | ⟨rfl, h6⟩⟩ | ⟨hm, rfl | rfl⟩
  · simp [hm]
  · refine fun _ => ⟨fun _ _ => ⟨⟨by simp only [List.length_singleton]; decide, by simp only [List.length_singleton]; decide⟩, fun y hy => ?_⟩, fun h => (by simp at h)⟩
    have : [b][0]? = some y := hy
    obtain rfl : b = y := by simpa using this
    simp [hm, h6]
  · refine fun _ => ⟨fun _ _ => ⟨by decide, fun y hy => ?_⟩, fun h => (by simp at h)⟩
    have : [(600 : Int)][0]? = some y := hy
    obtain rfl : 600 = y := by simpa using this
    simp [hm]
  · refine fun _ => ⟨fun _ _ => ⟨⟨by simp only [List.length_cons, List.length_nil]; decide, by simp only [List.length_cons, List.length_nil]; decide⟩, fun y hy => ?_⟩, fun h => (by simp at h)⟩
    have : [b, (600 : Int)][1]? = some y := hy
    obtain rfl : 600 = y := by simpa using this
    simp [hm]
theorem lk_fin {q b : Int} {M' made : List Int} {k i : Nat} {y : (List Int × Int) × Tb} (h : LkDone q b M' y) (hc : Cut made k b M') (hx : i + made.length ≤ 13) : ((y.fst.snd != (0 : Int)) = false → M'.length ≤ maxLen → ∃ (v : Bool), (y.fst.fst.length ≤ maxLen → (decide ((↑y.fst.fst.length : Int) > 0) = true → y.fst.fst.length ≤ maxLen → ((0 : Int) ≤ IntKind.i64.wrap ((↑y.fst.fst.length : Int) - (1 : Int)) ∧ IntKind.i64.wrap ((↑y.fst.fst.length : Int) - (1 : Int)) < (↑y.fst.fst.length : Int)) ∧ ∀ (y_4 : Int), y.fst.fst[(IntKind.i64.wrap ((↑y.fst.fst.length : Int) - (1 : Int))).toNat]? = some y_4 → (y_4 == (600 : Int)) = v) ∧ (decide ((↑y.fst.fst.length : Int) > 0) = !true → false = v)) ∧ ((!((↑M'.length : Int) == (0 : Int)) == v) = true → false = true) ∧ ((!((↑M'.length : Int) == (0 : Int)) == v) = false → ∃ (x' : Nat × Tb × List Int), (LkInv q x'.snd.fst x'.snd.snd ∧ x'.fst + x'.snd.snd.length ≤ (13 : Nat)) ∧ x'.snd.snd.length < made.length ∧ (IntKind.i64.wrap ((↑i : Int) + (1 : Int)) = (↑x'.fst : Int) ∧ M' = x'.snd.snd) ∧ y.snd = x'.snd.fst)) ∧ ((y.fst.snd != (0 : Int)) = !false → false = true) := by
  have hl := hc.len
  refine ⟨fun _ _ => ⟨decide (M' = []), lk_last h, fun hv => ?_, fun _ => ⟨(i + 1, y.snd, M'), ⟨h.inv, by simp only; omega⟩, by simp only; omega, ⟨?_, rfl⟩, rfl⟩⟩, fun he => ?_⟩
  · exfalso
    by_cases e : M' = []
    · simp [e] at hv
    · have : ¬ ((M'.length : Int) = 0) := by have := List.length_pos_iff.2 e; omega
      simp [e, this] at hv
  · rw [wrap64 (by omega) (by omega)]; simp
  · rw [h.ok] at he; simp at he
theorem lk_fin0 {q b : Int} {made : List Int} {k i : Nat} {y : (List Int × Int) × Tb} (h : LkDone q b [] y) (hc : Cut made k b []) (hx : i + made.length ≤ 13) : ((y.fst.snd != (0 : Int)) = false → ∃ (v : Bool), (y.fst.fst.length ≤ maxLen → (decide ((↑y.fst.fst.length : Int) > 0) = true → y.fst.fst.length ≤ maxLen → ((0 : Int) ≤ IntKind.i64.wrap ((↑y.fst.fst.length : Int) - (1 : Int)) ∧ IntKind.i64.wrap ((↑y.fst.fst.length : Int) - (1 : Int)) < (↑y.fst.fst.length : Int)) ∧ ∀ (y_4 : Int), y.fst.fst[(IntKind.i64.wrap ((↑y.fst.fst.length : Int) - (1 : Int))).toNat]? = some y_4 → (y_4 == (600 : Int)) = v) ∧ (decide ((↑y.fst.fst.length : Int) > 0) = !true → false = v)) ∧ ((!((0 : Int) == (0 : Int)) == v) = true → false = true) ∧ ((!((0 : Int) == (0 : Int)) == v) = false → ∃ (x' : Nat × Tb × List Int), (LkInv q x'.snd.fst x'.snd.snd ∧ x'.fst + x'.snd.snd.length ≤ (13 : Nat)) ∧ x'.snd.snd.length < made.length ∧ (IntKind.i64.wrap ((↑i : Int) + (1 : Int)) = (↑x'.fst : Int) ∧ x'.snd.snd = []) ∧ y.snd = x'.snd.fst)) ∧ ((y.fst.snd != (0 : Int)) = !false → false = true) := by
  have hl := hc.len
  refine ⟨fun _ => ⟨true, by simpa using lk_last h, fun hv => (by simp at hv), fun _ => ⟨(i + 1, y.snd, []), ⟨h.inv, by simp at hl ⊢; omega⟩, by simp at hl ⊢; omega, ⟨?_, rfl⟩, rfl⟩⟩, fun he => ?_⟩
  · rw [wrap64 (by omega) (by omega)]; simp
  · rw [h.ok] at he; simp at he
/-- What is told of 600 as long as boxes link to it. -/
theorem lk_info {q : Int} {T : Tb} {made : List Int} (h : LkInv q T made) (hm : made ≠ []) {y : Info × Bool} (hy : Ran (infoR T 600) y) {P : Prop} (hP : P) : ∃ (v : Bool), (((!y.snd) = false → made.length ≤ maxLen → ((y.fst.snd.snd.snd.snd.fst != (↑made.length : Int)) = false → (y.fst.snd.snd.fst != q) = v) ∧ ((y.fst.snd.snd.snd.snd.fst != (↑made.length : Int)) = !false → true = v)) ∧ ((!y.snd) = !false → true = v)) ∧ (v = true → false = true) ∧ (v = false → P) := by
  obtain ⟨s, hs, ks, qs, ls⟩ := h.seg hm
  have e : y = (s.1, true) := by rw [hy.eq]; unfold infoR; rw [hs]
  subst e
  refine ⟨false, ⟨fun _ _ => ⟨fun _ => ?_, fun h2 => ?_⟩, fun h2 => (by simp at h2)⟩, fun h => (by cases h), fun _ => hP⟩
  · show (quotaOf s != q) = false
    rw [qs]; simp
  · have h2 : (linksOf s != (made.length : Int)) = true := h2
    rw [ls] at h2; simp at h2
theorem links_ok : PSpecOk PP 3 (Q [ints, ints, i64] [.bool] (fun _ => true) (fun _ => (true, ()))) := by
  refine pspec_Q mixed (fn := Try.f3) (c := c3) rfl rfl _ _ rfl ?_
  rintro ⟨boxes, order, quota, ⟨⟩⟩ - -
  have hq : 1 ≤ IntKind.i64.wrap ((1 : Int) + IntKind.i64.wrap ((IntKind.u64.wrap quota).tmod (1000 : Int))) ∧ IntKind.i64.wrap ((1 : Int) + IntKind.i64.wrap ((IntKind.u64.wrap quota).tmod (1000 : Int))) ≤ 1000 := by
    have h0 : IntKind.u64.wrap quota = quota % 18446744073709551616 := by simp [IntKind.wrap, IntKind.bits, IntKind.signed]
    have h1 : 0 ≤ IntKind.u64.wrap quota := by rw [h0]; omega
    have e : (IntKind.u64.wrap quota).tmod 1000 = (IntKind.u64.wrap quota) % 1000 := Int.tmod_eq_emod_of_nonneg h1
    rw [e]
    have h3 : 0 ≤ (IntKind.u64.wrap quota) % 1000 := by omega
    have h4 : (IntKind.u64.wrap quota) % 1000 < 1000 := by omega
    rw [wrap64 (n := (IntKind.u64.wrap quota) % 1000) (by omega) (by omega), wrap64 (by omega) (by omega)]
    omega
  refine ⟨envC PP [p10] [s12, s17, m11, m13, m14, m15, m16] [] [] (lkLoop (IntKind.i64.wrap ((1 : Int) + IntKind.i64.wrap ((IntKind.u64.wrap quota).tmod (1000 : Int))))) [22], envC_ok .., rfl, hold (links_vc boxes order quota _) ?_⟩
  simp only [true_and, and_true, eq_self_iff_true, imp_self, implies_true]
  generalize IntKind.i64.wrap ((1 : Int) + IntKind.i64.wrap ((IntKind.u64.wrap quota).tmod (1000 : Int))) = q at *
  obtain ⟨hq1, hq2⟩ := hq
  refine ⟨fun _ h => (by have := h.bad; rw [g0] at this; cases this), fun T hT hbx => ?_⟩
  have w0 := hT.wf
  obtain rfl := hT.eq
  refine ⟨by decide, w0, rfl, fun y1 h1 => ?_⟩
  have w1 := makeR_wf w0 1 500 1 5000 (2, [])
  have m1 : makeT (tb0 1 (2, [])) 1 500 1 5000 (2, []) = (0, ([(1, ((1, 1, 1099511627776, 5000, 1, 2, []), [500])), (500, ((500, 1, 5000, 0, 1, 2, []), []))], 1)) := rfl
  rw [m1] at w1 h1
  obtain rfl := h1.eq
  have hr5 : roomOf ((500, 1, 5000, 0, 1, 2, []), []) = 5000 := rfl
  have m2 : makeT ([(1, ((1, 1, 1099511627776, 5000, 1, 2, []), [500])), (500, ((500, 1, 5000, 0, 1, 2, []), []))], 1) 500 600 2 q (2, []) = (0, ([(1, ((1, 1, 1099511627776, 5000, 1, 2, []), [500])), (500, ((500, 1, 5000, q, 1, 2, []), [600])), (600, ((600, 2, q, 0, 1, 2, []), []))], 1)) := by
    rw [lk_makeT (c := ((500, 1, 5000, 0, 1, 2, []), [])) (by simp [lookL]) rfl (by omega) ⟨by omega, by omega, rfl⟩ ⟨by omega, by omega, by simp [lookL]⟩ (by simp) (by rw [hr5]; omega)]
    have hw : IntKind.i64.wrap (0 + q) = q := by rw [wrap64 (by omega) (by omega)]; omega
    have hw1 : IntKind.i64.wrap (0 + 1) = 1 := by rfl
    simp [linkT, insL, addO, incO, hw, hw1]
  have w2 := makeR_wf w1 500 600 2 q (2, [])
  simp only at w2 ⊢
  rw [m2] at w2 ⊢
  refine ⟨fun _ => ⟨w1, rfl, fun y2 h2 => ?_⟩, fun h => (by simp at h)⟩
  obtain rfl := h2.eq
  simp only at w2 ⊢
  refine ⟨fun h => (by simp at h), fun _ => ⟨(0, ([(1, ((1, 1, 1099511627776, 5000, 1, 2, []), [500])), (500, ((500, 1, 5000, q, 1, 2, []), [600])), (600, ((600, 2, q, 0, 1, 2, []), []))], 1), [500]), ?_, ⟨rfl, rfl, rfl⟩, ?_⟩⟩
  · have hn0 : 0 ≤ minI (boxes.length : Int) 12 := by unfold minI; split <;> omega
    refine ⟨⟨w2, rfl, by simp, by simp, fun b hb => ?_, fun b hb => ?_, fun _ => ⟨((600, 2, q, 0, 1, 2, []), []), by simp [lookL], rfl, rfl, rfl⟩, fun h => (by simp at h)⟩, rfl, hn0, fun b hb => .inl (by simpa using hb), ⟨((1, 1, 1099511627776, 5000, 1, 2, []), [500]), by simp [lookL], (by show (1099511627776 : Int) - 5000 ≥ 100000 - 2000 * ((0 : Nat) : Int); decide)⟩, by simp, fun b h1 h2 => ?_⟩
    · obtain rfl := List.mem_singleton.1 hb
      exact ⟨((500, 1, 5000, q, 1, 2, []), [600]), by simp [lookL], rfl, rfl⟩
    · obtain rfl := List.mem_singleton.1 hb
      simp [obL, lookL]
    · simp only [lookL]
      rw [if_neg (by omega), if_neg (by omega), if_neg (by omega)]
  have hn : minI (boxes.length : Int) 12 ≤ 12 := by unfold minI; split <;> omega
  generalize minI (boxes.length : Int) 12 = n at *
  rintro ⟨i, T, made⟩ hx
  simp only at hx ⊢
  refine ⟨fun hlt => ?_, fun _ => ?_⟩
  · -- one more box
    have hlt : (i : Int) < n := by simpa using hlt
    have M := lk_more hx hlt hn hq1 hq2
    have hw10 : IntKind.i64.wrap ((10 : Int) + (↑i : Int)) = 10 + (i : Int) := wrap64 (by omega) (by omega)
    rw [hw10]
    refine ⟨hx.inv.wf, rfl, fun y hy => ?_⟩
    obtain rfl := hy.eq
    refine ⟨fun _ => ⟨M.w1, rfl, fun y hy => ?_⟩, fun h => ?_⟩
    · obtain rfl := hy.eq
      refine ⟨fun _ => ⟨M.w2, rfl, fun y hy => ?_⟩, fun h => ?_⟩
      · have e := hy.eq
        rw [M.e3] at e
        subst e
        refine ⟨fun h => (by simp at h), fun _ => ⟨?_, (i + 1, _, _), M.inv, ?_, ?_, rfl, rfl⟩⟩
        · have := hx.inv.few
          simp only [List.length_singleton]; omega
        · simp only; omega
        · rw [wrap64 (by omega) (by omega)]; simp
      · rw [M.e2] at h; simp at h
    · rw [M.e1] at h; simp at h
  · have hxl := hx.len
    have hxf := hx.inv.few
    refine ⟨(0, T, made), ⟨hx.inv, by simp only; omega⟩, ⟨⟨rfl, rfl⟩, rfl⟩, ?_⟩
    clear hx hxl hxf
    rintro ⟨i, T, made⟩ ⟨hI, h13⟩ -
    simp only at hI h13 ⊢
    have h13 : i + made.length ≤ 13 := h13
    refine ⟨fun hpos ho => ?_, fun hz => ⟨hI.wf, rfl, fun y hy => ?_⟩⟩
    · have hpos : 0 < made.length := by simpa using hpos
      have hne : made ≠ [] := fun e => by rw [e] at hpos; simp at hpos
      refine ⟨fun hlt => ?_, fun _ => ⟨hI.wf, rfl, fun y hy => lk_info hI hne hy ?_⟩⟩
      · have hlt : i < order.length := by simpa using hlt
        refine ⟨⟨by omega, by omega⟩, fun c hc hml => ?_⟩
        have hu : IntKind.u64.wrap (↑made.length : Int) = (made.length : Int) := by
          have : IntKind.u64.wrap (↑made.length : Int) = (↑made.length : Int) % 18446744073709551616 := by simp [IntKind.wrap, IntKind.bits, IntKind.signed]
          rw [this]; omega
        rw [hu]
        refine ⟨by omega, hI.wf, rfl, fun y hy => lk_info hI hne hy ?_⟩
        obtain ⟨k, hk, hkl⟩ : ∃ k : Nat, IntKind.i64.wrap ((IntKind.u64.wrap c).tmod (↑made.length : Int)) = (k : Int) ∧ k < made.length := by
          have h0 : IntKind.u64.wrap c = c % 18446744073709551616 := by simp [IntKind.wrap, IntKind.bits, IntKind.signed]
          have h1 : 0 ≤ IntKind.u64.wrap c := by rw [h0]; omega
          have e : (IntKind.u64.wrap c).tmod (made.length : Int) = (IntKind.u64.wrap c) % (made.length : Int) := Int.tmod_eq_emod_of_nonneg h1
          have h3 := Int.emod_nonneg (IntKind.u64.wrap c) (show (made.length : Int) ≠ 0 by omega)
          have h4 := Int.emod_lt_of_pos (IntKind.u64.wrap c) (show 0 < (made.length : Int) by omega)
          rw [e, wrap64 (by omega) (by omega)]
          exact ⟨((IntKind.u64.wrap c) % (made.length : Int)).toNat, by omega, by omega⟩
        rw [hk]
        refine ⟨⟨by omega, by omega⟩, fun b hb => ?_⟩
        have hb : made[k]? = some b := hb
        have hcut := cut_of hI.nodup hb
        have hcl := hcut.len
        rw [List.length_append] at hcl
        have hwk : IntKind.i64.wrap ((k : Int) + 1) = ((k + 1 : Nat) : Int) := by rw [wrap64 (by omega) (by omega)]; simp
        simp only [Option.getD_some, Option.getD_none, List.drop_zero, hwk, Int.toNat_natCast, List.take_length]
        refine ⟨⟨by omega, by omega, by omega, by omega⟩, by omega, fun h0 => ⟨⟨by omega, by omega, by omega, by omega⟩, by omega, fun h2 => ?_, fun h2 => ?_⟩, fun h0 => ⟨⟨by omega, by omega, by omega, by omega⟩, by omega, ?_⟩⟩
        · rw [h0, h2] at hcut
          exact lk_box boxes i ⟨hI.wf, rfl, fun y hy => by obtain rfl := hy.eq; exact lk_fin0 (lk_drop1 hI hcut) hcut h13⟩ ⟨hI.wf, rfl, fun y hy => by obtain rfl := hy.eq; exact lk_fin0 (lk_drop2 hI hcut) hcut h13⟩
        · rw [h0, List.nil_append] at hcut
          exact lk_box boxes i ⟨hI.wf, rfl, fun y hy => by obtain rfl := hy.eq; exact lk_fin (lk_drop1 hI hcut) hcut h13⟩ ⟨hI.wf, rfl, fun y hy => by obtain rfl := hy.eq; exact lk_fin (lk_drop2 hI hcut) hcut h13⟩
        · exact lk_box boxes i ⟨hI.wf, rfl, fun y hy => by obtain rfl := hy.eq; exact lk_fin (lk_drop1 hI hcut) hcut h13⟩ ⟨hI.wf, rfl, fun y hy => by obtain rfl := hy.eq; exact lk_fin (lk_drop2 hI hcut) hcut h13⟩
      · refine ⟨⟨by omega, by omega⟩, fun b hb => ?_⟩
        have hcut : Cut made 0 b (made.take 0 ++ made.drop 1) := cut_of hI.nodup hb
        have hcl := hcut.len
        rw [List.length_append] at hcl
        have hwk : IntKind.i64.wrap ((0 : Int) + 1) = 1 := rfl
        simp only [Option.getD_some, Option.getD_none, List.drop_zero, hwk, Int.toNat_natCast, List.take_length, Int.toNat_zero, List.take_zero]
        rw [List.take_zero, List.nil_append] at hcut
        refine ⟨⟨by omega, by omega, by omega, by omega⟩, by simp, fun h0 => ⟨⟨by omega, by omega, by omega, by omega⟩, by omega, fun h2 => ?_, fun h2 => ?_⟩, fun h0 => (h0 rfl).elim⟩
        · rw [h2] at hcut
          exact lk_box boxes i ⟨hI.wf, rfl, fun y hy => by obtain rfl := hy.eq; exact lk_fin0 (lk_drop1 hI hcut) hcut h13⟩ ⟨hI.wf, rfl, fun y hy => by obtain rfl := hy.eq; exact lk_fin0 (lk_drop2 hI hcut) hcut h13⟩
        · exact lk_box boxes i ⟨hI.wf, rfl, fun y hy => by obtain rfl := hy.eq; exact lk_fin (lk_drop1 hI hcut) hcut h13⟩ ⟨hI.wf, rfl, fun y hy => by obtain rfl := hy.eq; exact lk_fin (lk_drop2 hI hcut) hcut h13⟩
    · have hz : made = [] := by
        have : ¬ (0 < made.length) := by simpa using hz
        exact List.eq_nil_of_length_eq_zero (by omega)
      have e : y = (noInfo, false) := by rw [hy.eq]; unfold infoR; rw [hI.out hz]
      rw [e]; rfl
end Go.Proofs.Ythoaelmomocohaa
