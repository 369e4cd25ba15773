/- Sorted entries, labels made of them, Join, Same; conditions: lengths below a million. -/
import Derived.Test.YtblhojadchbcnaaDoorLa4
import Derived.Test.YtblhojadchbcnaaDoorPa4
namespace Go.Proofs.YtblhojadchbcnaaDoor
open Go.Proofs.YtblhojadchbcnaaDoor.Gx
noncomputable def c54 : Code := Tryd.f54.body.getD .skip
noncomputable def c55 : Code := Tryd.f55.body.getD .skip
noncomputable def c76 : Code := Tryd.f76.body.getD .skip
noncomputable def c77 : Code := Tryd.f77.body.getD .skip
noncomputable def c84 : Code := Tryd.f84.body.getD .skip
noncomputable def c85 : Code := Tryd.f85.body.getD .skip
noncomputable def c87 : Code := Tryd.f87.body.getD .skip
noncomputable def c92 : Code := Tryd.f92.body.getD .skip
end Go.Proofs.YtblhojadchbcnaaDoor
namespace Go.Proofs.YtblhojadchbcnaaDoor
open Go.Proofs.YtblhojadchbcnaaDoor.Gx
set_option maxRecDepth 100000
set_option maxHeartbeats 0
noncomputable def s77 : Sv PP := ⟨77, inl PP e0 Tryd.f77 c77, ⟨rfl, inl_ok (env_ok ..) rfl mixed rfl rfl⟩⟩
theorem compare_vc (a b : Int) : fvc PP (env PP [] [s77] [] [] []) Tryd.f53 c53 (ofArgs [i64, i64] (a, b, ())) St0 (gives [i64] (cmpI a b, ())) = (
  ((a != a) = true → ((b != b) = true → (0 : Int) = cmpI a b ∧ True) ∧ ((b != b) = false → (-1 : Int) = cmpI a b ∧ True)) ∧ ((a != a) = false → ((b != b) = true → (1 : Int) = cmpI a b ∧ True) ∧ ((b != b) = false → 
  (decide (a < b) = true → (-1 : Int) = cmpI a b ∧ True) ∧ (decide (a < b) = false → (decide (a > b) = true → (1 : Int) = cmpI a b ∧ True) ∧ (decide (a > b) = false → (0 : Int) = cmpI a b ∧ True))))) := by kernel_rfl
def orLoop (l : List Int) : List (Nat × (St → Option LoopSpec)) :=
  [(3, fun _ => some { α := Nat, inv := fun i => i ≤ l.length ∧ orR (l.drop i) = orR l, ov := fun i => [(8, .int .i64 (i : Int))], rov := fun _ => [], meas := fun i => l.length - i })]
theorem or_vc (l : List Int) : fvc PP (eL (orLoop l)) Tryd.f52 c52 (ofArgs [.slice i64] (l, ())) St0 (gives [i64] (orR l, ())) = (
  l.length ≤ maxLen → ∃ (x0 : Nat), (x0 ≤ l.length ∧ orR (List.drop x0 l) = orR l) ∧ ((True ∧ True) ∧ ((0 : Int) = (↑x0 : Int) ∧ (↑l.length : Int) = (↑l.length : Int) ∧ l = l ∧ (0 : Int) = (0 : Int) ∧ l = l ∧ True) ∧ 
  True) ∧ ∀ (x : Nat), x ≤ l.length ∧ orR (List.drop x l) = orR l → (decide ((↑x : Int) < (↑l.length : Int)) = true → ((0 : Int) ≤ (↑x : Int) ∧ (↑x : Int) < (↑l.length : Int)) ∧ ∀ (y : Int), l[(↑x : Int).toNat]? = some y 
  → ((y != (0 : Int)) = true → y = orR l ∧ True) ∧ ((y != (0 : Int)) = false → ∃ (x' : Nat), (x' ≤ l.length ∧ orR (List.drop x' l) = orR l) ∧ l.length - x' < l.length - x ∧ (True ∧ True) ∧ (IntKind.i64.wrap ((↑x : Int) + 
  (1 : Int)) = (↑x' : Int) ∧ (↑l.length : Int) = (↑l.length : Int) ∧ l = l ∧ (0 : Int) = (0 : Int) ∧ l = l ∧ True) ∧ True)) ∧ (decide ((↑x : Int) < (↑l.length : Int)) = false → (0 : Int) = orR l ∧ True)) := by kernel_rfl
theorem clone_vc (l : List (Int × Int)) : fvc PP e0 Tryd.f49 c49 (ofArgs [.slice ent] (l, ())) St0 (givesRow 25 ent l) = (
  ∀ (b : Bool), (b = true → l = []) → (b = true → l = []) ∧ (b = false → ((0 : Nat) + l.length) * (16 : Nat) ≤ (140737488355328 : Nat) ∧ [] ++ l = l)) := by kernel_rfl
theorem whole_vc (l : Lab) : fvc PP e0 Tryd.f55 c55 (ofArgs [lab] (l, ())) St0 (gives [lab, i64] ((wholeL l).1, (wholeL l).2, ())) = (
  l.snd.length ≤ maxLen → (decide ((↑l.snd.length : Int) > (16 : Int)) = true → (((0 : Int) = (wholeL l).fst.fst ∧ (wholeL l).fst.snd = [] ∧ True) ∧ (7 : Int) = (wholeL l).snd ∧ True) ∧ True) ∧ (decide ((↑l.snd.length : 
  Int) > (16 : Int)) = false → ((l.fst = (wholeL l).fst.fst ∧ l.snd = (wholeL l).fst.snd ∧ True) ∧ (0 : Int) = (wholeL l).snd ∧ True) ∧ True)) := by kernel_rfl
theorem bad_vc (n : Int) : fvc PP e0 Tryd.f48 c48 (ofArgs [i64] (n, ())) St0 (gives [.bool] (!levelB n, ())) = (
  ∃ (v : Bool), ((decide (n < (0 : Int)) = false → decide (n > (5 : Int)) = v) ∧ (decide (n < (0 : Int)) = !false → true = v)) ∧ v = !levelB n ∧ True) := by kernel_rfl
def namedBLoop (l : Lab) (c : Int) : List (Nat × (St → Option LoopSpec)) :=
  [(2, fun _ => some { α := Nat, inv := fun i => i ≤ l.2.length ∧ (l.2.drop i).any (fun x => x.1 == c) = l.2.any (fun x => x.1 == c), ov := fun i => [(10, .int .i64 (i : Int))], rov := fun _ => [], meas := fun i => l.2.length - i })]
end Go.Proofs.YtblhojadchbcnaaDoor
namespace Go.Proofs.YtblhojadchbcnaaDoor
open Go.Proofs.YtblhojadchbcnaaDoor.Gx
set_option maxRecDepth 100000
set_option maxHeartbeats 2000000
set_option linter.unusedSimpArgs false
set_option linter.unusedVariables false
theorem compare_ok : PSpecOk PP 53 (Q [i64, i64] [i64] (fun _ => true) (fun x => (cmpI x.1 x.2.1, ()))) := by
  refine pspec_Q mixed (fn := Tryd.f53) (c := c53) rfl rfl _ _ rfl ?_
  rintro ⟨a, b, ⟨⟩⟩ - -
  refine ⟨_, env_ok [] [s77] [] [] [], rfl, hold (compare_vc a b) ?_⟩
  simp only [true_and, and_true, bne_self_eq_false, Bool.false_eq_true, false_implies, forall_const, cmpI, decide_eq_true_eq, decide_eq_false_iff_not]
  refine ⟨fun h => by rw [if_pos h], fun h => ⟨fun h2 => ?_, fun h2 => ?_⟩⟩
  · rw [if_neg h, if_pos h2]
  · rw [if_neg h, if_neg h2]
theorem or_ok : PSpecOk PP 52 (Q [.slice i64] [i64] (fun _ => true) (fun x => (orR x.1, ()))) := by
  refine pspec_Q mixed (fn := Tryd.f52) (c := c52) rfl rfl _ _ rfl ?_
  rintro ⟨l, ⟨⟩⟩ - -
  refine ⟨_, env_ok [] [] [] [] (orLoop l), rfl, hold (or_vc l) ?_⟩
  simp only [true_and, and_true]
  intro hA
  refine ⟨0, ⟨by simp, rfl⟩, rfl, ?_⟩
  rintro i ⟨hi, hinv⟩
  rcases get_cases l i hi with ⟨x, hx, hi'⟩ | ⟨hx, hi'⟩
  · rw [drop_get hx] at hinv
    simp only [orR] at hinv
    refine ⟨fun _ => ⟨by omega, fun y hy => ?_⟩, fun h => by simp at h; omega⟩
    obtain rfl : x = y := by simpa [hx] using hy
    refine ⟨fun h => ?_, fun h => ⟨i + 1, ⟨by omega, ?_⟩, by omega, wrap_succ hi' hA⟩⟩
    · rw [if_neg (by simpa using h)] at hinv; exact hinv
    · rw [if_pos (by simpa using h)] at hinv; exact hinv
  · subst hi'
    refine ⟨fun h => by simp at h, fun _ => ?_⟩
    rw [List.drop_length] at hinv
    exact hinv
theorem clone_own : OwnOk PP 49 [.slice ent] 25 ent (fun x => decide (x.1.length ≤ 1000000)) (fun x => x.1) := by
  refine own_Q mixed (fn := Tryd.f49) (c := c49) rfl rfl _ _ _ rfl ?_
  rintro ⟨l, ⟨⟩⟩ - hp
  simp at hp
  refine ⟨_, env_ok [] [] [] [] [], rfl, hold (clone_vc l) ?_⟩
  exact fun b hb => ⟨hb, fun _ => ⟨by omega, rfl⟩⟩
theorem whole_ok : PSpecOk PP 55 (Q [lab] [lab, i64] (fun _ => true) (fun x => ((wholeL x.1).1, (wholeL x.1).2, ()))) := by
  refine pspec_Q mixed (fn := Tryd.f55) (c := c55) rfl rfl _ _ rfl ?_
  rintro ⟨l, ⟨⟩⟩ - -
  refine ⟨_, env_ok [] [] [] [] [], rfl, hold (whole_vc l) ?_⟩
  refine fun _ => ⟨fun h => ?_, fun h => ?_⟩
  · have : 16 < l.2.length := by simp at h; omega
    simp [wholeL, this]
  · have : ¬ 16 < l.2.length := by simp at h; omega
    simp [wholeL, this]
theorem bad_ok : PSpecOk PP 48 (Q [i64] [.bool] (fun _ => true) (fun x => (!levelB x.1, ()))) := by
  refine pspec_Q mixed (fn := Tryd.f48) (c := c48) rfl rfl _ _ rfl ?_
  rintro ⟨n, ⟨⟩⟩ - -
  refine ⟨_, env_ok [] [] [] [] [], rfl, hold (bad_vc n) ?_⟩
  simp only [true_and, and_true]
  refine ⟨!levelB n, ⟨fun h => ?_, fun h => ?_⟩, rfl⟩
  · simp at h
    have : levelB n = decide (n ≤ 5) := by simp [levelB, h]
    rw [this, Bool.eq_iff_iff]; simp
  · simp at h
    have : ¬ ((0 : Int) ≤ n) := Int.not_le.2 h
    simp [levelB, this]
end Go.Proofs.YtblhojadchbcnaaDoor
namespace Go.Proofs.YtblhojadchbcnaaDoor
open Go.Proofs.YtblhojadchbcnaaDoor.Gx
set_option maxRecDepth 100000
set_option maxHeartbeats 0
noncomputable def p53 : Pv PP := ⟨53, _, ⟨rfl, compare_ok⟩⟩
noncomputable def p52 : Pv PP := ⟨52, _, ⟨rfl, or_ok⟩⟩
noncomputable def s49 : Sv PP := ⟨49, _, ⟨rfl, spec_Qo clone_own⟩⟩
noncomputable def p55 : Pv PP := ⟨55, _, ⟨rfl, whole_ok⟩⟩
noncomputable def p48 : Pv PP := ⟨48, _, ⟨rfl, bad_ok⟩⟩
theorem cmpE_vc (x y : Int × Int) : fvc PP (eP [p53, p52]) Tryd.f51 c51 (ofArgs [ent, ent] (x, y, ())) St0 (gives [i64] (cmpE x y, ())) = (
  true = true ∧ true = true ∧ true = true ∧ orR [cmpI x.fst y.fst, cmpI x.snd y.snd] = cmpE x y ∧ True) := by kernel_rfl
theorem cmpE_ok : PSpecOk PP 51 (Q [ent, ent] [i64] (fun _ => true) (fun x => (cmpE x.1 x.2.1, ()))) := by
  refine pspec_Q mixed (fn := Tryd.f51) (c := c51) rfl rfl _ _ rfl ?_
  rintro ⟨x, y, ⟨⟩⟩ - -
  exact ⟨_, env_ok [p53, p52] [] [] [] [], rfl, hold (cmpE_vc x y) (by simp [cmpE])⟩
noncomputable def p51 : Pv PP := ⟨51, _, ⟨rfl, cmpE_ok⟩⟩
def insLoop : List (Nat × (St → Option LoopSpec)) :=
  [(1, fun (S : St) => match getT S.fr.tm 0 with
      | .row r => match (S.res[r]? : Option Res) with
        | some (Res.row _ (Ty.pair (Ty.int IntKind.i64) (Ty.int IntKind.i64)) base) => some { α := Nat × List (Int × Int), inv := fun x => 1 ≤ x.1 ∧ x.1 ≤ base.length + 1 ∧ x.2.length = base.length ∧ x.2.Perm base ∧ risB ((x.1 : Int) - 1) (-1) x.2, ov := fun x => [(8, .int .i64 (x.1 : Int))], rov := fun x => [(r, .row 1 ent x.2)], meas := fun x => base.length + 1 - x.1 }
        | _ => none
      | _ => none),
   (4, fun (S : St) => match getT S.fr.tm 0, getT S.fr.tm 8 with
      | .row r, .int _ i => match (S.res[r]? : Option Res) with
        | some (Res.row _ (Ty.pair (Ty.int IntKind.i64) (Ty.int IntKind.i64)) base) => some { α := Nat × List (Int × Int), inv := fun x => (x.1 : Int) ≤ i ∧ x.2.length = base.length ∧ x.2.Perm base ∧ risB i (x.1 : Int) x.2, ov := fun x => [(9, .int .i64 (x.1 : Int))], rov := fun x => [(r, .row 1 ent x.2)], meas := fun x => x.1 }
        | _ => none
      | _, _ => none)]
noncomputable def s84 : Sv PP := ⟨84, inl PP (env PP [p51] [] [] [] insLoop) Tryd.f84 c84, ⟨rfl, inl_ok (env_ok ..) rfl mixed rfl rfl⟩⟩
noncomputable def s76 : Sv PP := ⟨76, inl PP (envU PP [] [s84] [] [] [] 1) Tryd.f76 c76, ⟨rfl, inl_ok (envU_ok ..) rfl mixed rfl rfl⟩⟩
noncomputable def s50 : Sv PP := ⟨50, inl PP (env PP [] [s76] [] [] []) Tryd.f50 c50, ⟨rfl, inl_ok (env_ok ..) rfl mixed rfl rfl⟩⟩
def compLoop : List (Nat × (St → Option LoopSpec)) :=
  [(4, fun (S : St) => match getT S.fr.tm 0 with
      | .row r => match (S.res[r]? : Option Res) with
        | some (Res.row _ (Ty.pair (Ty.int IntKind.i64) (Ty.int IntKind.i64)) base) => some { α := Nat, inv := fun i => 1 ≤ i ∧ i ≤ base.length, ov := fun i => [(3, .int .i64 (i : Int))], rov := fun _ => [], meas := fun i => base.length - i }
        | _ => none
      | _ => none)]
noncomputable def s54 : Sv PP := ⟨54, inl PP (env PP [] [] [] [] compLoop) Tryd.f54 c54, ⟨rfl, inl_ok (env_ok ..) rfl mixed rfl rfl⟩⟩
def makeELoop (d : Int) (cs : List (Int × Int)) : List (Nat × (St → Option LoopSpec)) :=
  [(4, fun _ => some { α := Nat, inv := fun i => i ≤ cs.length ∧ True, ov := fun i => [(19, .int .i64 (i : Int)), (7, .bool (wrongE d (cs.take i)))], rov := fun _ => [], meas := fun i => cs.length - i }),
   (15, fun (S : St) => match getT S.fr.tm 51, getT S.fr.tm 11 with
      | .row r, .ptr b _ => match (S.res[r]? : Option Res) with
        | some (Res.row _ (Ty.pair (Ty.int IntKind.i64) (Ty.int IntKind.i64)) ss) => some { α := Nat, inv := fun i => i ≤ ss.length ∧ True, ov := fun i => [(53, .int .i64 (i : Int))], rov := fun i => [(b, .blk 0 [.int .i64 d, .row S.res.length]), (S.res.length, .row 0 ent ((ss.take i).filter fun x => !(x.2 == d)))], meas := fun i => ss.length - i, nil := [(.cell b 1, 25, ent)] }
        | _ => none
      | _, _ => none)]
theorem makeE_vc (d : Int) (cs : List (Int × Int)) : fvc PP (env PP [p48, p55] [s49, s50, s54] [] [] (makeELoop d cs)) Tryd.f14 c14 (ofArgs [i64, .slice ent] (d, cs, ())) St0 (gives [lab, i64] ((makeE d cs).1, (makeE d cs).2, ())) = (
  true = true ∧ (cs.length ≤ maxLen → ∃ (x0 : Nat), (x0 ≤ cs.length ∧ True) ∧ ((True ∧ True) ∧ ((0 : Int) = (↑x0 : Int) ∧ (!levelB d) = wrongE d (List.take x0 cs) ∧ (↑cs.length : Int) = (↑cs.length : Int) ∧ cs = cs ∧ 
  True ∧ (0 : Int) = (0 : Int) ∧ True ∧ d = d ∧ cs = cs ∧ True) ∧ ((0 : Int) = (0 : Int) ∧ SV.val (Value.slice none (0 : Nat) (0 : Nat)) = SV.val (Value.slice none (0 : Nat) (0 : Nat)) ∧ True) ∧ True) ∧ ∀ (x : Nat), x ≤ 
  cs.length ∧ True → (decide ((↑x : Int) < (↑cs.length : Int)) = true → ((0 : Int) ≤ (↑x : Int) ∧ (↑x : Int) < (↑cs.length : Int)) ∧ ∀ (y : Int × Int), cs[(↑x : Int).toNat]? = some y → (wrongE d (List.take x cs) = false 
  → true = true ∧ ((!levelB y.snd) = false → (decide (y.fst < (1 : Int)) = false → ∃ (x' : Nat), (x' ≤ cs.length ∧ True) ∧ cs.length - x' < cs.length - x ∧ (True ∧ True) ∧ (IntKind.i64.wrap ((↑x : Int) + (1 : Int)) = 
  (↑x' : Int) ∧ decide (y.fst > (2305843009213693951 : Int)) = wrongE d (List.take x' cs) ∧ (↑cs.length : Int) = (↑cs.length : Int) ∧ cs = cs ∧ True ∧ (0 : Int) = (0 : Int) ∧ True ∧ d = d ∧ cs = cs ∧ True) ∧ ((0 : Int) = 
  (0 : Int) ∧ SV.val (Value.slice none (0 : Nat) (0 : Nat)) = SV.val (Value.slice none (0 : Nat) (0 : Nat)) ∧ True) ∧ True) ∧ (decide (y.fst < (1 : Int)) = !false → ∃ (x' : Nat), (x' ≤ cs.length ∧ True) ∧ cs.length - x' 
  < cs.length - x ∧ (True ∧ True) ∧ (IntKind.i64.wrap ((↑x : Int) + (1 : Int)) = (↑x' : Int) ∧ true = wrongE d (List.take x' cs) ∧ (↑cs.length : Int) = (↑cs.length : Int) ∧ cs = cs ∧ True ∧ (0 : Int) = (0 : Int) ∧ True ∧ 
  d = d ∧ cs = cs ∧ True) ∧ ((0 : Int) = (0 : Int) ∧ SV.val (Value.slice none (0 : Nat) (0 : Nat)) = SV.val (Value.slice none (0 : Nat) (0 : Nat)) ∧ True) ∧ True)) ∧ ((!levelB y.snd) = !false → ∃ (x' : Nat), (x' ≤ 
  cs.length ∧ True) ∧ cs.length - x' < cs.length - x ∧ (True ∧ True) ∧ (IntKind.i64.wrap ((↑x : Int) + (1 : Int)) = (↑x' : Int) ∧ true = wrongE d (List.take x' cs) ∧ (↑cs.length : Int) = (↑cs.length : Int) ∧ cs = cs ∧ 
  True ∧ (0 : Int) = (0 : Int) ∧ True ∧ d = d ∧ cs = cs ∧ True) ∧ ((0 : Int) = (0 : Int) ∧ SV.val (Value.slice none (0 : Nat) (0 : Nat)) = SV.val (Value.slice none (0 : Nat) (0 : Nat)) ∧ True) ∧ True)) ∧ (wrongE d 
  (List.take x cs) = !false → ∃ (x' : Nat), (x' ≤ cs.length ∧ True) ∧ cs.length - x' < cs.length - x ∧ (True ∧ True) ∧ (IntKind.i64.wrap ((↑x : Int) + (1 : Int)) = (↑x' : Int) ∧ true = wrongE d (List.take x' cs) ∧ 
  (↑cs.length : Int) = (↑cs.length : Int) ∧ cs = cs ∧ True ∧ (0 : Int) = (0 : Int) ∧ True ∧ d = d ∧ cs = cs ∧ True) ∧ ((0 : Int) = (0 : Int) ∧ SV.val (Value.slice none (0 : Nat) (0 : Nat)) = SV.val (Value.slice none (0 : 
  Nat) (0 : Nat)) ∧ True) ∧ True)) ∧ (decide ((↑x : Int) < (↑cs.length : Int)) = false → (wrongE d (List.take x cs) = true → (((0 : Int) = (makeE d cs).fst.fst ∧ (makeE d cs).fst.snd = [] ∧ True) ∧ (1 : Int) = (makeE d 
  cs).snd ∧ True) ∧ True) ∧ (wrongE d (List.take x cs) = false → decide (cs.length ≤ (1000000 : Nat)) = true ∧ (cs.length ≤ maxLen → (decide ((20 : Int) ≤ (↑cs.length : Int)) = true → ∃ (x0 : Nat × List (Int × Int)), ((1 
  : Nat) ≤ x0.fst ∧ x0.fst ≤ cs.length + (1 : Nat) ∧ x0.snd.length = cs.length ∧ x0.snd.Perm cs ∧ ∀ (p q : Nat) (x y : Int × Int), p < q → (↑q : Int) ≤ (↑x0.fst : Int) - (1 : Int) → (↑q : Int) ≠ (-1 : Int) → x0.snd[p]? = 
  some x → x0.snd[q]? = some y → cmpE x y ≤ (0 : Int)) ∧ (((True ∧ (20 : Int) = (20 : Int) ∧ (0 : Int) = (0 : Int) ∧ True ∧ true = true ∧ true = true ∧ (20 : Int) = (20 : Int) ∧ (0 : Int) = (0 : Int) ∧ (20 : Int) = (20 : 
  Int) ∧ True ∧ (↑cs.length : Int) = (↑cs.length : Int) ∧ True ∧ True) ∧ (True ∧ (↑cs.length : Int) = (↑cs.length : Int) ∧ True ∧ True ∧ True ∧ True ∧ True) ∧ (True ∧ True ∧ false = false ∧ false = false ∧ (↑x : Int) = 
  (↑x : Int) ∧ wrongE d (List.take x cs) = wrongE d (List.take x cs) ∧ (↑cs.length : Int) = (↑cs.length : Int) ∧ cs = cs ∧ True ∧ (0 : Int) = (0 : Int) ∧ True ∧ d = d ∧ cs = cs ∧ True) ∧ True ∧ True) ∧ (IntKind.i64.wrap 
  ((0 : Int) + (1 : Int)) = (↑x0.fst : Int) ∧ True ∧ (0 : Int) = (0 : Int) ∧ (20 : Int) = (20 : Int) ∧ True ∧ True) ∧ ((0 : Int) = (0 : Int) ∧ SV.val (Value.slice none (0 : Nat) (0 : Nat)) = SV.val (Value.slice none (0 : 
  Nat) (0 : Nat)) ∧ True) ∧ cs = x0.snd ∧ True) ∧ ∀ (x_1 : Nat × List (Int × Int)), ((1 : Nat) ≤ x_1.fst ∧ x_1.fst ≤ cs.length + (1 : Nat) ∧ x_1.snd.length = cs.length ∧ x_1.snd.Perm cs ∧ ∀ (p q : Nat) (x y : Int × Int), 
  p < q → (↑q : Int) ≤ (↑x_1.fst : Int) - (1 : Int) → (↑q : Int) ≠ (-1 : Int) → x_1.snd[p]? = some x → x_1.snd[q]? = some y → cmpE x y ≤ (0 : Int)) → (decide ((↑x_1.fst : Int) < (20 : Int)) = true → ∃ (x0 : Nat × List 
  (Int × Int)), ((↑x0.fst : Int) ≤ (↑x_1.fst : Int) ∧ x0.snd.length = x_1.snd.length ∧ x0.snd.Perm x_1.snd ∧ ∀ (p q : Nat) (x y : Int × Int), p < q → (↑q : Int) ≤ (↑x_1.fst : Int) → (↑q : Int) ≠ (↑x0.fst : Int) → 
  x0.snd[p]? = some x → x0.snd[q]? = some y → cmpE x y ≤ (0 : Int)) ∧ (((True ∧ (20 : Int) = (20 : Int) ∧ (0 : Int) = (0 : Int) ∧ True ∧ true = true ∧ true = true ∧ (20 : Int) = (20 : Int) ∧ (0 : Int) = (0 : Int) ∧ (20 : 
  Int) = (20 : Int) ∧ True ∧ (↑cs.length : Int) = (↑cs.length : Int) ∧ True ∧ True) ∧ (True ∧ (↑cs.length : Int) = (↑cs.length : Int) ∧ True ∧ True ∧ True ∧ True ∧ True) ∧ (True ∧ True ∧ false = false ∧ false = false ∧ 
  (↑x : Int) = (↑x : Int) ∧ wrongE d (List.take x cs) = wrongE d (List.take x cs) ∧ (↑cs.length : Int) = (↑cs.length : Int) ∧ cs = cs ∧ True ∧ (0 : Int) = (0 : Int) ∧ True ∧ d = d ∧ cs = cs ∧ True) ∧ True ∧ True) ∧ 
  ((↑x_1.fst : Int) = (↑x0.fst : Int) ∧ true = true ∧ (↑x_1.fst : Int) = (↑x_1.fst : Int) ∧ True ∧ (0 : Int) = (0 : Int) ∧ (20 : Int) = (20 : Int) ∧ True ∧ True) ∧ ((0 : Int) = (0 : Int) ∧ SV.val (Value.slice none (0 : 
  Nat) (0 : Nat)) = SV.val (Value.slice none (0 : Nat) (0 : Nat)) ∧ True) ∧ x_1.snd = x0.snd ∧ True) ∧ ∀ (x_2 : Nat × List (Int × Int)), ((↑x_2.fst : Int) ≤ (↑x_1.fst : Int) ∧ x_2.snd.length = x_1.snd.length ∧ 
  x_2.snd.Perm x_1.snd ∧ ∀ (p q : Nat) (x y : Int × Int), p < q → (↑q : Int) ≤ (↑x_1.fst : Int) → (↑q : Int) ≠ (↑x_2.fst : Int) → x_2.snd[p]? = some x → x_2.snd[q]? = some y → cmpE x y ≤ (0 : Int)) → ∃ (v : Bool), 
  ((decide ((↑x_2.fst : Int) > (0 : Int)) = true → ((0 : Int) ≤ (↑x_2.fst : Int) ∧ (↑x_2.fst : Int) < (↑x_2.snd.length : Int)) ∧ (↑x_2.fst : Int).toNat < x_2.snd.length ∧ ∀ (y : Int × Int), x_2.snd[(↑x_2.fst : 
  Int).toNat]? = some y → ((0 : Int) ≤ IntKind.i64.wrap ((↑x_2.fst : Int) - (1 : Int)) ∧ IntKind.i64.wrap ((↑x_2.fst : Int) - (1 : Int)) < (↑x_2.snd.length : Int)) ∧ (IntKind.i64.wrap ((↑x_2.fst : Int) - (1 : 
  Int))).toNat < x_2.snd.length ∧ ∀ (y_1 : Int × Int), x_2.snd[(IntKind.i64.wrap ((↑x_2.fst : Int) - (1 : Int))).toNat]? = some y_1 → true = true ∧ decide (cmpE (y.fst, y.snd) (y_1.fst, y_1.snd) < (0 : Int)) = v) ∧ 
  (decide ((↑x_2.fst : Int) > (0 : Int)) = !true → false = v)) ∧ (v = true → ((0 : Int) ≤ IntKind.i64.wrap ((↑x_2.fst : Int) - (1 : Int)) ∧ IntKind.i64.wrap ((↑x_2.fst : Int) - (1 : Int)) < (↑x_2.snd.length : Int)) ∧ 
  (IntKind.i64.wrap ((↑x_2.fst : Int) - (1 : Int))).toNat < x_2.snd.length ∧ ∀ (y : Int × Int), x_2.snd[(IntKind.i64.wrap ((↑x_2.fst : Int) - (1 : Int))).toNat]? = some y → ((0 : Int) ≤ (↑x_2.fst : Int) ∧ (↑x_2.fst : 
  Int) < (↑x_2.snd.length : Int)) ∧ (↑x_2.fst : Int).toNat < x_2.snd.length ∧ ∀ (y_1 : Int × Int), x_2.snd[(↑x_2.fst : Int).toNat]? = some y_1 → ((0 : Int) ≤ (↑x_2.fst : Int) ∧ (↑x_2.fst : Int) < (↑x_2.snd.length : Int)) 
  ∧ (↑x_2.fst : Int).toNat < x_2.snd.length ∧ ((0 : Int) ≤ IntKind.i64.wrap ((↑x_2.fst : Int) - (1 : Int)) ∧ IntKind.i64.wrap ((↑x_2.fst : Int) - (1 : Int)) < (↑(x_2.snd.set (↑x_2.fst : Int).toNat (y.fst, y.snd)).length 
  : Int)) ∧ (IntKind.i64.wrap ((↑x_2.fst : Int) - (1 : Int))).toNat < (x_2.snd.set (↑x_2.fst : Int).toNat (y.fst, y.snd)).length ∧ ∃ (x' : Nat × List (Int × Int)), ((↑x'.fst : Int) ≤ (↑x_1.fst : Int) ∧ x'.snd.length = 
  x_1.snd.length ∧ x'.snd.Perm x_1.snd ∧ ∀ (p q : Nat) (x y : Int × Int), p < q → (↑q : Int) ≤ (↑x_1.fst : Int) → (↑q : Int) ≠ (↑x'.fst : Int) → x'.snd[p]? = some x → x'.snd[q]? = some y → cmpE x y ≤ (0 : Int)) ∧ x'.fst 
  < x_2.fst ∧ ((True ∧ (20 : Int) = (20 : Int) ∧ (0 : Int) = (0 : Int) ∧ True ∧ true = true ∧ true = true ∧ (20 : Int) = (20 : Int) ∧ (0 : Int) = (0 : Int) ∧ (20 : Int) = (20 : Int) ∧ True ∧ (↑cs.length : Int) = 
  (↑cs.length : Int) ∧ True ∧ True) ∧ (True ∧ (↑cs.length : Int) = (↑cs.length : Int) ∧ True ∧ True ∧ True ∧ True ∧ True) ∧ (True ∧ True ∧ false = false ∧ false = false ∧ (↑x : Int) = (↑x : Int) ∧ wrongE d (List.take x 
  cs) = wrongE d (List.take x cs) ∧ (↑cs.length : Int) = (↑cs.length : Int) ∧ cs = cs ∧ True ∧ (0 : Int) = (0 : Int) ∧ True ∧ d = d ∧ cs = cs ∧ True) ∧ True ∧ True) ∧ (IntKind.i64.wrap ((↑x_2.fst : Int) - (1 : Int)) = 
  (↑x'.fst : Int) ∧ true = true ∧ (↑x_1.fst : Int) = (↑x_1.fst : Int) ∧ True ∧ (0 : Int) = (0 : Int) ∧ (20 : Int) = (20 : Int) ∧ True ∧ True) ∧ ((0 : Int) = (0 : Int) ∧ SV.val (Value.slice none (0 : Nat) (0 : Nat)) = 
  SV.val (Value.slice none (0 : Nat) (0 : Nat)) ∧ True) ∧ (x_2.snd.set (↑x_2.fst : Int).toNat (y.fst, y.snd)).set (IntKind.i64.wrap ((↑x_2.fst : Int) - (1 : Int))).toNat (y_1.fst, y_1.snd) = x'.snd ∧ True) ∧ (v = false → 
  ∃ (x' : Nat × List (Int × Int)), ((1 : Nat) ≤ x'.fst ∧ x'.fst ≤ cs.length + (1 : Nat) ∧ x'.snd.length = cs.length ∧ x'.snd.Perm cs ∧ ∀ (p q : Nat) (x y : Int × Int), p < q → (↑q : Int) ≤ (↑x'.fst : Int) - (1 : Int) → 
  (↑q : Int) ≠ (-1 : Int) → x'.snd[p]? = some x → x'.snd[q]? = some y → cmpE x y ≤ (0 : Int)) ∧ cs.length + (1 : Nat) - x'.fst < cs.length + (1 : Nat) - x_1.fst ∧ ((True ∧ (20 : Int) = (20 : Int) ∧ (0 : Int) = (0 : Int) 
  ∧ True ∧ true = true ∧ true = true ∧ (20 : Int) = (20 : Int) ∧ (0 : Int) = (0 : Int) ∧ (20 : Int) = (20 : Int) ∧ True ∧ (↑cs.length : Int) = (↑cs.length : Int) ∧ True ∧ True) ∧ (True ∧ (↑cs.length : Int) = (↑cs.length 
  : Int) ∧ True ∧ True ∧ True ∧ True ∧ True) ∧ (True ∧ True ∧ false = false ∧ false = false ∧ (↑x : Int) = (↑x : Int) ∧ wrongE d (List.take x cs) = wrongE d (List.take x cs) ∧ (↑cs.length : Int) = (↑cs.length : Int) ∧ cs 
  = cs ∧ True ∧ (0 : Int) = (0 : Int) ∧ True ∧ d = d ∧ cs = cs ∧ True) ∧ True ∧ True) ∧ (IntKind.i64.wrap ((↑x_1.fst : Int) + (1 : Int)) = (↑x'.fst : Int) ∧ True ∧ (0 : Int) = (0 : Int) ∧ (20 : Int) = (20 : Int) ∧ True ∧ 
  True) ∧ ((0 : Int) = (0 : Int) ∧ SV.val (Value.slice none (0 : Nat) (0 : Nat)) = SV.val (Value.slice none (0 : Nat) (0 : Nat)) ∧ True) ∧ x_2.snd = x'.snd ∧ True)) ∧ (decide ((↑x_1.fst : Int) < (20 : Int)) = false → 
  False)) ∧ (decide ((20 : Int) ≤ (↑cs.length : Int)) = false → ∃ (x0 : Nat × List (Int × Int)), ((1 : Nat) ≤ x0.fst ∧ x0.fst ≤ cs.length + (1 : Nat) ∧ x0.snd.length = cs.length ∧ x0.snd.Perm cs ∧ ∀ (p q : Nat) (x y : 
  Int × Int), p < q → (↑q : Int) ≤ (↑x0.fst : Int) - (1 : Int) → (↑q : Int) ≠ (-1 : Int) → x0.snd[p]? = some x → x0.snd[q]? = some y → cmpE x y ≤ (0 : Int)) ∧ (((True ∧ (↑cs.length : Int) = (↑cs.length : Int) ∧ (0 : Int) 
  = (0 : Int) ∧ True ∧ false = false ∧ false = false ∧ (20 : Int) = (20 : Int) ∧ (0 : Int) = (0 : Int) ∧ (20 : Int) = (20 : Int) ∧ True ∧ (↑cs.length : Int) = (↑cs.length : Int) ∧ True ∧ True) ∧ (True ∧ (↑cs.length : 
  Int) = (↑cs.length : Int) ∧ True ∧ True ∧ True ∧ True ∧ True) ∧ (True ∧ True ∧ false = false ∧ false = false ∧ (↑x : Int) = (↑x : Int) ∧ wrongE d (List.take x cs) = wrongE d (List.take x cs) ∧ (↑cs.length : Int) = 
  (↑cs.length : Int) ∧ cs = cs ∧ True ∧ (0 : Int) = (0 : Int) ∧ True ∧ d = d ∧ cs = cs ∧ True) ∧ True ∧ True) ∧ (IntKind.i64.wrap ((0 : Int) + (1 : Int)) = (↑x0.fst : Int) ∧ True ∧ (0 : Int) = (0 : Int) ∧ (↑cs.length : 
  Int) = (↑cs.length : Int) ∧ True ∧ True) ∧ ((0 : Int) = (0 : Int) ∧ SV.val (Value.slice none (0 : Nat) (0 : Nat)) = SV.val (Value.slice none (0 : Nat) (0 : Nat)) ∧ True) ∧ cs = x0.snd ∧ True) ∧ ∀ (x_1 : Nat × List (Int 
  × Int)), ((1 : Nat) ≤ x_1.fst ∧ x_1.fst ≤ cs.length + (1 : Nat) ∧ x_1.snd.length = cs.length ∧ x_1.snd.Perm cs ∧ ∀ (p q : Nat) (x y : Int × Int), p < q → (↑q : Int) ≤ (↑x_1.fst : Int) - (1 : Int) → (↑q : Int) ≠ (-1 : 
  Int) → x_1.snd[p]? = some x → x_1.snd[q]? = some y → cmpE x y ≤ (0 : Int)) → (decide ((↑x_1.fst : Int) < (↑cs.length : Int)) = true → ∃ (x0 : Nat × List (Int × Int)), ((↑x0.fst : Int) ≤ (↑x_1.fst : Int) ∧ x0.snd.length 
  = x_1.snd.length ∧ x0.snd.Perm x_1.snd ∧ ∀ (p q : Nat) (x y : Int × Int), p < q → (↑q : Int) ≤ (↑x_1.fst : Int) → (↑q : Int) ≠ (↑x0.fst : Int) → x0.snd[p]? = some x → x0.snd[q]? = some y → cmpE x y ≤ (0 : Int)) ∧ 
  (((True ∧ (↑cs.length : Int) = (↑cs.length : Int) ∧ (0 : Int) = (0 : Int) ∧ True ∧ false = false ∧ false = false ∧ (20 : Int) = (20 : Int) ∧ (0 : Int) = (0 : Int) ∧ (20 : Int) = (20 : Int) ∧ True ∧ (↑cs.length : Int) = 
  (↑cs.length : Int) ∧ True ∧ True) ∧ (True ∧ (↑cs.length : Int) = (↑cs.length : Int) ∧ True ∧ True ∧ True ∧ True ∧ True) ∧ (True ∧ True ∧ false = false ∧ false = false ∧ (↑x : Int) = (↑x : Int) ∧ wrongE d (List.take x 
  cs) = wrongE d (List.take x cs) ∧ (↑cs.length : Int) = (↑cs.length : Int) ∧ cs = cs ∧ True ∧ (0 : Int) = (0 : Int) ∧ True ∧ d = d ∧ cs = cs ∧ True) ∧ True ∧ True) ∧ ((↑x_1.fst : Int) = (↑x0.fst : Int) ∧ true = true ∧ 
  (↑x_1.fst : Int) = (↑x_1.fst : Int) ∧ True ∧ (0 : Int) = (0 : Int) ∧ (↑cs.length : Int) = (↑cs.length : Int) ∧ True ∧ True) ∧ ((0 : Int) = (0 : Int) ∧ SV.val (Value.slice none (0 : Nat) (0 : Nat)) = SV.val (Value.slice 
  none (0 : Nat) (0 : Nat)) ∧ True) ∧ x_1.snd = x0.snd ∧ True) ∧ ∀ (x_2 : Nat × List (Int × Int)), ((↑x_2.fst : Int) ≤ (↑x_1.fst : Int) ∧ x_2.snd.length = x_1.snd.length ∧ x_2.snd.Perm x_1.snd ∧ ∀ (p q : Nat) (x y : Int 
  × Int), p < q → (↑q : Int) ≤ (↑x_1.fst : Int) → (↑q : Int) ≠ (↑x_2.fst : Int) → x_2.snd[p]? = some x → x_2.snd[q]? = some y → cmpE x y ≤ (0 : Int)) → ∃ (v : Bool), ((decide ((↑x_2.fst : Int) > (0 : Int)) = true → ((0 : 
  Int) ≤ (↑x_2.fst : Int) ∧ (↑x_2.fst : Int) < (↑x_2.snd.length : Int)) ∧ (↑x_2.fst : Int).toNat < x_2.snd.length ∧ ∀ (y : Int × Int), x_2.snd[(↑x_2.fst : Int).toNat]? = some y → ((0 : Int) ≤ IntKind.i64.wrap ((↑x_2.fst 
  : Int) - (1 : Int)) ∧ IntKind.i64.wrap ((↑x_2.fst : Int) - (1 : Int)) < (↑x_2.snd.length : Int)) ∧ (IntKind.i64.wrap ((↑x_2.fst : Int) - (1 : Int))).toNat < x_2.snd.length ∧ ∀ (y_1 : Int × Int), 
  x_2.snd[(IntKind.i64.wrap ((↑x_2.fst : Int) - (1 : Int))).toNat]? = some y_1 → true = true ∧ decide (cmpE (y.fst, y.snd) (y_1.fst, y_1.snd) < (0 : Int)) = v) ∧ (decide ((↑x_2.fst : Int) > (0 : Int)) = !true → false = 
  v)) ∧ (v = true → ((0 : Int) ≤ IntKind.i64.wrap ((↑x_2.fst : Int) - (1 : Int)) ∧ IntKind.i64.wrap ((↑x_2.fst : Int) - (1 : Int)) < (↑x_2.snd.length : Int)) ∧ (IntKind.i64.wrap ((↑x_2.fst : Int) - (1 : Int))).toNat < 
  x_2.snd.length ∧ ∀ (y : Int × Int), x_2.snd[(IntKind.i64.wrap ((↑x_2.fst : Int) - (1 : Int))).toNat]? = some y → ((0 : Int) ≤ (↑x_2.fst : Int) ∧ (↑x_2.fst : Int) < (↑x_2.snd.length : Int)) ∧ (↑x_2.fst : Int).toNat < 
  x_2.snd.length ∧ ∀ (y_1 : Int × Int), x_2.snd[(↑x_2.fst : Int).toNat]? = some y_1 → ((0 : Int) ≤ (↑x_2.fst : Int) ∧ (↑x_2.fst : Int) < (↑x_2.snd.length : Int)) ∧ (↑x_2.fst : Int).toNat < x_2.snd.length ∧ ((0 : Int) ≤ 
  IntKind.i64.wrap ((↑x_2.fst : Int) - (1 : Int)) ∧ IntKind.i64.wrap ((↑x_2.fst : Int) - (1 : Int)) < (↑(x_2.snd.set (↑x_2.fst : Int).toNat (y.fst, y.snd)).length : Int)) ∧ (IntKind.i64.wrap ((↑x_2.fst : Int) - (1 : 
  Int))).toNat < (x_2.snd.set (↑x_2.fst : Int).toNat (y.fst, y.snd)).length ∧ ∃ (x' : Nat × List (Int × Int)), ((↑x'.fst : Int) ≤ (↑x_1.fst : Int) ∧ x'.snd.length = x_1.snd.length ∧ x'.snd.Perm x_1.snd ∧ ∀ (p q : Nat) (x 
  y : Int × Int), p < q → (↑q : Int) ≤ (↑x_1.fst : Int) → (↑q : Int) ≠ (↑x'.fst : Int) → x'.snd[p]? = some x → x'.snd[q]? = some y → cmpE x y ≤ (0 : Int)) ∧ x'.fst < x_2.fst ∧ ((True ∧ (↑cs.length : Int) = (↑cs.length : 
  Int) ∧ (0 : Int) = (0 : Int) ∧ True ∧ false = false ∧ false = false ∧ (20 : Int) = (20 : Int) ∧ (0 : Int) = (0 : Int) ∧ (20 : Int) = (20 : Int) ∧ True ∧ (↑cs.length : Int) = (↑cs.length : Int) ∧ True ∧ True) ∧ (True ∧ 
  (↑cs.length : Int) = (↑cs.length : Int) ∧ True ∧ True ∧ True ∧ True ∧ True) ∧ (True ∧ True ∧ false = false ∧ false = false ∧ (↑x : Int) = (↑x : Int) ∧ wrongE d (List.take x cs) = wrongE d (List.take x cs) ∧ (↑cs.length 
  : Int) = (↑cs.length : Int) ∧ cs = cs ∧ True ∧ (0 : Int) = (0 : Int) ∧ True ∧ d = d ∧ cs = cs ∧ True) ∧ True ∧ True) ∧ (IntKind.i64.wrap ((↑x_2.fst : Int) - (1 : Int)) = (↑x'.fst : Int) ∧ true = true ∧ (↑x_1.fst : Int) 
  = (↑x_1.fst : Int) ∧ True ∧ (0 : Int) = (0 : Int) ∧ (↑cs.length : Int) = (↑cs.length : Int) ∧ True ∧ True) ∧ ((0 : Int) = (0 : Int) ∧ SV.val (Value.slice none (0 : Nat) (0 : Nat)) = SV.val (Value.slice none (0 : Nat) 
  (0 : Nat)) ∧ True) ∧ (x_2.snd.set (↑x_2.fst : Int).toNat (y.fst, y.snd)).set (IntKind.i64.wrap ((↑x_2.fst : Int) - (1 : Int))).toNat (y_1.fst, y_1.snd) = x'.snd ∧ True) ∧ (v = false → ∃ (x' : Nat × List (Int × Int)), 
  ((1 : Nat) ≤ x'.fst ∧ x'.fst ≤ cs.length + (1 : Nat) ∧ x'.snd.length = cs.length ∧ x'.snd.Perm cs ∧ ∀ (p q : Nat) (x y : Int × Int), p < q → (↑q : Int) ≤ (↑x'.fst : Int) - (1 : Int) → (↑q : Int) ≠ (-1 : Int) → 
  x'.snd[p]? = some x → x'.snd[q]? = some y → cmpE x y ≤ (0 : Int)) ∧ cs.length + (1 : Nat) - x'.fst < cs.length + (1 : Nat) - x_1.fst ∧ ((True ∧ (↑cs.length : Int) = (↑cs.length : Int) ∧ (0 : Int) = (0 : Int) ∧ True ∧ 
  false = false ∧ false = false ∧ (20 : Int) = (20 : Int) ∧ (0 : Int) = (0 : Int) ∧ (20 : Int) = (20 : Int) ∧ True ∧ (↑cs.length : Int) = (↑cs.length : Int) ∧ True ∧ True) ∧ (True ∧ (↑cs.length : Int) = (↑cs.length : 
  Int) ∧ True ∧ True ∧ True ∧ True ∧ True) ∧ (True ∧ True ∧ false = false ∧ false = false ∧ (↑x : Int) = (↑x : Int) ∧ wrongE d (List.take x cs) = wrongE d (List.take x cs) ∧ (↑cs.length : Int) = (↑cs.length : Int) ∧ cs = 
  cs ∧ True ∧ (0 : Int) = (0 : Int) ∧ True ∧ d = d ∧ cs = cs ∧ True) ∧ True ∧ True) ∧ (IntKind.i64.wrap ((↑x_1.fst : Int) + (1 : Int)) = (↑x'.fst : Int) ∧ True ∧ (0 : Int) = (0 : Int) ∧ (↑cs.length : Int) = (↑cs.length : 
  Int) ∧ True ∧ True) ∧ ((0 : Int) = (0 : Int) ∧ SV.val (Value.slice none (0 : Nat) (0 : Nat)) = SV.val (Value.slice none (0 : Nat) (0 : Nat)) ∧ True) ∧ x_2.snd = x'.snd ∧ True)) ∧ (decide ((↑x_1.fst : Int) < (↑cs.length 
  : Int)) = false → (decide ((20 : Int) < (↑cs.length : Int)) = true → (decide (IntKind.i64.wrap ((2 : Int) * (20 : Int)) ≤ (↑cs.length : Int)) = true → False) ∧ (decide (IntKind.i64.wrap ((2 : Int) * (20 : Int)) ≤ 
  (↑cs.length : Int)) = false → (decide (IntKind.i64.wrap ((0 : Int) + (20 : Int)) < (↑cs.length : Int)) = true → False) ∧ (decide (IntKind.i64.wrap ((0 : Int) + (20 : Int)) < (↑cs.length : Int)) = false → False))) ∧ 
  (decide ((20 : Int) < (↑cs.length : Int)) = false → x_1.snd.length ≤ maxLen → (decide ((↑x_1.snd.length : Int) < (2 : Int)) = true → x_1.snd.length ≤ maxLen → ∃ (x0 : Nat), (x0 ≤ x_1.snd.length ∧ True) ∧ ((True ∧ True) 
  ∧ ((0 : Int) = (↑x0 : Int) ∧ (↑x_1.snd.length : Int) = (↑x_1.snd.length : Int) ∧ True ∧ True ∧ True ∧ false = false ∧ false = false ∧ (↑x : Int) = (↑x : Int) ∧ wrongE d (List.take x cs) = wrongE d (List.take x cs) ∧ 
  (↑cs.length : Int) = (↑cs.length : Int) ∧ cs = cs ∧ True ∧ True ∧ d = d ∧ cs = cs ∧ True) ∧ ((0 : Int) = (0 : Int) ∧ SV.val (Value.slice none (0 : Nat) (0 : Nat)) = SV.val (Value.slice none (0 : Nat) (0 : Nat)) ∧ True) 
  ∧ x_1.snd = x_1.snd ∧ (d = d ∧ True ∧ True) ∧ [] = List.filter (fun (x : Int × Int) => !x.snd == d) (List.take x0 x_1.snd) ∧ True) ∧ ∀ (x_2 : Nat), x_2 ≤ x_1.snd.length ∧ True → (decide ((↑x_2 : Int) < (↑x_1.snd.length 
  : Int)) = true → ((0 : Int) ≤ (↑x_2 : Int) ∧ (↑x_2 : Int) < (↑x_1.snd.length : Int)) ∧ (↑x_2 : Int).toNat < x_1.snd.length ∧ ∀ (y : Int × Int), x_1.snd[(↑x_2 : Int).toNat]? = some y → ∃ (v : Bool), ((decide ((↑x_2 : 
  Int) > (0 : Int)) = true → ((0 : Int) ≤ IntKind.i64.wrap ((↑x_2 : Int) - (1 : Int)) ∧ IntKind.i64.wrap ((↑x_2 : Int) - (1 : Int)) < (↑x_1.snd.length : Int)) ∧ (IntKind.i64.wrap ((↑x_2 : Int) - (1 : Int))).toNat < 
  x_1.snd.length ∧ ∀ (y_1 : Int × Int), x_1.snd[(IntKind.i64.wrap ((↑x_2 : Int) - (1 : Int))).toNat]? = some y_1 → (y_1.fst == y.fst) = v) ∧ (decide ((↑x_2 : Int) > (0 : Int)) = !true → false = v)) ∧ (v = true → (((0 : 
  Int) = (makeE d cs).fst.fst ∧ (makeE d cs).fst.snd = [] ∧ True) ∧ (2 : Int) = (makeE d cs).snd ∧ True) ∧ True) ∧ (v = false → ((y.snd != d) = true → ((List.filter (fun (x : Int × Int) => !x.snd == d) (List.take x_2 
  x_1.snd)).length + [(y.fst, y.snd)].length) * (16 : Nat) ≤ (140737488355328 : Nat) ∧ ∃ (x' : Nat), (x' ≤ x_1.snd.length ∧ True) ∧ x_1.snd.length - x' < x_1.snd.length - x_2 ∧ (True ∧ True) ∧ (IntKind.i64.wrap ((↑x_2 : 
  Int) + (1 : Int)) = (↑x' : Int) ∧ (↑x_1.snd.length : Int) = (↑x_1.snd.length : Int) ∧ True ∧ True ∧ True ∧ false = false ∧ false = false ∧ (↑x : Int) = (↑x : Int) ∧ wrongE d (List.take x cs) = wrongE d (List.take x cs) 
  ∧ (↑cs.length : Int) = (↑cs.length : Int) ∧ cs = cs ∧ True ∧ True ∧ d = d ∧ cs = cs ∧ True) ∧ ((0 : Int) = (0 : Int) ∧ SV.val (Value.slice none (0 : Nat) (0 : Nat)) = SV.val (Value.slice none (0 : Nat) (0 : Nat)) ∧ 
  True) ∧ x_1.snd = x_1.snd ∧ (d = d ∧ True ∧ True) ∧ List.filter (fun (x : Int × Int) => !x.snd == d) (List.take x_2 x_1.snd) ++ [(y.fst, y.snd)] = List.filter (fun (x : Int × Int) => !x.snd == d) (List.take x' x_1.snd) 
  ∧ True) ∧ ((y.snd != d) = false → ∃ (x' : Nat), (x' ≤ x_1.snd.length ∧ True) ∧ x_1.snd.length - x' < x_1.snd.length - x_2 ∧ (True ∧ True) ∧ (IntKind.i64.wrap ((↑x_2 : Int) + (1 : Int)) = (↑x' : Int) ∧ (↑x_1.snd.length 
  : Int) = (↑x_1.snd.length : Int) ∧ True ∧ True ∧ True ∧ false = false ∧ false = false ∧ (↑x : Int) = (↑x : Int) ∧ wrongE d (List.take x cs) = wrongE d (List.take x cs) ∧ (↑cs.length : Int) = (↑cs.length : Int) ∧ cs = 
  cs ∧ True ∧ True ∧ d = d ∧ cs = cs ∧ True) ∧ ((0 : Int) = (0 : Int) ∧ SV.val (Value.slice none (0 : Nat) (0 : Nat)) = SV.val (Value.slice none (0 : Nat) (0 : Nat)) ∧ True) ∧ x_1.snd = x_1.snd ∧ (d = d ∧ True ∧ True) ∧ 
  List.filter (fun (x : Int × Int) => !x.snd == d) (List.take x_2 x_1.snd) = List.filter (fun (x : Int × Int) => !x.snd == d) (List.take x' x_1.snd) ∧ True))) ∧ (decide ((↑x_2 : Int) < (↑x_1.snd.length : Int)) = false → 
  true = true ∧ (((wholeL (d, List.filter (fun (x : Int × Int) => !x.snd == d) (List.take x_2 x_1.snd))).fst.fst = (makeE d cs).fst.fst ∧ (wholeL (d, List.filter (fun (x : Int × Int) => !x.snd == d) (List.take x_2 
  x_1.snd))).fst.snd = (makeE d cs).fst.snd ∧ True) ∧ (wholeL (d, List.filter (fun (x : Int × Int) => !x.snd == d) (List.take x_2 x_1.snd))).snd = (makeE d cs).snd ∧ True) ∧ True)) ∧ (decide ((↑x_1.snd.length : Int) < (2 
  : Int)) = false → ∃ (x0 : Nat), ((1 : Nat) ≤ x0 ∧ x0 ≤ x_1.snd.length) ∧ (((True ∧ True ∧ false = false ∧ false = false ∧ (↑x : Int) = (↑x : Int) ∧ wrongE d (List.take x cs) = wrongE d (List.take x cs) ∧ (↑cs.length : 
  Int) = (↑cs.length : Int) ∧ cs = cs ∧ True ∧ (0 : Int) = (0 : Int) ∧ True ∧ d = d ∧ cs = cs ∧ True) ∧ True ∧ True) ∧ ((1 : Int) = (↑x0 : Int) ∧ false = false ∧ True ∧ True) ∧ ((0 : Int) = (0 : Int) ∧ SV.val 
  (Value.slice none (0 : Nat) (0 : Nat)) = SV.val (Value.slice none (0 : Nat) (0 : Nat)) ∧ True) ∧ x_1.snd = x_1.snd ∧ True) ∧ ∀ (x_2 : Nat), (1 : Nat) ≤ x_2 ∧ x_2 ≤ x_1.snd.length → x_1.snd.length ≤ maxLen → (decide 
  ((↑x_2 : Int) < (↑x_1.snd.length : Int)) = true → ((0 : Int) ≤ (↑x_2 : Int) ∧ (↑x_2 : Int) < (↑x_1.snd.length : Int)) ∧ (↑x_2 : Int).toNat < x_1.snd.length ∧ ∀ (y : Int × Int), x_1.snd[(↑x_2 : Int).toNat]? = some y → 
  ((0 : Int) ≤ IntKind.i64.wrap ((↑x_2 : Int) - (1 : Int)) ∧ IntKind.i64.wrap ((↑x_2 : Int) - (1 : Int)) < (↑x_1.snd.length : Int)) ∧ (IntKind.i64.wrap ((↑x_2 : Int) - (1 : Int))).toNat < x_1.snd.length ∧ ∀ (y_1 : Int × 
  Int), x_1.snd[(IntKind.i64.wrap ((↑x_2 : Int) - (1 : Int))).toNat]? = some y_1 → ((y.fst == y_1.fst && (y.snd == y_1.snd && true)) = true → ((0 : Int) ≤ none.getD (↑x_1.snd.length : Int) ∧ none.getD (↑x_1.snd.length : 
  Int) ≤ (↑x_1.snd.length : Int) ∧ (0 : Int) ≤ (some (↑x_2 : Int)).getD (0 : Int) ∧ (some (↑x_2 : Int)).getD (0 : Int) ≤ none.getD (↑x_1.snd.length : Int)) ∧ False) ∧ ((y.fst == y_1.fst && (y.snd == y_1.snd && true)) = 
  false → ∃ (x' : Nat), ((1 : Nat) ≤ x' ∧ x' ≤ x_1.snd.length) ∧ x_1.snd.length - x' < x_1.snd.length - x_2 ∧ ((True ∧ True ∧ false = false ∧ false = false ∧ (↑x : Int) = (↑x : Int) ∧ wrongE d (List.take x cs) = wrongE d 
  (List.take x cs) ∧ (↑cs.length : Int) = (↑cs.length : Int) ∧ cs = cs ∧ True ∧ (0 : Int) = (0 : Int) ∧ True ∧ d = d ∧ cs = cs ∧ True) ∧ True ∧ True) ∧ (IntKind.i64.wrap ((↑x_2 : Int) + (1 : Int)) = (↑x' : Int) ∧ false = 
  false ∧ True ∧ True) ∧ ((0 : Int) = (0 : Int) ∧ SV.val (Value.slice none (0 : Nat) (0 : Nat)) = SV.val (Value.slice none (0 : Nat) (0 : Nat)) ∧ True) ∧ x_1.snd = x_1.snd ∧ True)) ∧ (decide ((↑x_2 : Int) < 
  (↑x_1.snd.length : Int)) = false → x_1.snd.length ≤ maxLen → ∃ (x0 : Nat), (x0 ≤ x_1.snd.length ∧ True) ∧ ((True ∧ True) ∧ ((0 : Int) = (↑x0 : Int) ∧ (↑x_1.snd.length : Int) = (↑x_1.snd.length : Int) ∧ True ∧ True ∧ 
  True ∧ false = false ∧ false = false ∧ (↑x : Int) = (↑x : Int) ∧ wrongE d (List.take x cs) = wrongE d (List.take x cs) ∧ (↑cs.length : Int) = (↑cs.length : Int) ∧ cs = cs ∧ True ∧ True ∧ d = d ∧ cs = cs ∧ True) ∧ ((0 : 
  Int) = (0 : Int) ∧ SV.val (Value.slice none (0 : Nat) (0 : Nat)) = SV.val (Value.slice none (0 : Nat) (0 : Nat)) ∧ True) ∧ x_1.snd = x_1.snd ∧ (d = d ∧ True ∧ True) ∧ [] = List.filter (fun (x : Int × Int) => !x.snd == 
  d) (List.take x0 x_1.snd) ∧ True) ∧ ∀ (x_3 : Nat), x_3 ≤ x_1.snd.length ∧ True → (decide ((↑x_3 : Int) < (↑x_1.snd.length : Int)) = true → ((0 : Int) ≤ (↑x_3 : Int) ∧ (↑x_3 : Int) < (↑x_1.snd.length : Int)) ∧ (↑x_3 : 
  Int).toNat < x_1.snd.length ∧ ∀ (y : Int × Int), x_1.snd[(↑x_3 : Int).toNat]? = some y → ∃ (v : Bool), ((decide ((↑x_3 : Int) > (0 : Int)) = true → ((0 : Int) ≤ IntKind.i64.wrap ((↑x_3 : Int) - (1 : Int)) ∧ 
  IntKind.i64.wrap ((↑x_3 : Int) - (1 : Int)) < (↑x_1.snd.length : Int)) ∧ (IntKind.i64.wrap ((↑x_3 : Int) - (1 : Int))).toNat < x_1.snd.length ∧ ∀ (y_1 : Int × Int), x_1.snd[(IntKind.i64.wrap ((↑x_3 : Int) - (1 : 
  Int))).toNat]? = some y_1 → (y_1.fst == y.fst) = v) ∧ (decide ((↑x_3 : Int) > (0 : Int)) = !true → false = v)) ∧ (v = true → (((0 : Int) = (makeE d cs).fst.fst ∧ (makeE d cs).fst.snd = [] ∧ True) ∧ (2 : Int) = (makeE d 
  cs).snd ∧ True) ∧ True) ∧ (v = false → ((y.snd != d) = true → ((List.filter (fun (x : Int × Int) => !x.snd == d) (List.take x_3 x_1.snd)).length + [(y.fst, y.snd)].length) * (16 : Nat) ≤ (140737488355328 : Nat) ∧ ∃ (x' 
  : Nat), (x' ≤ x_1.snd.length ∧ True) ∧ x_1.snd.length - x' < x_1.snd.length - x_3 ∧ (True ∧ True) ∧ (IntKind.i64.wrap ((↑x_3 : Int) + (1 : Int)) = (↑x' : Int) ∧ (↑x_1.snd.length : Int) = (↑x_1.snd.length : Int) ∧ True 
  ∧ True ∧ True ∧ false = false ∧ false = false ∧ (↑x : Int) = (↑x : Int) ∧ wrongE d (List.take x cs) = wrongE d (List.take x cs) ∧ (↑cs.length : Int) = (↑cs.length : Int) ∧ cs = cs ∧ True ∧ True ∧ d = d ∧ cs = cs ∧ 
  True) ∧ ((0 : Int) = (0 : Int) ∧ SV.val (Value.slice none (0 : Nat) (0 : Nat)) = SV.val (Value.slice none (0 : Nat) (0 : Nat)) ∧ True) ∧ x_1.snd = x_1.snd ∧ (d = d ∧ True ∧ True) ∧ List.filter (fun (x : Int × Int) => 
  !x.snd == d) (List.take x_3 x_1.snd) ++ [(y.fst, y.snd)] = List.filter (fun (x : Int × Int) => !x.snd == d) (List.take x' x_1.snd) ∧ True) ∧ ((y.snd != d) = false → ∃ (x' : Nat), (x' ≤ x_1.snd.length ∧ True) ∧ 
  x_1.snd.length - x' < x_1.snd.length - x_3 ∧ (True ∧ True) ∧ (IntKind.i64.wrap ((↑x_3 : Int) + (1 : Int)) = (↑x' : Int) ∧ (↑x_1.snd.length : Int) = (↑x_1.snd.length : Int) ∧ True ∧ True ∧ True ∧ false = false ∧ false = 
  false ∧ (↑x : Int) = (↑x : Int) ∧ wrongE d (List.take x cs) = wrongE d (List.take x cs) ∧ (↑cs.length : Int) = (↑cs.length : Int) ∧ cs = cs ∧ True ∧ True ∧ d = d ∧ cs = cs ∧ True) ∧ ((0 : Int) = (0 : Int) ∧ SV.val 
  (Value.slice none (0 : Nat) (0 : Nat)) = SV.val (Value.slice none (0 : Nat) (0 : Nat)) ∧ True) ∧ x_1.snd = x_1.snd ∧ (d = d ∧ True ∧ True) ∧ List.filter (fun (x : Int × Int) => !x.snd == d) (List.take x_3 x_1.snd) = 
  List.filter (fun (x : Int × Int) => !x.snd == d) (List.take x' x_1.snd) ∧ True))) ∧ (decide ((↑x_3 : Int) < (↑x_1.snd.length : Int)) = false → true = true ∧ (((wholeL (d, List.filter (fun (x : Int × Int) => !x.snd == 
  d) (List.take x_3 x_1.snd))).fst.fst = (makeE d cs).fst.fst ∧ (wholeL (d, List.filter (fun (x : Int × Int) => !x.snd == d) (List.take x_3 x_1.snd))).fst.snd = (makeE d cs).fst.snd ∧ True) ∧ (wholeL (d, List.filter (fun 
  (x : Int × Int) => !x.snd == d) (List.take x_3 x_1.snd))).snd = (makeE d cs).snd ∧ True) ∧ True))))))))))) := by kernel_rfl
end Go.Proofs.YtblhojadchbcnaaDoor
namespace Go.Proofs.YtblhojadchbcnaaDoor
open Go.Proofs.YtblhojadchbcnaaDoor.Gx
set_option maxRecDepth 100000
set_option maxHeartbeats 4000000
set_option linter.unusedSimpArgs false
set_option linter.unusedVariables false
theorem wrap_pred {j n : Nat} (h : 0 < j) (hj : j ≤ n) (hn : n ≤ maxLen) : IntKind.i64.wrap ((j : Int) - 1) = ((j - 1 : Nat) : Int) := by
  rw [wrap64 (by omega) (by rw [maxLen_eq] at hn; omega)]; omega
theorem makeE_ok : PSpecOk PP 14 (Q [i64, .slice ent] [lab, i64] (fun x => dist x.2.1) (fun x => ((makeE x.1 x.2.1).1, (makeE x.1 x.2.1).2, ()))) := by
  refine pspec_Q mixed (fn := Tryd.f14) (c := c14) rfl rfl _ _ rfl ?_
  rintro ⟨d, cs, ⟨⟩⟩ - hp
  change dist cs = true at hp
  have hlen : cs.length < 20 := by simp only [dist, Bool.and_eq_true, decide_eq_true_eq] at hp; exact hp.1
  refine ⟨_, env_ok [p48, p55] [s49, s50, s54] [] [] (makeELoop d cs), rfl, hold (makeE_vc d cs) ?_⟩
  simp only [true_and, and_true, Prod.eta]
  intro hA
  refine ⟨0, by simp, ⟨rfl, by rw [List.take_zero, wrongE_nil]⟩, ?_⟩
  intro i hi
  rcases get_cases cs i hi with ⟨x, hx, hi'⟩ | ⟨hx, hi'⟩
  · have hs := wrongE_snoc d (cs.take i) x
    rw [← take_snoc' hx] at hs
    refine ⟨fun _ => ⟨by omega, fun y hy => ?_⟩, fun h => by simp at h; omega⟩
    obtain rfl : x = y := by simpa [hx] using hy
    have hw := wrap_succ hi' hA
    have hl1 : ∀ y : Int × Int, decide (y.1 < 1) = false → decide (y.1 > 2305843009213693951) = !catB y.1 := by
      intro y hy
      simp only [decide_eq_false_iff_not] at hy
      have : catB y.1 = decide (y.1 ≤ 2305843009213693951) := by simp [catB, maxId]; intro; omega
      rw [this, Bool.eq_iff_iff]; simp
    have hl2 : ∀ y : Int × Int, decide (y.1 < 1) = !false → catB y.1 = false := by
      intro y hy
      simp only [Bool.not_false, decide_eq_true_eq] at hy
      have : ¬ (1 ≤ y.1) := by omega
      simp [catB, this]
    refine ⟨fun h1 => ⟨fun h2 => ⟨fun h3 => ⟨i + 1, by omega, by omega, hw, ?_⟩, fun h3 => ⟨i + 1, by omega, by omega, hw, ?_⟩⟩, fun h2 => ⟨i + 1, by omega, by omega, hw, ?_⟩⟩, fun h1 => ⟨i + 1, by omega, by omega, hw, ?_⟩⟩
    · rw [hs, h1, h2, hl1 x h3]; rfl
    · rw [hs, h1, h2, hl2 x h3]; rfl
    · rw [hs, h1]; simp at h2; simp [h2]
    · rw [hs, h1]; rfl
  · subst hi'
    refine ⟨fun h => by simp at h, fun _ => ?_⟩
    rw [List.take_length]
    refine ⟨fun h => ?_, fun hwr => ⟨by simp; omega, fun hA2 => ⟨fun h => by simp at h; omega, fun _ => ?_⟩⟩⟩
    · simp [makeE, h]
    have hM : makeE d cs = wholeL (d, (sortE cs).filter fun x => !(x.2 == d)) := by simp [makeE, hwr]
    refine ⟨(1, cs), ⟨by simp, by simp, rfl, List.Perm.refl _, fun p q x y hpq hq hne _ _ => by omega⟩, ⟨by rw [wrap64] <;> simp, rfl⟩, ?_⟩
    rintro ⟨i, xs⟩ ⟨hi1, hi2, hxl, hxp, hxs⟩
    simp only at hi1 hi2 hxl hxp hxs ⊢
    change risB ((i : Int) - 1) (-1) xs at hxs
    refine ⟨fun hlt => ?_, fun hge => ⟨fun h => by simp at h; omega, fun _ hA3 => ?_⟩⟩
    · have hin : i < cs.length := by simpa using hlt
      refine ⟨(i, xs), ⟨by simp only; omega, rfl, List.Perm.refl _, risB_enter hxs⟩, ⟨rfl, rfl⟩, ?_⟩
      rintro ⟨j, ys⟩ ⟨hj, hyl, hyp, hys⟩
      simp only at hj hyl hyp hys ⊢
      change risB (i : Int) (j : Int) ys at hys
      have hji : j ≤ i := by omega
      have hjl : j < ys.length := by omega
      have hout : (j = 0 ∨ ∃ x y, ys[j]? = some x ∧ ys[j - 1]? = some y ∧ ¬ cmpE x y < 0) → ∃ x' : Nat × List (Int × Int), (1 ≤ x'.1 ∧ x'.1 ≤ cs.length + 1 ∧ x'.2.length = cs.length ∧ x'.2.Perm cs ∧ risB ((x'.1 : Int) - 1) (-1) x'.2) ∧ cs.length + 1 - x'.1 < cs.length + 1 - i ∧ IntKind.i64.wrap ((i : Int) + 1) = (x'.1 : Int) ∧ ys = x'.2 := by
        intro h
        exact ⟨(i + 1, ys), ⟨by simp only; omega, by simp only; omega, by simp only; omega, hyp.trans hxp, risB_leave hys h⟩, by simp only; omega, wrap_succ hin hA, rfl⟩
      rcases Nat.eq_zero_or_pos j with h0 | h0
      · subst h0
        refine ⟨false, ⟨fun h => by simp at h, fun _ => rfl⟩, fun h => by simp at h, fun _ => hout (.inl rfl)⟩
      · have hwp : IntKind.i64.wrap ((j : Int) - 1) = ((j - 1 : Nat) : Int) := wrap_pred h0 (by omega) hA
        obtain ⟨x, hx⟩ : ∃ x, ys[j]? = some x := ⟨ys[j], List.getElem?_eq_getElem hjl⟩
        obtain ⟨z, hz⟩ : ∃ z, ys[j - 1]? = some z := ⟨ys[j - 1], List.getElem?_eq_getElem (by omega)⟩
        rw [hwp]
        simp only [Int.toNat_natCast, List.length_set]
        refine ⟨decide (cmpE x z < 0), ⟨fun _ => ⟨by omega, by omega, fun y hy => ⟨by omega, by omega, fun y1 hy1 => ?_⟩⟩, fun h => by simp at h; omega⟩, fun hv => ⟨by omega, by omega, fun y hy => ⟨by omega, by omega, fun y1 hy1 => ⟨by omega, by omega, by omega, by omega, ?_⟩⟩⟩, fun hv => ?_⟩
        · rw [hx] at hy; cases hy; rw [hz] at hy1; cases hy1; rfl
        · rw [hz] at hy; cases hy; rw [hx] at hy1; cases hy1
          have hlt2 : cmpE x z < 0 := by simpa using hv
          exact ⟨(j - 1, (ys.set j z).set (j - 1) x), ⟨by simp only; omega, by simp only [List.length_set]; omega, (swap_perm hx hz).trans hyp, risB_swap hys h0 hji (by omega) hx hz hlt2⟩, by simp only; omega, rfl, rfl⟩
        · exact hout (.inr ⟨x, z, hx, hz, by simpa using hv⟩)
    · have hge' : cs.length ≤ i := by simp at hge; exact hge
      have hss : xs = sortE cs := sortE_unique hxp (risB_pairwise hxs (by omega))
      rw [← hss] at hM
      have hxm : xs.length ≤ maxLen := hA3
      refine ⟨fun _ _ => ?_, fun _ => ⟨1, ⟨by simp, ?_⟩, rfl, ?_⟩⟩
      · refine ⟨0, by simp, ⟨rfl, by simp⟩, ?_⟩
        intro k hk
        rcases get_cases xs k hk with ⟨x, hx, hk'⟩ | ⟨hx, hk'⟩
        · refine ⟨fun _ => ⟨by omega, by simp only [Int.toNat_natCast]; omega, fun y hy => ?_⟩, fun h => by simp at h; omega⟩
          obtain rfl : x = y := by simpa [hx] using hy
          refine ⟨false, ⟨fun hpos => ?_, fun _ => rfl⟩, (fun h => Bool.noConfusion h), fun _ => ?_⟩
          · have hk0 : 0 < k := by simpa using hpos
            rw [wrap_pred hk0 (Nat.le_of_lt hk') hxm]
            simp only [Int.toNat_natCast]
            refine ⟨by omega, by omega, fun y hy => ?_⟩
            have := dist_ne hp hxp (show k - 1 < k by omega) hy hx
            simpa using this
          · have ht : xs.take (k + 1) = xs.take k ++ [x] := take_snoc' hx
            have hfl : ((xs.take k).filter fun x => !(x.2 == d)).length ≤ xs.length := Nat.le_trans (List.length_filter_le ..) (by rw [List.length_take]; omega)
            refine ⟨fun hne => ⟨by simp only [List.length_cons, List.length_nil]; omega, k + 1, by omega, by omega, wrap_succ hk' hxm, ?_⟩, fun he => ⟨k + 1, by omega, by omega, wrap_succ hk' hxm, ?_⟩⟩
            · have : x.2 ≠ d := by simpa using hne
              rw [ht, List.filter_append]; simp [this]
            · have : x.2 = d := by simpa using he
              rw [ht, List.filter_append]; simp [this]
        · subst hk'
          refine ⟨fun h => by simp at h, fun _ => ?_⟩
          rw [List.take_length, hM]
          exact ⟨⟨rfl, rfl⟩, rfl⟩
      · rename_i h2; simp at h2; omega
      · rintro k ⟨hk1, hk2⟩ _
        rcases get_cases xs k hk2 with ⟨x, hx, hk'⟩ | ⟨hx, hk'⟩
        · refine ⟨fun _ => ⟨by omega, by simp only [Int.toNat_natCast]; omega, fun y hy => ?_⟩, fun h => by simp at h; omega⟩
          obtain rfl : x = y := by simpa [hx] using hy
          rw [wrap_pred hk1 (Nat.le_of_lt hk') hxm]
          simp only [Int.toNat_natCast]
          refine ⟨by omega, by omega, fun y1 hy1 => ?_⟩
          have hne := dist_ne hp hxp (show k - 1 < k by omega) hy1 hx
          refine ⟨fun h => ?_, fun _ => ⟨k + 1, by omega, by omega, wrap_succ hk' hxm⟩⟩
          simp at h
          exact absurd h.1.symm hne
        · refine ⟨fun h => by subst hk'; simp at h, fun _ _ => ?_⟩
          refine ⟨0, by simp, ⟨rfl, by simp⟩, ?_⟩
          clear hk1 hk2 hx hk'
          intro k hk
          rcases get_cases xs k hk with ⟨x, hx, hk'⟩ | ⟨hx, hk'⟩
          · refine ⟨fun _ => ⟨by omega, by simp only [Int.toNat_natCast]; omega, fun y hy => ?_⟩, fun h => by simp at h; omega⟩
            obtain rfl : x = y := by simpa [hx] using hy
            refine ⟨false, ⟨fun hpos => ?_, fun _ => rfl⟩, (fun h => Bool.noConfusion h), fun _ => ?_⟩
            · have hk0 : 0 < k := by simpa using hpos
              rw [wrap_pred hk0 (Nat.le_of_lt hk') hxm]
              simp only [Int.toNat_natCast]
              refine ⟨by omega, by omega, fun y hy => ?_⟩
              have := dist_ne hp hxp (show k - 1 < k by omega) hy hx
              simpa using this
            · have ht : xs.take (k + 1) = xs.take k ++ [x] := take_snoc' hx
              have hfl : ((xs.take k).filter fun x => !(x.2 == d)).length ≤ xs.length := Nat.le_trans (List.length_filter_le ..) (by rw [List.length_take]; omega)
              refine ⟨fun hne => ⟨by simp only [List.length_cons, List.length_nil]; omega, k + 1, by omega, by omega, wrap_succ hk' hxm, ?_⟩, fun he => ⟨k + 1, by omega, by omega, wrap_succ hk' hxm, ?_⟩⟩
              · have : x.2 ≠ d := by simpa using hne
                rw [ht, List.filter_append]; simp [this]
              · have : x.2 = d := by simpa using he
                rw [ht, List.filter_append]; simp [this]
          · subst hk'
            refine ⟨fun h => by simp at h, fun _ => ?_⟩
            rw [List.take_length, hM]
            exact ⟨⟨rfl, rfl⟩, rfl⟩
end Go.Proofs.YtblhojadchbcnaaDoor
namespace Go.Proofs.YtblhojadchbcnaaDoor
open Go.Proofs.YtblhojadchbcnaaDoor.Gx
set_option maxRecDepth 100000
set_option maxHeartbeats 0
noncomputable def p14 : Pv PP := ⟨14, _, ⟨rfl, makeE_ok⟩⟩
noncomputable def s68 : Sv PP := ⟨68, inl PP e0 Tryd.f68 c68, ⟨rfl, inl_ok (env_ok ..) rfl mixed rfl rfl⟩⟩
def idxDLoop (c : Int) : List (Nat × (St → Option LoopSpec)) :=
  [(2, fun (S : St) => match getT S.fr.tm 0 with
      | .row r => match (S.res[r]? : Option Res) with
        | some (Res.row _ (Ty.pair (Ty.int IntKind.i64) (Ty.int IntKind.i64)) base) => some { α := Nat, inv := fun i => i ≤ base.length ∧ (base.drop i).any (fun x => x.1 == c) = base.any (fun x => x.1 == c), ov := fun i => [(8, .int .i64 (i : Int))], rov := fun _ => [], meas := fun i => base.length - i }
        | _ => none
      | _ => none)]
noncomputable def s80d (c : Int) : Sv PP := ⟨80, inl PP (env PP [] [s68] [] [] (idxDLoop c)) Tryd.f80 c80, ⟨rfl, inl_ok (env_ok ..) rfl mixed rfl rfl⟩⟩
noncomputable def s67 (c : Int) : Sv PP := ⟨67, inl PP (env PP [] [s80d c, s68] [] [] []) Tryd.f67 c67, ⟨rfl, inl_ok (env_ok ..) rfl mixed rfl rfl⟩⟩
theorem withL_vc (l : Lab) (c v : Int) : fvc PP (env PP [p14] [s49, s67 c] [] [] []) Tryd.f35 c35 (ofArgs [lab, i64, i64] (l, c, v, ())) St0 (gives [lab, i64] ((withL l c v).1, (withL l c v).2, ())) = (
  ∃ (v_1 : Bool), ((decide (c < (1 : Int)) = false → (decide (c > (2305843009213693951 : Int)) = false → (decide (v < (0 : Int)) = false → decide (v > (5 : Int)) = v_1) ∧ (decide (v < (0 : Int)) = !false → true = v_1)) ∧ 
  (decide (c > (2305843009213693951 : Int)) = !false → true = v_1)) ∧ (decide (c < (1 : Int)) = !false → true = v_1)) ∧ (v_1 = true → (((0 : Int) = (withL l c v).fst.fst ∧ (withL l c v).fst.snd = [] ∧ True) ∧ (1 : Int) = 
  (withL l c v).snd ∧ True) ∧ True) ∧ (v_1 = false → decide (l.snd.length ≤ (1000000 : Nat)) = true ∧ (l.snd.length ≤ maxLen → ∃ (x0 : Nat), (x0 ≤ l.snd.length ∧ ((List.drop x0 l.snd).any fun (x : Int × Int) => x.fst == 
  c) = l.snd.any fun (x : Int × Int) => x.fst == c) ∧ ((((True ∧ True) ∧ True ∧ SV.val (Value.slice none (0 : Nat) (0 : Nat)) = SV.val (Value.slice none (0 : Nat) (0 : Nat)) ∧ True ∧ (True ∧ True) ∧ True) ∧ ((True ∧ 
  True) ∧ True ∧ l.snd = l.snd ∧ True ∧ false = false ∧ false = false ∧ (0 : Int) = (0 : Int) ∧ True ∧ True ∧ True ∧ (l.fst = l.fst ∧ l.snd = l.snd ∧ True) ∧ c = c ∧ v = v ∧ True) ∧ True ∧ True) ∧ ((0 : Int) = (↑x0 : 
  Int) ∧ (↑l.snd.length : Int) = (↑l.snd.length : Int) ∧ True ∧ (True ∧ True) ∧ True) ∧ (l.fst = l.fst ∧ l.snd = l.snd ∧ True) ∧ (c = c ∧ True) ∧ ((0 : Int) = (0 : Int) ∧ SV.val (Value.slice none (0 : Nat) (0 : Nat)) = 
  SV.val (Value.slice none (0 : Nat) (0 : Nat)) ∧ True) ∧ l.snd = l.snd ∧ True) ∧ ∀ (x : Nat), (x ≤ l.snd.length ∧ ((List.drop x l.snd).any fun (x : Int × Int) => x.fst == c) = l.snd.any fun (x : Int × Int) => x.fst == 
  c) → (decide ((↑x : Int) < (↑l.snd.length : Int)) = true → ((0 : Int) ≤ (↑x : Int) ∧ (↑x : Int) < (↑l.snd.length : Int)) ∧ (↑x : Int).toNat < l.snd.length ∧ ∀ (y : Int × Int), l.snd[(↑x : Int).toNat]? = some y → 
  ((y.fst == c) = true → (((↑x : Int) == (-1 : Int)) = true → (l.snd.length + [(c, v)].length) * (16 : Nat) ≤ (140737488355328 : Nat) ∧ dist (l.snd ++ [(c, v)]) = true ∧ (((makeE l.fst (l.snd ++ [(c, v)])).fst.fst = 
  (withL l c v).fst.fst ∧ (makeE l.fst (l.snd ++ [(c, v)])).fst.snd = (withL l c v).fst.snd ∧ True) ∧ (makeE l.fst (l.snd ++ [(c, v)])).snd = (withL l c v).snd ∧ True) ∧ True) ∧ (((↑x : Int) == (-1 : Int)) = false → 
  False)) ∧ ((y.fst == c) = false → ∃ (x' : Nat), (x' ≤ l.snd.length ∧ ((List.drop x' l.snd).any fun (x : Int × Int) => x.fst == c) = l.snd.any fun (x : Int × Int) => x.fst == c) ∧ l.snd.length - x' < l.snd.length - x ∧ 
  (((True ∧ True) ∧ True ∧ SV.val (Value.slice none (0 : Nat) (0 : Nat)) = SV.val (Value.slice none (0 : Nat) (0 : Nat)) ∧ True ∧ (True ∧ True) ∧ True) ∧ ((True ∧ True) ∧ True ∧ l.snd = l.snd ∧ True ∧ false = false ∧ 
  false = false ∧ (0 : Int) = (0 : Int) ∧ True ∧ True ∧ True ∧ (l.fst = l.fst ∧ l.snd = l.snd ∧ True) ∧ c = c ∧ v = v ∧ True) ∧ True ∧ True) ∧ (IntKind.i64.wrap ((↑x : Int) + (1 : Int)) = (↑x' : Int) ∧ (↑l.snd.length : 
  Int) = (↑l.snd.length : Int) ∧ True ∧ (True ∧ True) ∧ True) ∧ (l.fst = l.fst ∧ l.snd = l.snd ∧ True) ∧ (c = c ∧ True) ∧ ((0 : Int) = (0 : Int) ∧ SV.val (Value.slice none (0 : Nat) (0 : Nat)) = SV.val (Value.slice none 
  (0 : Nat) (0 : Nat)) ∧ True) ∧ l.snd = l.snd ∧ True)) ∧ (decide ((↑x : Int) < (↑l.snd.length : Int)) = false → (((-1 : Int) == (-1 : Int)) = true → (l.snd.length + [(c, v)].length) * (16 : Nat) ≤ (140737488355328 : 
  Nat) ∧ dist (l.snd ++ [(c, v)]) = true ∧ (((makeE l.fst (l.snd ++ [(c, v)])).fst.fst = (withL l c v).fst.fst ∧ (makeE l.fst (l.snd ++ [(c, v)])).fst.snd = (withL l c v).fst.snd ∧ True) ∧ (makeE l.fst (l.snd ++ [(c, 
  v)])).snd = (withL l c v).snd ∧ True) ∧ True) ∧ (((-1 : Int) == (-1 : Int)) = false → False))))) := by kernel_rfl
noncomputable def s65 : Sv PP := ⟨65, inl PP e0 Tryd.f65 c65, ⟨rfl, inl_ok (env_ok ..) rfl mixed rfl rfl⟩⟩
def bothLoop (f : Int → Int → Int) (a b : Lab) : List (Nat × (St → Option LoopSpec)) :=
  [(1, fun (S : St) => match getT S.fr.tm 0 with
      | .yld y => match (S.res[y]? : Option Res) with
        | some (Res.loop fr _ _ _) => match getT fr.tm 8 with
          | .ptr q _ => some { α := Nat × Nat × List (Int × Int), inv := fun x => (x.1 ≤ a.2.length ∧ x.2.1 ≤ b.2.length) ∧ x.2.2.length ≤ x.1 + x.2.1 ∧ x.2.2 ++ bothR f (f a.1 b.1) (levL a b x.1 x.2.1) = bothR f (f a.1 b.1) (levL a b 0 0), ov := fun x => [(4, .int .i64 (x.1 : Int)), (5, .int .i64 (x.2.1 : Int))], rov := fun x => [(q, .blk 0 [.int .i64 (f a.1 b.1), .row S.res.length]), (S.res.length, .row 0 ent x.2.2)], meas := fun x => a.2.length + b.2.length - x.1 - x.2.1, nil := [(.cell q 1, 25, ent)] }
          | _ => none
        | _ => none
      | _ => none)]
noncomputable def eBoth (f : Int → Int → Int) (a b : Lab) : Env := env PP [p55] [s65, ⟨61, inl PP (env PP [] [] [] [] []) Tryd.f61 c61, ⟨rfl, inl_ok (env_ok ..) rfl mixed rfl rfl⟩⟩]
  [⟨78, inlY PP (env PP [] [] [] [] (bothLoop f a b)) Tryd.f78 c78, ⟨rfl, inlY_ok (env_ok ..) mixed rfl rfl⟩⟩] [] []
noncomputable def s64 (f : Int → Int → Int) (a b : Lab) : Sv PP := ⟨64, inl PP (eBoth f a b) Tryd.f64 c64, ⟨rfl, inl_ok (env_ok ..) rfl mixed rfl rfl⟩⟩
theorem join_vc (a b : Lab) : fvc PP (env PP [] [s64 maxI a b] [] [] []) Tryd.f27 c27 (ofArgs [lab, lab] (a, b, ())) St0 (gives [lab, i64] ((bothL max a b).1, (bothL max a b).2, ())) = (
  ∃ (x0 : Nat × Nat × List (Int × Int)), ((x0.fst ≤ a.snd.length ∧ x0.snd.fst ≤ b.snd.length) ∧ x0.snd.snd.length ≤ x0.fst + x0.snd.fst ∧ x0.snd.snd ++ bothR maxI (maxI a.fst b.fst) (levL a b x0.fst x0.snd.fst) = bothR 
  maxI (maxI a.fst b.fst) (levL a b (0 : Nat) (0 : Nat))) ∧ ((((True ∧ True ∧ True) ∧ True ∧ (0 : Int) = (0 : Int) ∧ True ∧ True ∧ True ∧ True ∧ (a.fst = a.fst ∧ a.snd = a.snd ∧ True) ∧ (b.fst = b.fst ∧ b.snd = b.snd ∧ 
  True) ∧ True ∧ True) ∧ ((b.fst = b.fst ∧ b.snd = b.snd ∧ True) ∧ (a.fst = a.fst ∧ a.snd = a.snd ∧ True) ∧ (0 : Int) = (0 : Int) ∧ True ∧ True ∧ True ∧ (a.fst = a.fst ∧ a.snd = a.snd ∧ True) ∧ (b.fst = b.fst ∧ b.snd = 
  b.snd ∧ True) ∧ True) ∧ True ∧ True) ∧ ((0 : Int) = (↑x0.fst : Int) ∧ (0 : Int) = (↑x0.snd.fst : Int) ∧ True ∧ True ∧ True ∧ True) ∧ (a.fst = a.fst ∧ a.snd = a.snd ∧ True) ∧ (b.fst = b.fst ∧ b.snd = b.snd ∧ True) ∧ ((0 
  : Int) = (0 : Int) ∧ SV.val (Value.slice none (0 : Nat) (0 : Nat)) = SV.val (Value.slice none (0 : Nat) (0 : Nat)) ∧ True) ∧ (a.fst = a.fst ∧ a.snd = a.snd ∧ True) ∧ (b.fst = b.fst ∧ b.snd = b.snd ∧ True) ∧ (True ∧ 
  True) ∧ ((0 : Int) = (0 : Int) ∧ SV.val (Value.slice none (0 : Nat) (0 : Nat)) = SV.val (Value.slice none (0 : Nat) (0 : Nat)) ∧ True) ∧ (maxI a.fst b.fst = maxI a.fst b.fst ∧ True ∧ True) ∧ (a.fst = a.fst ∧ a.snd = 
  a.snd ∧ True) ∧ (b.fst = b.fst ∧ b.snd = b.snd ∧ True) ∧ True ∧ ((True ∧ True ∧ True) ∧ True ∧ (0 : Int) = (0 : Int) ∧ True ∧ True ∧ True ∧ True ∧ (a.fst = a.fst ∧ a.snd = a.snd ∧ True) ∧ (b.fst = b.fst ∧ b.snd = b.snd 
  ∧ True) ∧ True ∧ True) ∧ [] = x0.snd.snd ∧ True) ∧ ∀ (x : Nat × Nat × List (Int × Int)), (x.fst ≤ a.snd.length ∧ x.snd.fst ≤ b.snd.length) ∧ x.snd.snd.length ≤ x.fst + x.snd.fst ∧ x.snd.snd ++ bothR maxI (maxI a.fst 
  b.fst) (levL a b x.fst x.snd.fst) = bothR maxI (maxI a.fst b.fst) (levL a b (0 : Nat) (0 : Nat)) → ∃ (v : Bool), (a.snd.length ≤ maxLen → (decide ((↑x.fst : Int) < (↑a.snd.length : Int)) = false → b.snd.length ≤ maxLen 
  → decide ((↑x.snd.fst : Int) < (↑b.snd.length : Int)) = v) ∧ (decide ((↑x.fst : Int) < (↑a.snd.length : Int)) = !false → true = v)) ∧ (v = true → ∃ (v : Bool), ((decide ((↑x.snd.fst : Int) ≥ (↑b.snd.length : Int)) = 
  false → (decide ((↑x.fst : Int) < (↑a.snd.length : Int)) = true → ((0 : Int) ≤ (↑x.fst : Int) ∧ (↑x.fst : Int) < (↑a.snd.length : Int)) ∧ ∀ (y : Int × Int), a.snd[(↑x.fst : Int).toNat]? = some y → ((0 : Int) ≤ 
  (↑x.snd.fst : Int) ∧ (↑x.snd.fst : Int) < (↑b.snd.length : Int)) ∧ ∀ (y_1 : Int × Int), b.snd[(↑x.snd.fst : Int).toNat]? = some y_1 → decide (y.fst ≤ y_1.fst) = v) ∧ (decide ((↑x.fst : Int) < (↑a.snd.length : Int)) = 
  !true → false = v)) ∧ (decide ((↑x.snd.fst : Int) ≥ (↑b.snd.length : Int)) = !false → true = v)) ∧ ∃ (v_1 : Bool), ((decide ((↑x.fst : Int) ≥ (↑a.snd.length : Int)) = false → (decide ((↑x.snd.fst : Int) < 
  (↑b.snd.length : Int)) = true → ((0 : Int) ≤ (↑x.snd.fst : Int) ∧ (↑x.snd.fst : Int) < (↑b.snd.length : Int)) ∧ ∀ (y : Int × Int), b.snd[(↑x.snd.fst : Int).toNat]? = some y → ((0 : Int) ≤ (↑x.fst : Int) ∧ (↑x.fst : 
  Int) < (↑a.snd.length : Int)) ∧ ∀ (y_1 : Int × Int), a.snd[(↑x.fst : Int).toNat]? = some y_1 → decide (y.fst ≤ y_1.fst) = v_1) ∧ (decide ((↑x.snd.fst : Int) < (↑b.snd.length : Int)) = !true → false = v_1)) ∧ (decide 
  ((↑x.fst : Int) ≥ (↑a.snd.length : Int)) = !false → true = v_1)) ∧ (v = true → ((0 : Int) ≤ (↑x.fst : Int) ∧ (↑x.fst : Int) < (↑a.snd.length : Int)) ∧ ∀ (y : Int × Int), a.snd[(↑x.fst : Int).toNat]? = some y → (v_1 = 
  true → ((0 : Int) ≤ (↑x.snd.fst : Int) ∧ (↑x.snd.fst : Int) < (↑b.snd.length : Int)) ∧ ∀ (y_1 : Int × Int), b.snd[(↑x.snd.fst : Int).toNat]? = some y_1 → ((0 : Int) ≤ (0 : Int) ∧ (0 : Int) < (↑(2 : Nat) : Int)) ∧ ((0 : 
  Int) ≤ (1 : Int) ∧ (1 : Int) < (↑(2 : Nat) : Int)) ∧ ((maxI y.snd y_1.snd != maxI a.fst b.fst) = true → (x.snd.snd.length + [(maxI y.fst y_1.fst, maxI y.snd y_1.snd)].length) * (16 : Nat) ≤ (140737488355328 : Nat) ∧ ∃ 
  (x' : Nat × Nat × List (Int × Int)), ((x'.fst ≤ a.snd.length ∧ x'.snd.fst ≤ b.snd.length) ∧ x'.snd.snd.length ≤ x'.fst + x'.snd.fst ∧ x'.snd.snd ++ bothR maxI (maxI a.fst b.fst) (levL a b x'.fst x'.snd.fst) = bothR 
  maxI (maxI a.fst b.fst) (levL a b (0 : Nat) (0 : Nat))) ∧ a.snd.length + b.snd.length - x'.fst - x'.snd.fst < a.snd.length + b.snd.length - x.fst - x.snd.fst ∧ (((True ∧ True ∧ True) ∧ True ∧ (0 : Int) = (0 : Int) ∧ 
  True ∧ True ∧ True ∧ True ∧ (a.fst = a.fst ∧ a.snd = a.snd ∧ True) ∧ (b.fst = b.fst ∧ b.snd = b.snd ∧ True) ∧ True ∧ True) ∧ ((b.fst = b.fst ∧ b.snd = b.snd ∧ True) ∧ (a.fst = a.fst ∧ a.snd = a.snd ∧ True) ∧ (0 : Int) 
  = (0 : Int) ∧ True ∧ True ∧ True ∧ (a.fst = a.fst ∧ a.snd = a.snd ∧ True) ∧ (b.fst = b.fst ∧ b.snd = b.snd ∧ True) ∧ True) ∧ True ∧ True) ∧ (IntKind.i64.wrap ((↑x.fst : Int) + (1 : Int)) = (↑x'.fst : Int) ∧ 
  IntKind.i64.wrap ((↑x.snd.fst : Int) + (1 : Int)) = (↑x'.snd.fst : Int) ∧ True ∧ True ∧ True ∧ True) ∧ (a.fst = a.fst ∧ a.snd = a.snd ∧ True) ∧ (b.fst = b.fst ∧ b.snd = b.snd ∧ True) ∧ ((0 : Int) = (0 : Int) ∧ SV.val 
  (Value.slice none (0 : Nat) (0 : Nat)) = SV.val (Value.slice none (0 : Nat) (0 : Nat)) ∧ True) ∧ (a.fst = a.fst ∧ a.snd = a.snd ∧ True) ∧ (b.fst = b.fst ∧ b.snd = b.snd ∧ True) ∧ (True ∧ True) ∧ ((0 : Int) = (0 : Int) 
  ∧ SV.val (Value.slice none (0 : Nat) (0 : Nat)) = SV.val (Value.slice none (0 : Nat) (0 : Nat)) ∧ True) ∧ (maxI a.fst b.fst = maxI a.fst b.fst ∧ True ∧ True) ∧ (a.fst = a.fst ∧ a.snd = a.snd ∧ True) ∧ (b.fst = b.fst ∧ 
  b.snd = b.snd ∧ True) ∧ True ∧ ((True ∧ True ∧ True) ∧ True ∧ (0 : Int) = (0 : Int) ∧ True ∧ True ∧ True ∧ True ∧ (a.fst = a.fst ∧ a.snd = a.snd ∧ True) ∧ (b.fst = b.fst ∧ b.snd = b.snd ∧ True) ∧ True ∧ True) ∧ 
  x.snd.snd ++ [(maxI y.fst y_1.fst, maxI y.snd y_1.snd)] = x'.snd.snd ∧ True) ∧ ((maxI y.snd y_1.snd != maxI a.fst b.fst) = false → ∃ (x' : Nat × Nat × List (Int × Int)), ((x'.fst ≤ a.snd.length ∧ x'.snd.fst ≤ 
  b.snd.length) ∧ x'.snd.snd.length ≤ x'.fst + x'.snd.fst ∧ x'.snd.snd ++ bothR maxI (maxI a.fst b.fst) (levL a b x'.fst x'.snd.fst) = bothR maxI (maxI a.fst b.fst) (levL a b (0 : Nat) (0 : Nat))) ∧ a.snd.length + 
  b.snd.length - x'.fst - x'.snd.fst < a.snd.length + b.snd.length - x.fst - x.snd.fst ∧ (((True ∧ True ∧ True) ∧ True ∧ (0 : Int) = (0 : Int) ∧ True ∧ True ∧ True ∧ True ∧ (a.fst = a.fst ∧ a.snd = a.snd ∧ True) ∧ (b.fst 
  = b.fst ∧ b.snd = b.snd ∧ True) ∧ True ∧ True) ∧ ((b.fst = b.fst ∧ b.snd = b.snd ∧ True) ∧ (a.fst = a.fst ∧ a.snd = a.snd ∧ True) ∧ (0 : Int) = (0 : Int) ∧ True ∧ True ∧ True ∧ (a.fst = a.fst ∧ a.snd = a.snd ∧ True) ∧ 
  (b.fst = b.fst ∧ b.snd = b.snd ∧ True) ∧ True) ∧ True ∧ True) ∧ (IntKind.i64.wrap ((↑x.fst : Int) + (1 : Int)) = (↑x'.fst : Int) ∧ IntKind.i64.wrap ((↑x.snd.fst : Int) + (1 : Int)) = (↑x'.snd.fst : Int) ∧ True ∧ True ∧ 
  True ∧ True) ∧ (a.fst = a.fst ∧ a.snd = a.snd ∧ True) ∧ (b.fst = b.fst ∧ b.snd = b.snd ∧ True) ∧ ((0 : Int) = (0 : Int) ∧ SV.val (Value.slice none (0 : Nat) (0 : Nat)) = SV.val (Value.slice none (0 : Nat) (0 : Nat)) ∧ 
  True) ∧ (a.fst = a.fst ∧ a.snd = a.snd ∧ True) ∧ (b.fst = b.fst ∧ b.snd = b.snd ∧ True) ∧ (True ∧ True) ∧ ((0 : Int) = (0 : Int) ∧ SV.val (Value.slice none (0 : Nat) (0 : Nat)) = SV.val (Value.slice none (0 : Nat) (0 : 
  Nat)) ∧ True) ∧ (maxI a.fst b.fst = maxI a.fst b.fst ∧ True ∧ True) ∧ (a.fst = a.fst ∧ a.snd = a.snd ∧ True) ∧ (b.fst = b.fst ∧ b.snd = b.snd ∧ True) ∧ True ∧ ((True ∧ True ∧ True) ∧ True ∧ (0 : Int) = (0 : Int) ∧ True 
  ∧ True ∧ True ∧ True ∧ (a.fst = a.fst ∧ a.snd = a.snd ∧ True) ∧ (b.fst = b.fst ∧ b.snd = b.snd ∧ True) ∧ True ∧ True) ∧ x.snd.snd = x'.snd.snd ∧ True)) ∧ (v_1 = false → ((0 : Int) ≤ (0 : Int) ∧ (0 : Int) < (↑(2 : Nat) 
  : Int)) ∧ ((0 : Int) ≤ (1 : Int) ∧ (1 : Int) < (↑(2 : Nat) : Int)) ∧ ((maxI y.snd b.fst != maxI a.fst b.fst) = true → (x.snd.snd.length + [(maxI y.fst (0 : Int), maxI y.snd b.fst)].length) * (16 : Nat) ≤ 
  (140737488355328 : Nat) ∧ ∃ (x' : Nat × Nat × List (Int × Int)), ((x'.fst ≤ a.snd.length ∧ x'.snd.fst ≤ b.snd.length) ∧ x'.snd.snd.length ≤ x'.fst + x'.snd.fst ∧ x'.snd.snd ++ bothR maxI (maxI a.fst b.fst) (levL a b 
  x'.fst x'.snd.fst) = bothR maxI (maxI a.fst b.fst) (levL a b (0 : Nat) (0 : Nat))) ∧ a.snd.length + b.snd.length - x'.fst - x'.snd.fst < a.snd.length + b.snd.length - x.fst - x.snd.fst ∧ (((True ∧ True ∧ True) ∧ True ∧ 
  (0 : Int) = (0 : Int) ∧ True ∧ True ∧ True ∧ True ∧ (a.fst = a.fst ∧ a.snd = a.snd ∧ True) ∧ (b.fst = b.fst ∧ b.snd = b.snd ∧ True) ∧ True ∧ True) ∧ ((b.fst = b.fst ∧ b.snd = b.snd ∧ True) ∧ (a.fst = a.fst ∧ a.snd = 
  a.snd ∧ True) ∧ (0 : Int) = (0 : Int) ∧ True ∧ True ∧ True ∧ (a.fst = a.fst ∧ a.snd = a.snd ∧ True) ∧ (b.fst = b.fst ∧ b.snd = b.snd ∧ True) ∧ True) ∧ True ∧ True) ∧ (IntKind.i64.wrap ((↑x.fst : Int) + (1 : Int)) = 
  (↑x'.fst : Int) ∧ (↑x.snd.fst : Int) = (↑x'.snd.fst : Int) ∧ True ∧ True ∧ True ∧ True) ∧ (a.fst = a.fst ∧ a.snd = a.snd ∧ True) ∧ (b.fst = b.fst ∧ b.snd = b.snd ∧ True) ∧ ((0 : Int) = (0 : Int) ∧ SV.val (Value.slice 
  none (0 : Nat) (0 : Nat)) = SV.val (Value.slice none (0 : Nat) (0 : Nat)) ∧ True) ∧ (a.fst = a.fst ∧ a.snd = a.snd ∧ True) ∧ (b.fst = b.fst ∧ b.snd = b.snd ∧ True) ∧ (True ∧ True) ∧ ((0 : Int) = (0 : Int) ∧ SV.val 
  (Value.slice none (0 : Nat) (0 : Nat)) = SV.val (Value.slice none (0 : Nat) (0 : Nat)) ∧ True) ∧ (maxI a.fst b.fst = maxI a.fst b.fst ∧ True ∧ True) ∧ (a.fst = a.fst ∧ a.snd = a.snd ∧ True) ∧ (b.fst = b.fst ∧ b.snd = 
  b.snd ∧ True) ∧ True ∧ ((True ∧ True ∧ True) ∧ True ∧ (0 : Int) = (0 : Int) ∧ True ∧ True ∧ True ∧ True ∧ (a.fst = a.fst ∧ a.snd = a.snd ∧ True) ∧ (b.fst = b.fst ∧ b.snd = b.snd ∧ True) ∧ True ∧ True) ∧ x.snd.snd ++ 
  [(maxI y.fst (0 : Int), maxI y.snd b.fst)] = x'.snd.snd ∧ True) ∧ ((maxI y.snd b.fst != maxI a.fst b.fst) = false → ∃ (x' : Nat × Nat × List (Int × Int)), ((x'.fst ≤ a.snd.length ∧ x'.snd.fst ≤ b.snd.length) ∧ 
  x'.snd.snd.length ≤ x'.fst + x'.snd.fst ∧ x'.snd.snd ++ bothR maxI (maxI a.fst b.fst) (levL a b x'.fst x'.snd.fst) = bothR maxI (maxI a.fst b.fst) (levL a b (0 : Nat) (0 : Nat))) ∧ a.snd.length + b.snd.length - x'.fst 
  - x'.snd.fst < a.snd.length + b.snd.length - x.fst - x.snd.fst ∧ (((True ∧ True ∧ True) ∧ True ∧ (0 : Int) = (0 : Int) ∧ True ∧ True ∧ True ∧ True ∧ (a.fst = a.fst ∧ a.snd = a.snd ∧ True) ∧ (b.fst = b.fst ∧ b.snd = 
  b.snd ∧ True) ∧ True ∧ True) ∧ ((b.fst = b.fst ∧ b.snd = b.snd ∧ True) ∧ (a.fst = a.fst ∧ a.snd = a.snd ∧ True) ∧ (0 : Int) = (0 : Int) ∧ True ∧ True ∧ True ∧ (a.fst = a.fst ∧ a.snd = a.snd ∧ True) ∧ (b.fst = b.fst ∧ 
  b.snd = b.snd ∧ True) ∧ True) ∧ True ∧ True) ∧ (IntKind.i64.wrap ((↑x.fst : Int) + (1 : Int)) = (↑x'.fst : Int) ∧ (↑x.snd.fst : Int) = (↑x'.snd.fst : Int) ∧ True ∧ True ∧ True ∧ True) ∧ (a.fst = a.fst ∧ a.snd = a.snd ∧ 
  True) ∧ (b.fst = b.fst ∧ b.snd = b.snd ∧ True) ∧ ((0 : Int) = (0 : Int) ∧ SV.val (Value.slice none (0 : Nat) (0 : Nat)) = SV.val (Value.slice none (0 : Nat) (0 : Nat)) ∧ True) ∧ (a.fst = a.fst ∧ a.snd = a.snd ∧ True) ∧ 
  (b.fst = b.fst ∧ b.snd = b.snd ∧ True) ∧ (True ∧ True) ∧ ((0 : Int) = (0 : Int) ∧ SV.val (Value.slice none (0 : Nat) (0 : Nat)) = SV.val (Value.slice none (0 : Nat) (0 : Nat)) ∧ True) ∧ (maxI a.fst b.fst = maxI a.fst 
  b.fst ∧ True ∧ True) ∧ (a.fst = a.fst ∧ a.snd = a.snd ∧ True) ∧ (b.fst = b.fst ∧ b.snd = b.snd ∧ True) ∧ True ∧ ((True ∧ True ∧ True) ∧ True ∧ (0 : Int) = (0 : Int) ∧ True ∧ True ∧ True ∧ True ∧ (a.fst = a.fst ∧ a.snd 
  = a.snd ∧ True) ∧ (b.fst = b.fst ∧ b.snd = b.snd ∧ True) ∧ True ∧ True) ∧ x.snd.snd = x'.snd.snd ∧ True))) ∧ (v = false → (v_1 = true → ((0 : Int) ≤ (↑x.snd.fst : Int) ∧ (↑x.snd.fst : Int) < (↑b.snd.length : Int)) ∧ ∀ 
  (y : Int × Int), b.snd[(↑x.snd.fst : Int).toNat]? = some y → ((0 : Int) ≤ (0 : Int) ∧ (0 : Int) < (↑(2 : Nat) : Int)) ∧ ((0 : Int) ≤ (1 : Int) ∧ (1 : Int) < (↑(2 : Nat) : Int)) ∧ ((maxI a.fst y.snd != maxI a.fst b.fst) 
  = true → (x.snd.snd.length + [(maxI (0 : Int) y.fst, maxI a.fst y.snd)].length) * (16 : Nat) ≤ (140737488355328 : Nat) ∧ ∃ (x' : Nat × Nat × List (Int × Int)), ((x'.fst ≤ a.snd.length ∧ x'.snd.fst ≤ b.snd.length) ∧ 
  x'.snd.snd.length ≤ x'.fst + x'.snd.fst ∧ x'.snd.snd ++ bothR maxI (maxI a.fst b.fst) (levL a b x'.fst x'.snd.fst) = bothR maxI (maxI a.fst b.fst) (levL a b (0 : Nat) (0 : Nat))) ∧ a.snd.length + b.snd.length - x'.fst 
  - x'.snd.fst < a.snd.length + b.snd.length - x.fst - x.snd.fst ∧ (((True ∧ True ∧ True) ∧ True ∧ (0 : Int) = (0 : Int) ∧ True ∧ True ∧ True ∧ True ∧ (a.fst = a.fst ∧ a.snd = a.snd ∧ True) ∧ (b.fst = b.fst ∧ b.snd = 
  b.snd ∧ True) ∧ True ∧ True) ∧ ((b.fst = b.fst ∧ b.snd = b.snd ∧ True) ∧ (a.fst = a.fst ∧ a.snd = a.snd ∧ True) ∧ (0 : Int) = (0 : Int) ∧ True ∧ True ∧ True ∧ (a.fst = a.fst ∧ a.snd = a.snd ∧ True) ∧ (b.fst = b.fst ∧ 
  b.snd = b.snd ∧ True) ∧ True) ∧ True ∧ True) ∧ ((↑x.fst : Int) = (↑x'.fst : Int) ∧ IntKind.i64.wrap ((↑x.snd.fst : Int) + (1 : Int)) = (↑x'.snd.fst : Int) ∧ True ∧ True ∧ True ∧ True) ∧ (a.fst = a.fst ∧ a.snd = a.snd ∧ 
  True) ∧ (b.fst = b.fst ∧ b.snd = b.snd ∧ True) ∧ ((0 : Int) = (0 : Int) ∧ SV.val (Value.slice none (0 : Nat) (0 : Nat)) = SV.val (Value.slice none (0 : Nat) (0 : Nat)) ∧ True) ∧ (a.fst = a.fst ∧ a.snd = a.snd ∧ True) ∧ 
  (b.fst = b.fst ∧ b.snd = b.snd ∧ True) ∧ (True ∧ True) ∧ ((0 : Int) = (0 : Int) ∧ SV.val (Value.slice none (0 : Nat) (0 : Nat)) = SV.val (Value.slice none (0 : Nat) (0 : Nat)) ∧ True) ∧ (maxI a.fst b.fst = maxI a.fst 
  b.fst ∧ True ∧ True) ∧ (a.fst = a.fst ∧ a.snd = a.snd ∧ True) ∧ (b.fst = b.fst ∧ b.snd = b.snd ∧ True) ∧ True ∧ ((True ∧ True ∧ True) ∧ True ∧ (0 : Int) = (0 : Int) ∧ True ∧ True ∧ True ∧ True ∧ (a.fst = a.fst ∧ a.snd 
  = a.snd ∧ True) ∧ (b.fst = b.fst ∧ b.snd = b.snd ∧ True) ∧ True ∧ True) ∧ x.snd.snd ++ [(maxI (0 : Int) y.fst, maxI a.fst y.snd)] = x'.snd.snd ∧ True) ∧ ((maxI a.fst y.snd != maxI a.fst b.fst) = false → ∃ (x' : Nat × 
  Nat × List (Int × Int)), ((x'.fst ≤ a.snd.length ∧ x'.snd.fst ≤ b.snd.length) ∧ x'.snd.snd.length ≤ x'.fst + x'.snd.fst ∧ x'.snd.snd ++ bothR maxI (maxI a.fst b.fst) (levL a b x'.fst x'.snd.fst) = bothR maxI (maxI 
  a.fst b.fst) (levL a b (0 : Nat) (0 : Nat))) ∧ a.snd.length + b.snd.length - x'.fst - x'.snd.fst < a.snd.length + b.snd.length - x.fst - x.snd.fst ∧ (((True ∧ True ∧ True) ∧ True ∧ (0 : Int) = (0 : Int) ∧ True ∧ True ∧ 
  True ∧ True ∧ (a.fst = a.fst ∧ a.snd = a.snd ∧ True) ∧ (b.fst = b.fst ∧ b.snd = b.snd ∧ True) ∧ True ∧ True) ∧ ((b.fst = b.fst ∧ b.snd = b.snd ∧ True) ∧ (a.fst = a.fst ∧ a.snd = a.snd ∧ True) ∧ (0 : Int) = (0 : Int) ∧ 
  True ∧ True ∧ True ∧ (a.fst = a.fst ∧ a.snd = a.snd ∧ True) ∧ (b.fst = b.fst ∧ b.snd = b.snd ∧ True) ∧ True) ∧ True ∧ True) ∧ ((↑x.fst : Int) = (↑x'.fst : Int) ∧ IntKind.i64.wrap ((↑x.snd.fst : Int) + (1 : Int)) = 
  (↑x'.snd.fst : Int) ∧ True ∧ True ∧ True ∧ True) ∧ (a.fst = a.fst ∧ a.snd = a.snd ∧ True) ∧ (b.fst = b.fst ∧ b.snd = b.snd ∧ True) ∧ ((0 : Int) = (0 : Int) ∧ SV.val (Value.slice none (0 : Nat) (0 : Nat)) = SV.val 
  (Value.slice none (0 : Nat) (0 : Nat)) ∧ True) ∧ (a.fst = a.fst ∧ a.snd = a.snd ∧ True) ∧ (b.fst = b.fst ∧ b.snd = b.snd ∧ True) ∧ (True ∧ True) ∧ ((0 : Int) = (0 : Int) ∧ SV.val (Value.slice none (0 : Nat) (0 : Nat)) 
  = SV.val (Value.slice none (0 : Nat) (0 : Nat)) ∧ True) ∧ (maxI a.fst b.fst = maxI a.fst b.fst ∧ True ∧ True) ∧ (a.fst = a.fst ∧ a.snd = a.snd ∧ True) ∧ (b.fst = b.fst ∧ b.snd = b.snd ∧ True) ∧ True ∧ ((True ∧ True ∧ 
  True) ∧ True ∧ (0 : Int) = (0 : Int) ∧ True ∧ True ∧ True ∧ True ∧ (a.fst = a.fst ∧ a.snd = a.snd ∧ True) ∧ (b.fst = b.fst ∧ b.snd = b.snd ∧ True) ∧ True ∧ True) ∧ x.snd.snd = x'.snd.snd ∧ True)) ∧ (v_1 = false → ((0 : 
  Int) ≤ (0 : Int) ∧ (0 : Int) < (↑(2 : Nat) : Int)) ∧ ((0 : Int) ≤ (1 : Int) ∧ (1 : Int) < (↑(2 : Nat) : Int)) ∧ ((maxI a.fst b.fst != maxI a.fst b.fst) = true → (x.snd.snd.length + [(maxI (0 : Int) (0 : Int), maxI 
  a.fst b.fst)].length) * (16 : Nat) ≤ (140737488355328 : Nat) ∧ ∃ (x' : Nat × Nat × List (Int × Int)), ((x'.fst ≤ a.snd.length ∧ x'.snd.fst ≤ b.snd.length) ∧ x'.snd.snd.length ≤ x'.fst + x'.snd.fst ∧ x'.snd.snd ++ bothR 
  maxI (maxI a.fst b.fst) (levL a b x'.fst x'.snd.fst) = bothR maxI (maxI a.fst b.fst) (levL a b (0 : Nat) (0 : Nat))) ∧ a.snd.length + b.snd.length - x'.fst - x'.snd.fst < a.snd.length + b.snd.length - x.fst - x.snd.fst 
  ∧ (((True ∧ True ∧ True) ∧ True ∧ (0 : Int) = (0 : Int) ∧ True ∧ True ∧ True ∧ True ∧ (a.fst = a.fst ∧ a.snd = a.snd ∧ True) ∧ (b.fst = b.fst ∧ b.snd = b.snd ∧ True) ∧ True ∧ True) ∧ ((b.fst = b.fst ∧ b.snd = b.snd ∧ 
  True) ∧ (a.fst = a.fst ∧ a.snd = a.snd ∧ True) ∧ (0 : Int) = (0 : Int) ∧ True ∧ True ∧ True ∧ (a.fst = a.fst ∧ a.snd = a.snd ∧ True) ∧ (b.fst = b.fst ∧ b.snd = b.snd ∧ True) ∧ True) ∧ True ∧ True) ∧ ((↑x.fst : Int) = 
  (↑x'.fst : Int) ∧ (↑x.snd.fst : Int) = (↑x'.snd.fst : Int) ∧ True ∧ True ∧ True ∧ True) ∧ (a.fst = a.fst ∧ a.snd = a.snd ∧ True) ∧ (b.fst = b.fst ∧ b.snd = b.snd ∧ True) ∧ ((0 : Int) = (0 : Int) ∧ SV.val (Value.slice 
  none (0 : Nat) (0 : Nat)) = SV.val (Value.slice none (0 : Nat) (0 : Nat)) ∧ True) ∧ (a.fst = a.fst ∧ a.snd = a.snd ∧ True) ∧ (b.fst = b.fst ∧ b.snd = b.snd ∧ True) ∧ (True ∧ True) ∧ ((0 : Int) = (0 : Int) ∧ SV.val 
  (Value.slice none (0 : Nat) (0 : Nat)) = SV.val (Value.slice none (0 : Nat) (0 : Nat)) ∧ True) ∧ (maxI a.fst b.fst = maxI a.fst b.fst ∧ True ∧ True) ∧ (a.fst = a.fst ∧ a.snd = a.snd ∧ True) ∧ (b.fst = b.fst ∧ b.snd = 
  b.snd ∧ True) ∧ True ∧ ((True ∧ True ∧ True) ∧ True ∧ (0 : Int) = (0 : Int) ∧ True ∧ True ∧ True ∧ True ∧ (a.fst = a.fst ∧ a.snd = a.snd ∧ True) ∧ (b.fst = b.fst ∧ b.snd = b.snd ∧ True) ∧ True ∧ True) ∧ x.snd.snd ++ 
  [(maxI (0 : Int) (0 : Int), maxI a.fst b.fst)] = x'.snd.snd ∧ True) ∧ ((maxI a.fst b.fst != maxI a.fst b.fst) = false → ∃ (x' : Nat × Nat × List (Int × Int)), ((x'.fst ≤ a.snd.length ∧ x'.snd.fst ≤ b.snd.length) ∧ 
  x'.snd.snd.length ≤ x'.fst + x'.snd.fst ∧ x'.snd.snd ++ bothR maxI (maxI a.fst b.fst) (levL a b x'.fst x'.snd.fst) = bothR maxI (maxI a.fst b.fst) (levL a b (0 : Nat) (0 : Nat))) ∧ a.snd.length + b.snd.length - x'.fst 
  - x'.snd.fst < a.snd.length + b.snd.length - x.fst - x.snd.fst ∧ (((True ∧ True ∧ True) ∧ True ∧ (0 : Int) = (0 : Int) ∧ True ∧ True ∧ True ∧ True ∧ (a.fst = a.fst ∧ a.snd = a.snd ∧ True) ∧ (b.fst = b.fst ∧ b.snd = 
  b.snd ∧ True) ∧ True ∧ True) ∧ ((b.fst = b.fst ∧ b.snd = b.snd ∧ True) ∧ (a.fst = a.fst ∧ a.snd = a.snd ∧ True) ∧ (0 : Int) = (0 : Int) ∧ True ∧ True ∧ True ∧ (a.fst = a.fst ∧ a.snd = a.snd ∧ True) ∧ (b.fst = b.fst ∧ 
  b.snd = b.snd ∧ True) ∧ True) ∧ True ∧ True) ∧ ((↑x.fst : Int) = (↑x'.fst : Int) ∧ (↑x.snd.fst : Int) = (↑x'.snd.fst : Int) ∧ True ∧ True ∧ True ∧ True) ∧ (a.fst = a.fst ∧ a.snd = a.snd ∧ True) ∧ (b.fst = b.fst ∧ b.snd 
  = b.snd ∧ True) ∧ ((0 : Int) = (0 : Int) ∧ SV.val (Value.slice none (0 : Nat) (0 : Nat)) = SV.val (Value.slice none (0 : Nat) (0 : Nat)) ∧ True) ∧ (a.fst = a.fst ∧ a.snd = a.snd ∧ True) ∧ (b.fst = b.fst ∧ b.snd = b.snd 
  ∧ True) ∧ (True ∧ True) ∧ ((0 : Int) = (0 : Int) ∧ SV.val (Value.slice none (0 : Nat) (0 : Nat)) = SV.val (Value.slice none (0 : Nat) (0 : Nat)) ∧ True) ∧ (maxI a.fst b.fst = maxI a.fst b.fst ∧ True ∧ True) ∧ (a.fst = 
  a.fst ∧ a.snd = a.snd ∧ True) ∧ (b.fst = b.fst ∧ b.snd = b.snd ∧ True) ∧ True ∧ ((True ∧ True ∧ True) ∧ True ∧ (0 : Int) = (0 : Int) ∧ True ∧ True ∧ True ∧ True ∧ (a.fst = a.fst ∧ a.snd = a.snd ∧ True) ∧ (b.fst = b.fst 
  ∧ b.snd = b.snd ∧ True) ∧ True ∧ True) ∧ x.snd.snd = x'.snd.snd ∧ True)))) ∧ (v = false → true = true ∧ (((wholeL (maxI a.fst b.fst, x.snd.snd)).fst.fst = (bothL max a b).fst.fst ∧ (wholeL (maxI a.fst b.fst, 
  x.snd.snd)).fst.snd = (bothL max a b).fst.snd ∧ True) ∧ (wholeL (maxI a.fst b.fst, x.snd.snd)).snd = (bothL max a b).snd ∧ True) ∧ True)) := by kernel_rfl
theorem down_vc (l : Lab) : fvc PP (eP [p63]) Tryd.f24 c24 (ofArgs [lab] (l, ())) St0 (gives [lab] (downL l, ())) = (
  decide (l.snd.length ≤ (1000000 : Nat)) = true ∧ ((turnL (l.fst, l.snd) (5 : Int) (0 : Int)).fst = (downL l).fst ∧ (turnL (l.fst, l.snd) (5 : Int) (0 : Int)).snd = (downL l).snd ∧ True) ∧ True) := by kernel_rfl
end Go.Proofs.YtblhojadchbcnaaDoor
namespace Go.Proofs.YtblhojadchbcnaaDoor
open Go.Proofs.YtblhojadchbcnaaDoor.Gx
set_option maxRecDepth 100000
set_option maxHeartbeats 4000000
set_option linter.unusedSimpArgs false
set_option linter.unusedVariables false
theorem maxI_fun : maxI = max := by funext a b; exact maxI_eq a b
theorem bothR_step {f : Int → Int → Int} {d c u v : Int} {out T : List (Int × Int)} {L R : List (Int × Int × Int)} (h : out ++ bothR f d L = T) (hs : L = (c, u, v) :: R) :
    (f u v ≠ d → (out ++ [(c, f u v)]) ++ bothR f d R = T) ∧ (f u v = d → out ++ bothR f d R = T) := by
  subst hs
  refine ⟨fun hne => ?_, fun he => ?_⟩
  · rw [← h]; simp [bothR, hne]
  · rw [← h]; simp [bothR, he]
theorem join_ok : PSpecOk PP 27 (Q [lab, lab] [lab, i64] (fun x => sml x.1 && sml x.2.1) (fun x => ((bothL max x.1 x.2.1).1, (bothL max x.1 x.2.1).2, ()))) := by
  refine pspec_Q mixed (fn := Tryd.f27) (c := c27) rfl rfl _ _ rfl ?_
  rintro ⟨a, b, ⟨⟩⟩ ⟨⟨-, ⟨hA, -⟩⟩, ⟨-, ⟨hB, -⟩⟩, -⟩ hp
  simp only at hA hB
  simp at hp
  obtain ⟨hp1, hp2⟩ := hp
  refine ⟨_, env_ok [] [s64 maxI a b] [] [] [], rfl, hold (join_vc a b) ?_⟩
  simp only [true_and, and_true, Prod.eta, maxI_fun]
  refine ⟨(0, 0, []), ⟨⟨by simp, by simp⟩, by simp, by simp⟩, ⟨⟨rfl, rfl⟩, rfl⟩, ?_⟩
  rintro ⟨i, k, out⟩ ⟨⟨hi, hk⟩, hol, hinv⟩
  simp only at hi hk hol hinv ⊢
  have hbytes : ∀ x : Int × Int, (out.length + [x].length) * 16 ≤ 140737488355328 := fun x => by simp only [List.length_cons, List.length_nil]; omega
  rcases get_cases a.2 i hi with ⟨x, hx, hi'⟩ | ⟨hx, hi'⟩ <;> rcases get_cases b.2 k hk with ⟨y, hy, hk'⟩ | ⟨hy, hk'⟩
  · refine ⟨true, by intro _; constructor <;> (intros; simp_all), ?_, by simp⟩
    intro _
    refine ⟨decide (x.1 ≤ y.1), ?_, decide (y.1 ≤ x.1), ?_, ?_, ?_⟩
    · simp [hx, hy]; omega
    · simp [hx, hy]; omega
    · intro hv
      refine ⟨⟨by omega, by omega⟩, fun x' hx' => ?_⟩
      obtain rfl : x = x' := by simpa [hx] using hx'
      refine ⟨fun hv1 => ⟨⟨by omega, by omega⟩, fun y' hy' => ?_⟩, fun hv1 => ?_⟩
      · obtain rfl : y = y' := by simpa [hy] using hy'
        have hs := bothR_step hinv (lev_both hx hy (by simpa using hv) (by simpa using hv1))
        refine ⟨by omega, by omega, fun hg => ⟨hbytes _, (i + 1, k + 1, _), ⟨⟨by simp only; omega, by simp only; omega⟩, ?_, hs.1 (by simpa using hg)⟩, by simp only; omega, ⟨wrap_succ hi' hA, wrap_succ hk' hB⟩, rfl⟩, fun hg => ⟨(i + 1, k + 1, out), ⟨⟨by simp only; omega, by simp only; omega⟩, by simp only; omega, hs.2 (by simpa using hg)⟩, by simp only; omega, ⟨wrap_succ hi' hA, wrap_succ hk' hB⟩, rfl⟩⟩
        simp only [List.length_append, List.length_cons, List.length_nil]; omega
      · have hs := bothR_step hinv (lev_first hx hk (fun y' hy' => by rw [hy] at hy'; cases hy'; simp at hv hv1; omega))
        refine ⟨by omega, by omega, fun hg => ⟨hbytes _, (i + 1, k, _), ⟨⟨by simp only; omega, by simp only; omega⟩, ?_, hs.1 (by simpa using hg)⟩, by simp only; omega, ⟨wrap_succ hi' hA, rfl⟩, rfl⟩, fun hg => ⟨(i + 1, k, out), ⟨⟨by simp only; omega, by simp only; omega⟩, by simp only; omega, hs.2 (by simpa using hg)⟩, by simp only; omega, ⟨wrap_succ hi' hA, rfl⟩, rfl⟩⟩
        simp only [List.length_append, List.length_cons, List.length_nil]; omega
    · intro hv
      refine ⟨fun hv1 => ⟨⟨by omega, by omega⟩, fun y' hy' => ?_⟩, fun hv1 => by simp at hv hv1; omega⟩
      obtain rfl : y = y' := by simpa [hy] using hy'
      have hs := bothR_step hinv (lev_second hy hi (fun x' hx' => by rw [hx] at hx'; cases hx'; simp at hv hv1; omega))
      refine ⟨by omega, by omega, fun hg => ⟨hbytes _, (i, k + 1, _), ⟨⟨by simp only; omega, by simp only; omega⟩, ?_, hs.1 (by simpa using hg)⟩, by simp only; omega, ⟨rfl, wrap_succ hk' hB⟩, rfl⟩, fun hg => ⟨(i, k + 1, out), ⟨⟨by simp only; omega, by simp only; omega⟩, by simp only; omega, hs.2 (by simpa using hg)⟩, by simp only; omega, ⟨rfl, wrap_succ hk' hB⟩, rfl⟩⟩
      simp only [List.length_append, List.length_cons, List.length_nil]; omega
  · refine ⟨true, by intro _; constructor <;> (intros; simp_all), ?_, by simp⟩
    intro _
    refine ⟨true, ?_, false, ?_, ?_, ?_⟩
    · simp [hx, hy]; omega
    · simp [hx, hy]; omega
    · intro hv
      refine ⟨⟨by omega, by omega⟩, fun x' hx' => ?_⟩
      obtain rfl : x = x' := by simpa [hx] using hx'
      refine ⟨fun hv1 => (by simp at hv1), fun hv1 => ?_⟩
      have hs := bothR_step hinv (lev_first hx hk (fun y' hy' => by rw [hy] at hy'; cases hy'))
      refine ⟨by omega, by omega, fun hg => ⟨hbytes _, (i + 1, k, _), ⟨⟨by simp only; omega, by simp only; omega⟩, ?_, hs.1 (by simpa using hg)⟩, by simp only; omega, ⟨wrap_succ hi' hA, rfl⟩, rfl⟩, fun hg => ⟨(i + 1, k, out), ⟨⟨by simp only; omega, by simp only; omega⟩, by simp only; omega, hs.2 (by simpa using hg)⟩, by simp only; omega, ⟨wrap_succ hi' hA, rfl⟩, rfl⟩⟩
      simp only [List.length_append, List.length_cons, List.length_nil]; omega
    · intro hv; simp at hv
  · refine ⟨true, by intro _; constructor <;> (intros; simp_all), ?_, by simp⟩
    intro _
    refine ⟨false, ?_, true, ?_, ?_, ?_⟩
    · simp [hx, hy]; omega
    · simp [hx, hy]; omega
    · intro hv; simp at hv
    · intro hv
      refine ⟨fun hv1 => ⟨⟨by omega, by omega⟩, fun y' hy' => ?_⟩, fun hv1 => by simp at hv1⟩
      obtain rfl : y = y' := by simpa [hy] using hy'
      have hs := bothR_step hinv (lev_second hy hi (fun x' hx' => by rw [hx] at hx'; cases hx'))
      refine ⟨by omega, by omega, fun hg => ⟨hbytes _, (i, k + 1, _), ⟨⟨by simp only; omega, by simp only; omega⟩, ?_, hs.1 (by simpa using hg)⟩, by simp only; omega, ⟨rfl, wrap_succ hk' hB⟩, rfl⟩, fun hg => ⟨(i, k + 1, out), ⟨⟨by simp only; omega, by simp only; omega⟩, by simp only; omega, hs.2 (by simpa using hg)⟩, by simp only; omega, ⟨rfl, wrap_succ hk' hB⟩, rfl⟩⟩
      simp only [List.length_append, List.length_cons, List.length_nil]; omega
  · refine ⟨false, by intro _; constructor <;> (intros; simp_all), by simp, ?_⟩
    intro _
    have he : levL a b i k = [] := by
      rw [hi', hk']
      simp [levL]
      cases a.2.length + b.2.length - a.2.length - b.2.length <;> simp [mrg]
    rw [he] at hinv
    have : bothL max a b = wholeL (max a.1 b.1, out) := by
      unfold bothL
      rw [← hinv]; simp [bothR]
    rw [this]
    exact ⟨⟨rfl, rfl⟩, rfl⟩
theorem down_ok : PSpecOk PP 24 (Q [lab] [lab] (fun x => sml x.1) (fun x => (downL x.1, ()))) := by
  refine pspec_Q mixed (fn := Tryd.f24) (c := c24) rfl rfl _ _ rfl ?_
  rintro ⟨l, ⟨⟩⟩ - hp
  refine ⟨_, env_ok [p63] [] [] [] [], rfl, hold (down_vc l) ?_⟩
  simp only [true_and, and_true]
  exact ⟨hp, rfl, rfl⟩
theorem cat_or (c v : Int) : (decide (c < 1) = false → (decide (c > 2305843009213693951) = false → (decide (v < 0) = false → decide (v > 5) = !(catB c && levelB v)) ∧ (decide (v < 0) = !false → true = !(catB c && levelB v))) ∧ (decide (c > 2305843009213693951) = !false → true = !(catB c && levelB v))) ∧ (decide (c < 1) = !false → true = !(catB c && levelB v)) := by
  refine ⟨fun h1 => ⟨fun h2 => ⟨fun h3 => ?_, fun h3 => ?_⟩, fun h2 => ?_⟩, fun h1 => ?_⟩
  · simp only [decide_eq_false_iff_not] at h1 h2 h3
    have e1 : catB c = true := by simp only [catB, maxId, Bool.and_eq_true, decide_eq_true_eq]; omega
    have e2 : levelB v = decide (v ≤ 5) := by
      have : (0 : Int) ≤ v := by omega
      simp [levelB, this]
    rw [e1, e2, Bool.eq_iff_iff]; simp
  · simp only [Bool.not_false, decide_eq_true_eq] at h3
    have : ¬ ((0 : Int) ≤ v) := by omega
    simp [levelB, this]
  · simp only [Bool.not_false, decide_eq_true_eq] at h2
    have : ¬ (c ≤ 2305843009213693951) := by omega
    simp [catB, maxId, this]
  · simp only [Bool.not_false, decide_eq_true_eq] at h1
    have : ¬ (1 ≤ c) := by omega
    simp [catB, this]
theorem withL_ok : PSpecOk PP 35 (Q [lab, i64, i64] [lab, i64] (fun x => dist (x.1.2 ++ [(x.2.1, x.2.2.1)])) (fun x => ((withL x.1 x.2.1 x.2.2.1).1, (withL x.1 x.2.1 x.2.2.1).2, ()))) := by
  refine pspec_Q mixed (fn := Tryd.f35) (c := c35) rfl rfl _ _ rfl ?_
  rintro ⟨l, c, v, ⟨⟩⟩ - hp
  change dist (l.2 ++ [(c, v)]) = true at hp
  have hlen : l.2.length < 19 := by simp only [dist, Bool.and_eq_true, decide_eq_true_eq, List.length_append, List.length_cons, List.length_nil] at hp; omega
  have hno : ∀ x ∈ l.2, (x.1 == c) = false := by
    intro x hx
    obtain ⟨i, hi⟩ := List.mem_iff_getElem?.1 hx
    have hil := (List.getElem?_eq_some_iff.1 hi).1
    have := dist_ne hp (List.Perm.refl _) (i := i) (j := l.2.length) (x := x) (y := (c, v)) hil (by rw [List.getElem?_append_left hil]; exact hi) (by simp)
    simpa using this
  refine ⟨_, env_ok [p14] [s49, s67 c] [] [] [], rfl, hold (withL_vc l c v) ?_⟩
  simp only [true_and, and_true, Prod.eta]
  refine ⟨!(catB c && levelB v), ?_, fun h => ?_, fun h => ⟨by simp; omega, fun hA => ⟨0, ⟨by simp, rfl⟩, rfl, ?_⟩⟩⟩
  · exact cat_or c v
  · have h : (catB c && levelB v) = false := by cases hb : (catB c && levelB v) <;> simp_all
    simp [withL, h]
  · have h : (catB c && levelB v) = true := by cases hb : (catB c && levelB v) <;> simp_all
    have hW : withL l c v = makeE l.1 (l.2 ++ [(c, v)]) := by simp [withL, h]
    rw [hW]
    rintro i ⟨hi, hinv⟩
    have hz : ((-1 : Int) == -1) = true := rfl
    rcases get_cases l.2 i hi with ⟨x, hx, hi'⟩ | ⟨hx, hi'⟩
    · refine ⟨fun _ => ⟨by omega, by simp only [Int.toNat_natCast]; omega, fun y hy => ?_⟩, fun h => by simp at h; omega⟩
      obtain rfl : x = y := by simpa [hx] using hy
      have hn := hno x (List.mem_of_getElem? hx)
      rw [drop_get hx, List.any_cons, hn, Bool.false_or] at hinv
      exact ⟨(fun h => by rw [hn] at h; cases h), fun _ => ⟨i + 1, ⟨by omega, hinv⟩, by omega, wrap_succ hi' hA⟩⟩
    · subst hi'
      refine ⟨fun h => by simp at h, fun _ => ⟨fun _ => ⟨by simp only [List.length_cons, List.length_nil]; omega, hp, ⟨rfl, rfl⟩, rfl⟩, (fun h => by rw [hz] at h; cases h)⟩⟩
end Go.Proofs.YtblhojadchbcnaaDoor
namespace Go.Proofs.YtblhojadchbcnaaDoor
open Go.Proofs.YtblhojadchbcnaaDoor.Gx
set_option maxRecDepth 100000
set_option maxHeartbeats 0
noncomputable def p27 : Pv PP := ⟨27, _, ⟨rfl, join_ok⟩⟩
noncomputable def p24 : Pv PP := ⟨24, _, ⟨rfl, down_ok⟩⟩
noncomputable def p35 : Pv PP := ⟨35, _, ⟨rfl, withL_ok⟩⟩
theorem cut_vc (l : Lab) : fvc PP e0 Tryd.f60 c60 (ofArgs [lab] (l, ())) St0 (gives [lab, i64] ((wholeL l).1, (wholeL l).2, ())) = (
  l.snd.length ≤ maxLen → (decide ((↑l.snd.length : Int) > (16 : Int)) = true → (((0 : Int) = (wholeL l).fst.fst ∧ (wholeL l).fst.snd = [] ∧ True) ∧ (7 : Int) = (wholeL l).snd ∧ True) ∧ True) ∧ (decide ((↑l.snd.length : 
  Int) > (16 : Int)) = false → ((l.fst = (wholeL l).fst.fst ∧ l.snd = (wholeL l).fst.snd ∧ True) ∧ (0 : Int) = (wholeL l).snd ∧ True) ∧ True)) := by kernel_rfl
def sameLoop (a b : Lab) : List (Nat × (St → Option LoopSpec)) :=
  [(4, fun _ => some { α := Nat, inv := fun i => i ≤ a.2.length ∧ eqRows (a.2.drop i) (b.2.drop i) = eqRows a.2 b.2, ov := fun i => [(23, .int .i64 (i : Int))], rov := fun _ => [], meas := fun i => a.2.length - i })]
theorem same_vc (a b : Lab) : fvc PP (eL (sameLoop a b)) Tryd.f16 c16 (ofArgs [lab, lab] (a, b, ())) St0 (gives [.bool] (sameL a b, ())) = (
  ∃ (v : Bool), (((a.fst != b.fst) = false → a.snd.length ≤ maxLen → b.snd.length ≤ maxLen → ((↑a.snd.length : Int) != (↑b.snd.length : Int)) = v) ∧ ((a.fst != b.fst) = !false → true = v)) ∧ (v = true → false = sameL a b 
  ∧ True) ∧ (v = false → a.snd.length ≤ maxLen → ∃ (x0 : Nat), (x0 ≤ a.snd.length ∧ eqRows (List.drop x0 a.snd) (List.drop x0 b.snd) = eqRows a.snd b.snd) ∧ ((True ∧ True) ∧ ((0 : Int) = (↑x0 : Int) ∧ (↑a.snd.length : 
  Int) = (↑a.snd.length : Int) ∧ false = false ∧ True ∧ True ∧ (a.fst = a.fst ∧ a.snd = a.snd ∧ True) ∧ (b.fst = b.fst ∧ b.snd = b.snd ∧ True) ∧ True) ∧ (a.fst = a.fst ∧ a.snd = a.snd ∧ True) ∧ (b.fst = b.fst ∧ b.snd = 
  b.snd ∧ True) ∧ True) ∧ ∀ (x : Nat), x ≤ a.snd.length ∧ eqRows (List.drop x a.snd) (List.drop x b.snd) = eqRows a.snd b.snd → (decide ((↑x : Int) < (↑a.snd.length : Int)) = true → ((0 : Int) ≤ (↑x : Int) ∧ (↑x : Int) < 
  (↑a.snd.length : Int)) ∧ ∀ (y : Int × Int), a.snd[(↑x : Int).toNat]? = some y → ((0 : Int) ≤ (↑x : Int) ∧ (↑x : Int) < (↑b.snd.length : Int)) ∧ ∀ (y_1 : Int × Int), b.snd[(↑x : Int).toNat]? = some y_1 → ((!(y.fst == 
  y_1.fst && (y.snd == y_1.snd && true))) = true → false = sameL a b ∧ True) ∧ ((!(y.fst == y_1.fst && (y.snd == y_1.snd && true))) = false → ∃ (x' : Nat), (x' ≤ a.snd.length ∧ eqRows (List.drop x' a.snd) (List.drop x' 
  b.snd) = eqRows a.snd b.snd) ∧ a.snd.length - x' < a.snd.length - x ∧ (True ∧ True) ∧ (IntKind.i64.wrap ((↑x : Int) + (1 : Int)) = (↑x' : Int) ∧ (↑a.snd.length : Int) = (↑a.snd.length : Int) ∧ false = false ∧ True ∧ 
  True ∧ (a.fst = a.fst ∧ a.snd = a.snd ∧ True) ∧ (b.fst = b.fst ∧ b.snd = b.snd ∧ True) ∧ True) ∧ (a.fst = a.fst ∧ a.snd = a.snd ∧ True) ∧ (b.fst = b.fst ∧ b.snd = b.snd ∧ True) ∧ True)) ∧ (decide ((↑x : Int) < 
  (↑a.snd.length : Int)) = false → true = sameL a b ∧ True))) := by kernel_rfl
end Go.Proofs.YtblhojadchbcnaaDoor
namespace Go.Proofs.YtblhojadchbcnaaDoor
open Go.Proofs.YtblhojadchbcnaaDoor.Gx
set_option maxRecDepth 100000
set_option maxHeartbeats 4000000
set_option linter.unusedSimpArgs false
set_option linter.unusedVariables false
abbrev few (l : Lab) : Bool := decide (l.2.length < 19) && decide ((l.2.map (·.1)).Nodup)
theorem namedB_mem {l : Lab} {k : Int} (h : namedB l k = false) : ∀ x ∈ l.2, x.1 ≠ k := by
  intro x hx e
  have : namedB l k = true := List.any_eq_true.2 ⟨x, hx, by simpa using e⟩
  rw [h] at this; cases this
theorem few_dist {l : Lab} {k v : Int} (h : few l = true) (hn : namedB l k = false) : dist (l.2 ++ [(k, v)]) = true := by
  simp only [few, Bool.and_eq_true, decide_eq_true_eq] at h
  simp only [dist, Bool.and_eq_true, decide_eq_true_eq, List.length_append, List.length_cons, List.length_nil, List.map_append, List.map_cons, List.map_nil]
  refine ⟨by omega, List.nodup_append.2 ⟨h.2, by simp, ?_⟩⟩
  intro a ha b hb
  simp only [List.mem_singleton] at hb
  obtain ⟨x, hx, rfl⟩ := List.mem_map.1 ha
  rw [hb]
  exact namedB_mem hn x hx
theorem cut_ok : PSpecOk PP 60 (Q [lab] [lab, i64] (fun _ => true) (fun x => ((wholeL x.1).1, (wholeL x.1).2, ()))) := by
  refine pspec_Q mixed (fn := Tryd.f60) (c := c60) rfl rfl _ _ rfl ?_
  rintro ⟨l, ⟨⟩⟩ - -
  refine ⟨_, env_ok [] [] [] [] [], rfl, hold (cut_vc l) ?_⟩
  refine fun _ => ⟨fun h => ?_, fun h => ?_⟩
  · have : 16 < l.2.length := by simp at h; omega
    simp [wholeL, this]
  · have : ¬ 16 < l.2.length := by simp at h; omega
    simp [wholeL, this]
theorem whole_len (l : Lab) : (wholeL l).1.2.length ≤ 16 := by
  unfold wholeL
  by_cases h : 16 < l.2.length
  · simp [h]
  · simp [h]; omega
theorem eqRows_eq : (a b : List (Int × Int)) → a.length = b.length → (eqRows a b = true ↔ a = b)
  | [], [], _ => by simp [eqRows]
  | x :: l, y :: m, h => by
    have ih := eqRows_eq l m (by simpa using h)
    simp only [eqRows, Bool.and_eq_true, ih, beq_iff_eq, List.cons.injEq]
    constructor
    · rintro ⟨⟨h1, h2⟩, h3⟩; exact ⟨Prod.ext h1 h2, h3⟩
    · rintro ⟨rfl, rfl⟩; simp
  | [], _ :: _, h => by simp at h
  | _ :: _, [], h => by simp at h
theorem same_ok : PSpecOk PP 16 (Q [lab, lab] [.bool] (fun _ => true) (fun x => (sameL x.1 x.2.1, ()))) := by
  refine pspec_Q mixed (fn := Tryd.f16) (c := c16) rfl rfl _ _ rfl ?_
  rintro ⟨a, b, ⟨⟩⟩ - -
  refine ⟨_, env_ok [] [] [] [] (sameLoop a b), rfl, hold (same_vc a b) ?_⟩
  simp only [true_and, and_true]
  refine ⟨!(a.1 == b.1 && decide (a.2.length = b.2.length)), ⟨fun h _ _ => ?_, fun h => ?_⟩, fun h => ?_, fun h hA => ?_⟩
  · have h : a.1 = b.1 := by simpa using h
    rw [h, Bool.eq_iff_iff]; simp
    omega
  · have h : a.1 ≠ b.1 := by simpa using h
    simp [h]
  · have : a ≠ b := by rintro rfl; simp at h
    simp [sameL, this]
  · have h : a.1 = b.1 ∧ a.2.length = b.2.length := by simpa using h
    obtain ⟨h1, h2⟩ := h
    have hS : sameL a b = eqRows a.2 b.2 := by
      rw [Bool.eq_iff_iff, eqRows_eq _ _ h2, sameL, decide_eq_true_eq]
      constructor
      · rintro rfl; rfl
      · intro e; exact Prod.ext h1 e
    rw [hS]
    refine ⟨0, ⟨by simp, rfl⟩, rfl, ?_⟩
    rintro i ⟨hi, hinv⟩
    rcases get_cases a.2 i hi with ⟨x, hx, hi'⟩ | ⟨hx, hi'⟩
    · obtain ⟨y, hy⟩ : ∃ y, b.2[i]? = some y := ⟨b.2[i], List.getElem?_eq_getElem (by omega)⟩
      rw [drop_get hx, drop_get hy] at hinv
      simp only [eqRows] at hinv
      refine ⟨fun _ => ⟨by omega, fun x' hx' => ⟨by omega, fun y' hy' => ?_⟩⟩, fun h => by simp at h; omega⟩
      obtain rfl : x = x' := by simpa [hx] using hx'
      obtain rfl : y = y' := by simpa [hy] using hy'
      rw [Bool.and_true]
      refine ⟨fun h => ?_, fun h => ⟨i + 1, ⟨by omega, ?_⟩, by omega, wrap_succ hi' hA⟩⟩
      · have h : (x.1 == y.1 && x.2 == y.2) = false := by cases hb : (x.1 == y.1 && x.2 == y.2) <;> simp_all
        rw [h, Bool.false_and] at hinv; exact hinv
      · have h : (x.1 == y.1 && x.2 == y.2) = true := by cases hb : (x.1 == y.1 && x.2 == y.2) <;> simp_all
        rw [h, Bool.true_and] at hinv; exact hinv
    · subst hi'
      refine ⟨fun h => by simp at h, fun _ => ?_⟩
      rw [List.drop_length] at hinv
      simpa [eqRows] using hinv
end Go.Proofs.YtblhojadchbcnaaDoor
namespace Go.Proofs.YtblhojadchbcnaaDoor
open Go.Proofs.YtblhojadchbcnaaDoor.Gx
set_option maxRecDepth 100000
set_option maxHeartbeats 0
noncomputable def p60 : Pv PP := ⟨60, _, ⟨rfl, cut_ok⟩⟩
noncomputable def p16 : Pv PP := ⟨16, _, ⟨rfl, same_ok⟩⟩
def withNLoop (l : Lab) (c v : Int) : List (Nat × (St → Option LoopSpec)) :=
  [(6, fun (S : St) => match getT S.fr.tm 8 with
      | .ptr b _ => some { α := Nat, inv := fun i => i ≤ (namedL [l, (0, [(c, v)])]).length ∧ True, ov := fun i => [(34, .int .i64 (i : Int))], rov := fun i => [(b, .blk 0 [.int .i64 l.1, .rs ent (buildR l.1 (fun k => if k = c then v else atL l k) ((namedL [l, (0, [(c, v)])]).take i))])], meas := fun i => (namedL [l, (0, [(c, v)])]).length - i }
      | _ => none)]
theorem withNL_vc (l : Lab) (c v : Int) : fvc PP (env PP [p57, p56, p58, p59, p44, p60] [] [] [] (withNLoop l c v)) Tryd.f36 c36 (ofArgs [lab, i64, i64] (l, c, v, ())) St0 (gives [lab, i64] ((withNL l c v).1, (withNL l c v).2, ())) = (
  true = true ∧ ((!catB c) = false → true = true ∧ ((!levelB v) = true → (((0 : Int) = (withNL l c v).fst.fst ∧ (withNL l c v).fst.snd = [] ∧ True) ∧ (1 : Int) = (withNL l c v).snd ∧ True) ∧ True) ∧ ((!levelB v) = false 
  → smallLs [(l.fst, l.snd), ((0 : Int), [(c, v)])] = true ∧ ((namedL [(l.fst, l.snd), ((0 : Int), [(c, v)])]).length ≤ maxLen → ∃ (x0 : Nat), (x0 ≤ (namedL [l, ((0 : Int), [(c, v)])]).length ∧ True) ∧ ((True ∧ True) ∧ 
  ((0 : Int) = (↑x0 : Int) ∧ (↑(namedL [(l.fst, l.snd), ((0 : Int), [(c, v)])]).length : Int) = (↑(namedL [(l.fst, l.snd), ((0 : Int), [(c, v)])]).length : Int) ∧ namedL [(l.fst, l.snd), ((0 : Int), [(c, v)])] = namedL 
  [(l.fst, l.snd), ((0 : Int), [(c, v)])] ∧ True ∧ True ∧ false = false ∧ (0 : Int) = (0 : Int) ∧ True ∧ True ∧ (l.fst = l.fst ∧ l.snd = l.snd ∧ True) ∧ c = c ∧ v = v ∧ True) ∧ (l.fst = l.fst ∧ l.snd = l.snd ∧ True) ∧ 
  ((0 : Int) = (0 : Int) ∧ SV.val (Value.slice none (0 : Nat) (0 : Nat)) = SV.val (Value.slice none (0 : Nat) (0 : Nat)) ∧ True) ∧ (l.fst = l.fst ∧ buildR l.fst (fun (k : Int) => if k = c then v else atL l k) (List.take 
  x0 (namedL [l, ((0 : Int), [(c, v)])])) = [] ∧ True) ∧ True ∧ ((0 : Int) = (0 : Int) ∧ [(c, v)] = [(c, v)] ∧ True) ∧ True ∧ True) ∧ ∀ (x : Nat), x ≤ (namedL [l, ((0 : Int), [(c, v)])]).length ∧ True → (decide ((↑x : 
  Int) < (↑(namedL [(l.fst, l.snd), ((0 : Int), [(c, v)])]).length : Int)) = true → ((0 : Int) ≤ (↑x : Int) ∧ (↑x : Int) < (↑(namedL [(l.fst, l.snd), ((0 : Int), [(c, v)])]).length : Int)) ∧ ∀ (y : Int), (namedL [(l.fst, 
  l.snd), ((0 : Int), [(c, v)])])[(↑x : Int).toNat]? = some y → ((y == c) = true → decide ((buildR l.fst (fun (k : Int) => if k = c then v else atL l k) (List.take x (namedL [l, ((0 : Int), [(c, v)])]))).length ≤ 
  (1000000 : Nat)) = true ∧ ∃ (x' : Nat), (x' ≤ (namedL [l, ((0 : Int), [(c, v)])]).length ∧ True) ∧ (namedL [l, ((0 : Int), [(c, v)])]).length - x' < (namedL [l, ((0 : Int), [(c, v)])]).length - x ∧ (True ∧ True) ∧ 
  (IntKind.i64.wrap ((↑x : Int) + (1 : Int)) = (↑x' : Int) ∧ (↑(namedL [(l.fst, l.snd), ((0 : Int), [(c, v)])]).length : Int) = (↑(namedL [(l.fst, l.snd), ((0 : Int), [(c, v)])]).length : Int) ∧ namedL [(l.fst, l.snd), 
  ((0 : Int), [(c, v)])] = namedL [(l.fst, l.snd), ((0 : Int), [(c, v)])] ∧ True ∧ True ∧ false = false ∧ (0 : Int) = (0 : Int) ∧ True ∧ True ∧ (l.fst = l.fst ∧ l.snd = l.snd ∧ True) ∧ c = c ∧ v = v ∧ True) ∧ (l.fst = 
  l.fst ∧ l.snd = l.snd ∧ True) ∧ ((0 : Int) = (0 : Int) ∧ SV.val (Value.slice none (0 : Nat) (0 : Nat)) = SV.val (Value.slice none (0 : Nat) (0 : Nat)) ∧ True) ∧ ((putL (l.fst, buildR l.fst (fun (k : Int) => if k = c 
  then v else atL l k) (List.take x (namedL [l, ((0 : Int), [(c, v)])]))) y v).fst = l.fst ∧ (putL (l.fst, buildR l.fst (fun (k : Int) => if k = c then v else atL l k) (List.take x (namedL [l, ((0 : Int), [(c, v)])]))) y 
  v).snd = buildR l.fst (fun (k : Int) => if k = c then v else atL l k) (List.take x' (namedL [l, ((0 : Int), [(c, v)])])) ∧ True) ∧ True ∧ ((0 : Int) = (0 : Int) ∧ [(c, v)] = [(c, v)] ∧ True) ∧ True ∧ True) ∧ ((y == c) 
  = false → true = true ∧ decide ((buildR l.fst (fun (k : Int) => if k = c then v else atL l k) (List.take x (namedL [l, ((0 : Int), [(c, v)])]))).length ≤ (1000000 : Nat)) = true ∧ ∃ (x' : Nat), (x' ≤ (namedL [l, ((0 : 
  Int), [(c, v)])]).length ∧ True) ∧ (namedL [l, ((0 : Int), [(c, v)])]).length - x' < (namedL [l, ((0 : Int), [(c, v)])]).length - x ∧ (True ∧ True) ∧ (IntKind.i64.wrap ((↑x : Int) + (1 : Int)) = (↑x' : Int) ∧ (↑(namedL 
  [(l.fst, l.snd), ((0 : Int), [(c, v)])]).length : Int) = (↑(namedL [(l.fst, l.snd), ((0 : Int), [(c, v)])]).length : Int) ∧ namedL [(l.fst, l.snd), ((0 : Int), [(c, v)])] = namedL [(l.fst, l.snd), ((0 : Int), [(c, 
  v)])] ∧ True ∧ True ∧ false = false ∧ (0 : Int) = (0 : Int) ∧ True ∧ True ∧ (l.fst = l.fst ∧ l.snd = l.snd ∧ True) ∧ c = c ∧ v = v ∧ True) ∧ (l.fst = l.fst ∧ l.snd = l.snd ∧ True) ∧ ((0 : Int) = (0 : Int) ∧ SV.val 
  (Value.slice none (0 : Nat) (0 : Nat)) = SV.val (Value.slice none (0 : Nat) (0 : Nat)) ∧ True) ∧ ((putL (l.fst, buildR l.fst (fun (k : Int) => if k = c then v else atL l k) (List.take x (namedL [l, ((0 : Int), [(c, 
  v)])]))) y (atL (l.fst, l.snd) y)).fst = l.fst ∧ (putL (l.fst, buildR l.fst (fun (k : Int) => if k = c then v else atL l k) (List.take x (namedL [l, ((0 : Int), [(c, v)])]))) y (atL (l.fst, l.snd) y)).snd = buildR 
  l.fst (fun (k : Int) => if k = c then v else atL l k) (List.take x' (namedL [l, ((0 : Int), [(c, v)])])) ∧ True) ∧ True ∧ ((0 : Int) = (0 : Int) ∧ [(c, v)] = [(c, v)] ∧ True) ∧ True ∧ True)) ∧ (decide ((↑x : Int) < 
  (↑(namedL [(l.fst, l.snd), ((0 : Int), [(c, v)])]).length : Int)) = false → true = true ∧ (((wholeL (l.fst, buildR l.fst (fun (k : Int) => if k = c then v else atL l k) (List.take x (namedL [l, ((0 : Int), [(c, 
  v)])])))).fst.fst = (withNL l c v).fst.fst ∧ (wholeL (l.fst, buildR l.fst (fun (k : Int) => if k = c then v else atL l k) (List.take x (namedL [l, ((0 : Int), [(c, v)])])))).fst.snd = (withNL l c v).fst.snd ∧ True) ∧ 
  (wholeL (l.fst, buildR l.fst (fun (k : Int) => if k = c then v else atL l k) (List.take x (namedL [l, ((0 : Int), [(c, v)])])))).snd = (withNL l c v).snd ∧ True) ∧ True)))) ∧ ((!catB c) = !false → (((0 : Int) = (withNL 
  l c v).fst.fst ∧ (withNL l c v).fst.snd = [] ∧ True) ∧ (1 : Int) = (withNL l c v).snd ∧ True) ∧ True)) := by kernel_rfl
def floorNLoop (t g : Lab) : List (Nat × (St → Option LoopSpec)) :=
  [(4, fun (S : St) => match getT S.fr.tm 6, getT S.fr.tm 7 with
      | .ptr u _, .ptr o _ => some { α := Nat, inv := fun i => i ≤ (namedL [t, g]).length ∧ True, ov := fun i => [(27, .int .i64 (i : Int))], rov := fun i => [(u, .blk 0 [.int .i64 (max (upL t).1 (upL g).1), .rs ent (buildR (max (upL t).1 (upL g).1) (fun k => max (at0 (upL t) k) (at0 (upL g) k)) ((namedL [t, g]).take i))]), (o, .blk 0 [.int .i64 (floorN t g 0), .rs ent (buildR (floorN t g 0) (fun k => floorN t g k) ((namedL [t, g]).take i))])], meas := fun i => (namedL [t, g]).length - i }
      | _, _ => none)]
end Go.Proofs.YtblhojadchbcnaaDoor
namespace Go.Proofs.YtblhojadchbcnaaDoor
open Go.Proofs.YtblhojadchbcnaaDoor.Gx
set_option maxRecDepth 100000
set_option maxHeartbeats 4000000
set_option linter.unusedSimpArgs false
set_option linter.unusedVariables false
theorem namedL2_len (a b : Lab) : (namedL [a, b]).length ≤ a.2.length + b.2.length := by
  have h1 := addN_len a.2 []
  have h2 := addN_len b.2 (addN [] a.2)
  simp only [namedL, List.foldl_cons, List.foldl_nil]
  simp only [List.length_nil] at h1
  omega
theorem build_len (d : Int) (g : Int → Int) (cs : List Int) : (buildR d g cs).length ≤ cs.length := List.length_filterMap_le _ _
theorem build_snoc (d : Int) (g : Int → Int) (cs : List Int) (c : Int) : (putL (d, buildR d g cs) c (g c)) = (d, buildR d g (cs ++ [c])) := by
  unfold putL buildR
  rw [List.filterMap_append]
  by_cases h : g c = d
  · simp [h]
  · simp [h]
theorem build_take (d : Int) (g : Int → Int) (ns : List Int) (i : Nat) (y v : Int) (hy : ns[i]? = some y) (hv : v = g y) :
    putL (d, buildR d g (ns.take i)) y v = (d, buildR d g (ns.take (i + 1))) := by
  rw [take_snoc' hy, hv, build_snoc]
theorem withNL_ok : PSpecOk PP 36 (Q [lab, i64, i64] [lab, i64] (fun x => few x.1) (fun x => ((withNL x.1 x.2.1 x.2.2.1).1, (withNL x.1 x.2.1 x.2.2.1).2, ()))) := by
  refine pspec_Q mixed (fn := Tryd.f36) (c := c36) rfl rfl _ _ rfl ?_
  rintro ⟨l, c, v, ⟨⟩⟩ - hp
  simp only [few, Bool.and_eq_true, decide_eq_true_eq] at hp
  refine ⟨_, env_ok [p57, p56, p58, p59, p44, p60] [] [] [] (withNLoop l c v), rfl, hold (withNL_vc l c v) ?_⟩
  simp only [true_and, and_true, Prod.eta]
  refine ⟨fun hc => ⟨fun hv => ?_, fun hv => ?_⟩, fun hc => ?_⟩
  · have hv : levelB v = false := by simpa using hv
    simp [withNL, hv]
  · have hc : catB c = true := by simpa using hc
    have hv : levelB v = true := by simpa using hv
    have hW : withNL l c v = wholeL (l.1, buildR l.1 (fun k => if k = c then v else atL l k) (namedL [l, (0, [(c, v)])])) := by
      simp only [withNL, hc, hv, Bool.and_self, cond_true]
    have hs : smallLs [(l.1, l.2), (0, [(c, v)])] = true := by
      simp only [smallLs, Bool.and_eq_true, decide_eq_true_eq, List.all_cons, List.all_nil, and_true]
      exact ⟨by simp, by omega, by simp⟩
    refine ⟨hs, fun hA => ?_⟩
    have hlen := namedL2_len l (0, [(c, v)])
    simp only [List.length_cons, List.length_nil] at hlen
    rw [hW]
    generalize hN : namedL [l, (0, [(c, v)])] = ns at *
    refine ⟨0, by simp, ⟨rfl, by simp [buildR]⟩, fun i hi => ?_⟩
    rcases get_cases ns i hi with ⟨x, hx, hi'⟩ | ⟨hx, hi'⟩
    · refine ⟨fun _ => ⟨by omega, fun y hy => ?_⟩, fun h => by simp at h; omega⟩
      obtain rfl : x = y := by simpa [hx] using hy
      have hbl := build_len l.1 (fun k => if k = c then v else atL l k) (ns.take i)
      rw [List.length_take] at hbl
      refine ⟨fun h => ⟨decide_eq_true (by omega), i + 1, by omega, by omega, wrap_succ hi' hA, ?_⟩, fun h => ⟨decide_eq_true (by omega), i + 1, by omega, by omega, wrap_succ hi' hA, ?_⟩⟩
      · have h : x = c := by simpa using h
        rw [build_take l.1 (fun k => if k = c then v else atL l k) ns i x v hx (by simp [h])]
        exact ⟨rfl, rfl⟩
      · have h : x ≠ c := by simpa using h
        rw [build_take l.1 (fun k => if k = c then v else atL l k) ns i x (atL l x) hx (by simp [h])]
        exact ⟨rfl, rfl⟩
    · subst hi'
      refine ⟨fun h => by simp at h, fun _ => ?_⟩
      simp
  · have hc : catB c = false := by simpa using hc
    simp [withNL, hc]
noncomputable def p36' : Pv PP := ⟨36, _, ⟨rfl, withNL_ok⟩⟩
end Go.Proofs.YtblhojadchbcnaaDoor
