/- The functions of the layer of labels and of its reference, one by one: what each gives; conditions: lengths below a million. -/
import Derived.Test.YtlnclaggmjhbfaaGd8
import Derived.Test.YtlnclaggmjhbfaaPa8
import Derived.Test.YtlnclaggmjhbfaaProg
namespace Go.Proofs.Ytlnclaggmjhbfaa
open Go.Proofs.Ytlnclaggmjhbfaa.Gx
set_option linter.unusedSimpArgs false
set_option linter.unusedVariables false
abbrev i64 : Ty := .int .i64
abbrev ent : Ty := .pair i64 i64
abbrev lab : Ty := .pair i64 (.slice ent)

noncomputable abbrev PP : Program := Try.prog
noncomputable def c15 : Code := Try.f15.body.getD .skip
noncomputable def c14 : Code := Try.f14.body.getD .skip
noncomputable def c33 : Code := Try.f33.body.getD .skip
noncomputable def c34 : Code := Try.f34.body.getD .skip
noncomputable def c24 : Code := Try.f24.body.getD .skip
noncomputable def c42 : Code := Try.f42.body.getD .skip
noncomputable def c32 : Code := Try.f32.body.getD .skip
noncomputable def c31 : Code := Try.f31.body.getD .skip
noncomputable def c52 : Code := Try.f52.body.getD .skip
noncomputable def c50 : Code := Try.f50.body.getD .skip
noncomputable def c48 : Code := Try.f48.body.getD .skip
noncomputable def c54 : Code := Try.f54.body.getD .skip
noncomputable def c53 : Code := Try.f53.body.getD .skip
noncomputable def c65 : Code := Try.f65.body.getD .skip
noncomputable def c63 : Code := Try.f63.body.getD .skip
noncomputable def c55 : Code := Try.f55.body.getD .skip
noncomputable def c77 : Code := Try.f77.body.getD .skip
noncomputable def c78 : Code := Try.f78.body.getD .skip
noncomputable def c85 : Code := Try.f85.body.getD .skip
theorem mixed : PP.follows .mixedOrders = true := by rfl
end Go.Proofs.Ytlnclaggmjhbfaa
namespace Go.Proofs.Ytlnclaggmjhbfaa
open Go.Proofs.Ytlnclaggmjhbfaa.Gx
set_option maxRecDepth 100000
set_option maxHeartbeats 0
def lvLoop (a b : Lab) : List (Nat × (St → Option LoopSpec)) :=
  [(1, fun _ => some { α := Nat × Nat, inv := fun x => (x.1 ≤ a.2.length ∧ x.2 ≤ b.2.length) ∧ (levL a b x.1 x.2).all (fun x => decide (x.2.1 ≤ x.2.2)) = (levL a b 0 0).all (fun x => decide (x.2.1 ≤ x.2.2)), ov := fun x => [(4, .int .i64 (x.1 : Int)), (5, .int .i64 (x.2 : Int))], rov := fun _ => [], meas := fun x => a.2.length + b.2.length - x.1 - x.2 })]
end Go.Proofs.Ytlnclaggmjhbfaa
namespace Go.Proofs.Ytlnclaggmjhbfaa
open Go.Proofs.Ytlnclaggmjhbfaa.Gx
set_option maxRecDepth 100000
set_option maxHeartbeats 2000000
end Go.Proofs.Ytlnclaggmjhbfaa
namespace Go.Proofs.Ytlnclaggmjhbfaa
open Go.Proofs.Ytlnclaggmjhbfaa.Gx
set_option maxRecDepth 100000
set_option maxHeartbeats 0
abbrev intsT : Ty := .slice i64
abbrev labsT : Ty := .slice lab
noncomputable def e0 : Env := env PP [] [] [] [] []
noncomputable def eL (l : List (Nat × (St → Option LoopSpec))) : Env := env PP [] [] [] [] l
theorem level_vc (n : Int) : fvc PP e0 Try.f53 c53 (ofArgs [i64] (n, ())) St0 (gives [.bool] (levelB n, ())) = (
  ∃ (v : Bool), ((decide (n ≥ (0 : Int)) = true → decide (n ≤ (5 : Int)) = v) ∧ (decide (n ≥ (0 : Int)) = !true → false = v)) ∧ v = levelB n ∧ True) := by kernel_rfl
theorem cat_vc (n : Int) : fvc PP e0 Try.f54 c54 (ofArgs [i64] (n, ())) St0 (gives [.bool] (catB n, ())) = (
  ∃ (v : Bool), ((decide (n ≥ (1 : Int)) = true → decide (n ≤ (2305843009213693951 : Int)) = v) ∧ (decide (n ≥ (1 : Int)) = !true → false = v)) ∧ v = catB n ∧ True) := by kernel_rfl
def atLoop (l : Lab) (c : Int) : List (Nat × (St → Option LoopSpec)) :=
  [(2, fun _ => some { α := Nat, inv := fun i => i ≤ l.2.length ∧ atR l.1 (l.2.drop i) c = atL l c, ov := fun i => [(10, .int .i64 (i : Int))], rov := fun _ => [], meas := fun i => l.2.length - i })]
theorem at_vc (l : Lab) (c : Int) : fvc PP (eL (atLoop l c)) Try.f52 c52 (ofArgs [lab, i64] (l, c, ())) St0 (gives [i64] (atL l c, ())) = (
  l.snd.length ≤ maxLen → ∃ (x0 : Nat), (x0 ≤ l.snd.length ∧ atR l.fst (List.drop x0 l.snd) c = atL l c) ∧ ((True ∧ True) ∧ ((0 : Int) = (↑x0 : Int) ∧ (↑l.snd.length : Int) = (↑l.snd.length : Int) ∧ l.snd = l.snd ∧ True 
  ∧ (l.fst = l.fst ∧ l.snd = l.snd ∧ True) ∧ c = c ∧ True) ∧ (l.fst = l.fst ∧ l.snd = l.snd ∧ True) ∧ True) ∧ ∀ (x : Nat), x ≤ l.snd.length ∧ atR l.fst (List.drop x l.snd) c = atL l c → (decide ((↑x : Int) < 
  (↑l.snd.length : Int)) = true → ((0 : Int) ≤ (↑x : Int) ∧ (↑x : Int) < (↑l.snd.length : Int)) ∧ ∀ (y : Int × Int), l.snd[(↑x : Int).toNat]? = some y → ((y.fst == c) = true → y.snd = atL l c ∧ True) ∧ ((y.fst == c) = 
  false → ∃ (x' : Nat), (x' ≤ l.snd.length ∧ atR l.fst (List.drop x' l.snd) c = atL l c) ∧ l.snd.length - x' < l.snd.length - x ∧ (True ∧ True) ∧ (IntKind.i64.wrap ((↑x : Int) + (1 : Int)) = (↑x' : Int) ∧ (↑l.snd.length 
  : Int) = (↑l.snd.length : Int) ∧ l.snd = l.snd ∧ True ∧ (l.fst = l.fst ∧ l.snd = l.snd ∧ True) ∧ c = c ∧ True) ∧ (l.fst = l.fst ∧ l.snd = l.snd ∧ True) ∧ True)) ∧ (decide ((↑x : Int) < (↑l.snd.length : Int)) = false → 
  l.fst = atL l c ∧ True)) := by kernel_rfl
theorem atN_vc (l : Lab) (c : Int) : fvc PP (eL (atLoop l c)) Try.f34 c34 (ofArgs [lab, i64] (l, c, ())) St0 (gives [i64] (atL l c, ())) = (
  l.snd.length ≤ maxLen → ∃ (x0 : Nat), (x0 ≤ l.snd.length ∧ atR l.fst (List.drop x0 l.snd) c = atL l c) ∧ ((True ∧ True) ∧ ((0 : Int) = (↑x0 : Int) ∧ (↑l.snd.length : Int) = (↑l.snd.length : Int) ∧ l.snd = l.snd ∧ True 
  ∧ (l.fst = l.fst ∧ l.snd = l.snd ∧ True) ∧ c = c ∧ True) ∧ (l.fst = l.fst ∧ l.snd = l.snd ∧ True) ∧ True) ∧ ∀ (x : Nat), x ≤ l.snd.length ∧ atR l.fst (List.drop x l.snd) c = atL l c → (decide ((↑x : Int) < 
  (↑l.snd.length : Int)) = true → ((0 : Int) ≤ (↑x : Int) ∧ (↑x : Int) < (↑l.snd.length : Int)) ∧ ∀ (y : Int × Int), l.snd[(↑x : Int).toNat]? = some y → ((y.fst == c) = true → y.snd = atL l c ∧ True) ∧ ((y.fst == c) = 
  false → ∃ (x' : Nat), (x' ≤ l.snd.length ∧ atR l.fst (List.drop x' l.snd) c = atL l c) ∧ l.snd.length - x' < l.snd.length - x ∧ (True ∧ True) ∧ (IntKind.i64.wrap ((↑x : Int) + (1 : Int)) = (↑x' : Int) ∧ (↑l.snd.length 
  : Int) = (↑l.snd.length : Int) ∧ l.snd = l.snd ∧ True ∧ (l.fst = l.fst ∧ l.snd = l.snd ∧ True) ∧ c = c ∧ True) ∧ (l.fst = l.fst ∧ l.snd = l.snd ∧ True) ∧ True)) ∧ (decide ((↑x : Int) < (↑l.snd.length : Int)) = false → 
  l.fst = atL l c ∧ True)) := by kernel_rfl
def hasLoop (l : Lab) (c : Int) : List (Nat × (St → Option LoopSpec)) :=
  [(2, fun _ => some { α := Nat, inv := fun i => i ≤ l.2.length ∧ hasR c (l.2.drop i) = hasR c l.2, ov := fun i => [(10, .int .i64 (i : Int))], rov := fun _ => [], meas := fun i => l.2.length - i })]
theorem hasN_vc (l : Lab) (c : Int) : fvc PP (eL (hasLoop l c)) Try.f31 c31 (ofArgs [lab, i64] (l, c, ())) St0 (gives [.bool] (hasL l c, ())) = (
  l.snd.length ≤ maxLen → ∃ (x0 : Nat), (x0 ≤ l.snd.length ∧ hasR c (List.drop x0 l.snd) = hasR c l.snd) ∧ ((True ∧ True) ∧ ((0 : Int) = (↑x0 : Int) ∧ (↑l.snd.length : Int) = (↑l.snd.length : Int) ∧ l.snd = l.snd ∧ True 
  ∧ (l.fst = l.fst ∧ l.snd = l.snd ∧ True) ∧ c = c ∧ True) ∧ (l.fst = l.fst ∧ l.snd = l.snd ∧ True) ∧ True) ∧ ∀ (x : Nat), x ≤ l.snd.length ∧ hasR c (List.drop x l.snd) = hasR c l.snd → (decide ((↑x : Int) < 
  (↑l.snd.length : Int)) = true → ((0 : Int) ≤ (↑x : Int) ∧ (↑x : Int) < (↑l.snd.length : Int)) ∧ ∀ (y : Int × Int), l.snd[(↑x : Int).toNat]? = some y → ((y.snd == c) = true → true = hasL l c ∧ True) ∧ ((y.snd == c) = 
  false → ∃ (x' : Nat), (x' ≤ l.snd.length ∧ hasR c (List.drop x' l.snd) = hasR c l.snd) ∧ l.snd.length - x' < l.snd.length - x ∧ (True ∧ True) ∧ (IntKind.i64.wrap ((↑x : Int) + (1 : Int)) = (↑x' : Int) ∧ (↑l.snd.length 
  : Int) = (↑l.snd.length : Int) ∧ l.snd = l.snd ∧ True ∧ (l.fst = l.fst ∧ l.snd = l.snd ∧ True) ∧ c = c ∧ True) ∧ (l.fst = l.fst ∧ l.snd = l.snd ∧ True) ∧ True)) ∧ (decide ((↑x : Int) < (↑l.snd.length : Int)) = false → 
  (l.fst == c) = hasL l c ∧ True)) := by kernel_rfl
def ruleLoop (l : List Bool) : List (Nat × (St → Option LoopSpec)) :=
  [(2, fun _ => some { α := Nat, inv := fun i => i ≤ l.length ∧ (l.drop i).all id = l.all id, ov := fun i => [(7, .int .i64 (i : Int))], rov := fun _ => [], meas := fun i => l.length - i })]
def rightLoop (l : Lab) : List (Nat × (St → Option LoopSpec)) :=
  [(5, fun _ => some { α := Nat × Int, inv := fun x => x.1 ≤ l.2.length ∧ rowsR l.1 x.2 (l.2.drop x.1) = rowsR l.1 0 l.2, ov := fun x => [(23, .int .i64 (x.1 : Int)), (3, .int .i64 x.2)], rov := fun _ => [], meas := fun x => l.2.length - x.1 })]
theorem right_vc (l : Lab) : fvc PP (eL (rightLoop l)) Try.f65 c65 (ofArgs [lab] (l, ())) St0 (gives [.bool] (rightL l, ())) = (
  ∃ (v : Bool), ((decide (l.fst < (0 : Int)) = false → (decide (l.fst > (5 : Int)) = false → l.snd.length ≤ maxLen → decide ((↑l.snd.length : Int) > (16 : Int)) = v) ∧ (decide (l.fst > (5 : Int)) = !false → true = v)) ∧ 
  (decide (l.fst < (0 : Int)) = !false → true = v)) ∧ (v = true → false = rightL l ∧ True) ∧ (v = false → l.snd.length ≤ maxLen → ∃ (x0 : Nat × Int), (x0.fst ≤ l.snd.length ∧ rowsR l.fst x0.snd (List.drop x0.fst l.snd) = 
  rowsR l.fst (0 : Int) l.snd) ∧ ((True ∧ True) ∧ ((0 : Int) = (↑x0.fst : Int) ∧ (0 : Int) = x0.snd ∧ (↑l.snd.length : Int) = (↑l.snd.length : Int) ∧ l.snd = l.snd ∧ false = false ∧ True ∧ (l.fst = l.fst ∧ l.snd = l.snd 
  ∧ True) ∧ True) ∧ (l.fst = l.fst ∧ l.snd = l.snd ∧ True) ∧ True) ∧ ∀ (x : Nat × Int), x.fst ≤ l.snd.length ∧ rowsR l.fst x.snd (List.drop x.fst l.snd) = rowsR l.fst (0 : Int) l.snd → (decide ((↑x.fst : Int) < 
  (↑l.snd.length : Int)) = true → ((0 : Int) ≤ (↑x.fst : Int) ∧ (↑x.fst : Int) < (↑l.snd.length : Int)) ∧ ∀ (y : Int × Int), l.snd[(↑x.fst : Int).toNat]? = some y → ∃ (v : Bool), ((decide (y.fst ≤ x.snd) = false → 
  (decide (y.fst > (2305843009213693951 : Int)) = false → (decide (y.snd < (0 : Int)) = false → (decide (y.snd > (5 : Int)) = false → (y.snd == l.fst) = v) ∧ (decide (y.snd > (5 : Int)) = !false → true = v)) ∧ (decide 
  (y.snd < (0 : Int)) = !false → true = v)) ∧ (decide (y.fst > (2305843009213693951 : Int)) = !false → true = v)) ∧ (decide (y.fst ≤ x.snd) = !false → true = v)) ∧ (v = true → false = rightL l ∧ True) ∧ (v = false → ∃ 
  (x' : Nat × Int), (x'.fst ≤ l.snd.length ∧ rowsR l.fst x'.snd (List.drop x'.fst l.snd) = rowsR l.fst (0 : Int) l.snd) ∧ l.snd.length - x'.fst < l.snd.length - x.fst ∧ (True ∧ True) ∧ (IntKind.i64.wrap ((↑x.fst : Int) + 
  (1 : Int)) = (↑x'.fst : Int) ∧ y.fst = x'.snd ∧ (↑l.snd.length : Int) = (↑l.snd.length : Int) ∧ l.snd = l.snd ∧ false = false ∧ True ∧ (l.fst = l.fst ∧ l.snd = l.snd ∧ True) ∧ True) ∧ (l.fst = l.fst ∧ l.snd = l.snd ∧ 
  True) ∧ True)) ∧ (decide ((↑x.fst : Int) < (↑l.snd.length : Int)) = false → true = rightL l ∧ True))) := by kernel_rfl
end Go.Proofs.Ytlnclaggmjhbfaa
namespace Go.Proofs.Ytlnclaggmjhbfaa
open Go.Proofs.Ytlnclaggmjhbfaa.Gx
set_option maxRecDepth 100000
set_option maxHeartbeats 2000000
set_option linter.unusedSimpArgs false
set_option linter.unusedVariables false
theorem level_ok : PSpecOk PP 53 (Q [i64] [.bool] (fun _ => true) (fun x => (levelB x.1, ()))) := by
  refine pspec_Q mixed (fn := Try.f53) (c := c53) rfl rfl _ _ rfl ?_
  rintro ⟨n, ⟨⟩⟩ - -
  refine ⟨e0, env_ok .., rfl, hold (level_vc n) ?_⟩
  simp only [true_and, and_true]
  refine ⟨levelB n, ?_, ?_⟩ <;> simp [levelB] <;> omega
theorem cat_ok : PSpecOk PP 54 (Q [i64] [.bool] (fun _ => true) (fun x => (catB x.1, ()))) := by
  refine pspec_Q mixed (fn := Try.f54) (c := c54) rfl rfl _ _ rfl ?_
  rintro ⟨n, ⟨⟩⟩ - -
  refine ⟨e0, env_ok .., rfl, hold (cat_vc n) ?_⟩
  simp only [true_and, and_true]
  refine ⟨catB n, ?_, ?_⟩ <;> (intros; rw [Bool.eq_iff_iff]; try (simp_all [catB, maxId] <;> try omega))
theorem at_ok : PSpecOk PP 52 (Q [lab, i64] [i64] (fun _ => true) (fun x => (atL x.1 x.2.1, ()))) := by
  refine pspec_Q mixed (fn := Try.f52) (c := c52) rfl rfl _ _ rfl ?_
  rintro ⟨l, c, ⟨⟩⟩ ⟨⟨-, ⟨hA, -⟩⟩, -⟩ -
  simp only at hA
  refine ⟨eL (atLoop l c), env_ok .., rfl, hold (at_vc l c) ?_⟩
  simp only [true_and, and_true]
  intro _
  refine ⟨0, ⟨by simp, rfl⟩, rfl, ?_⟩
  rintro i ⟨hi, hinv⟩
  rcases get_cases l.2 i hi with ⟨x, hx, hi'⟩ | ⟨hx, hi'⟩
  · rw [drop_get hx] at hinv
    simp only [atR] at hinv
    refine ⟨fun _ => ⟨by omega, fun y hy => ?_⟩, fun h => by simp at h; omega⟩
    obtain rfl : x = y := by simpa [hx] using hy
    refine ⟨fun h => by rw [h] at hinv; simpa using hinv, fun h => ⟨i + 1, ⟨by omega, ?_⟩, by omega, wrap_succ hi' hA⟩⟩
    rw [h] at hinv; simpa using hinv
  · subst hi'
    refine ⟨fun h => by simp at h, fun _ => ?_⟩
    rw [List.drop_length] at hinv
    simpa [atR] using hinv
theorem atN_ok : PSpecOk PP 34 (Q [lab, i64] [i64] (fun _ => true) (fun x => (atL x.1 x.2.1, ()))) := by
  refine pspec_Q mixed (fn := Try.f34) (c := c34) rfl rfl _ _ rfl ?_
  rintro ⟨l, c, ⟨⟩⟩ ⟨⟨-, ⟨hA, -⟩⟩, -⟩ -
  simp only at hA
  refine ⟨eL (atLoop l c), env_ok .., rfl, hold (atN_vc l c) ?_⟩
  simp only [true_and, and_true]
  intro _
  refine ⟨0, ⟨by simp, rfl⟩, rfl, ?_⟩
  rintro i ⟨hi, hinv⟩
  rcases get_cases l.2 i hi with ⟨x, hx, hi'⟩ | ⟨hx, hi'⟩
  · rw [drop_get hx] at hinv
    simp only [atR] at hinv
    refine ⟨fun _ => ⟨by omega, fun y hy => ?_⟩, fun h => by simp at h; omega⟩
    obtain rfl : x = y := by simpa [hx] using hy
    refine ⟨fun h => by rw [h] at hinv; simpa using hinv, fun h => ⟨i + 1, ⟨by omega, ?_⟩, by omega, wrap_succ hi' hA⟩⟩
    rw [h] at hinv; simpa using hinv
  · subst hi'
    refine ⟨fun h => by simp at h, fun _ => ?_⟩
    rw [List.drop_length] at hinv
    simpa [atR] using hinv
theorem hasN_ok : PSpecOk PP 31 (Q [lab, i64] [.bool] (fun _ => true) (fun x => (hasL x.1 x.2.1, ()))) := by
  refine pspec_Q mixed (fn := Try.f31) (c := c31) rfl rfl _ _ rfl ?_
  rintro ⟨l, c, ⟨⟩⟩ ⟨⟨-, ⟨hA, -⟩⟩, -⟩ -
  simp only at hA
  refine ⟨eL (hasLoop l c), env_ok .., rfl, hold (hasN_vc l c) ?_⟩
  simp only [true_and, and_true]
  intro _
  refine ⟨0, ⟨by simp, rfl⟩, rfl, ?_⟩
  rintro i ⟨hi, hinv⟩
  rcases get_cases l.2 i hi with ⟨x, hx, hi'⟩ | ⟨hx, hi'⟩
  · rw [drop_get hx] at hinv
    simp only [hasR] at hinv
    refine ⟨fun _ => ⟨by omega, fun y hy => ?_⟩, fun h => by simp at h; omega⟩
    obtain rfl : x = y := by simpa [hx] using hy
    refine ⟨fun h => by rw [h] at hinv; simp [hasL, ← hinv], fun h => ⟨i + 1, ⟨by omega, ?_⟩, by omega, wrap_succ hi' hA⟩⟩
    rw [h] at hinv; simpa using hinv
  · subst hi'
    refine ⟨fun h => by simp at h, fun _ => ?_⟩
    rw [List.drop_length] at hinv
    simp [hasL, ← hinv, hasR]
theorem right_ok : PSpecOk PP 65 (Q [lab] [.bool] (fun _ => true) (fun x => (rightL x.1, ()))) := by
  refine pspec_Q mixed (fn := Try.f65) (c := c65) rfl rfl _ _ rfl ?_
  rintro ⟨l, ⟨⟩⟩ ⟨⟨-, ⟨hA, -⟩⟩, -⟩ -
  simp only at hA
  refine ⟨eL (rightLoop l), env_ok .., rfl, hold (right_vc l) ?_⟩
  simp only [true_and, and_true]
  refine ⟨!(levelB l.1 && decide (l.2.length ≤ 16)), ?_, ?_, ?_⟩
  · repeat' first | (intro _) | (apply And.intro)
    all_goals (rw [Bool.eq_iff_iff]; try (simp_all [levelB] <;> try omega))
  · intro h
    simp only [rightL]
    cases h1 : levelB l.1 <;> cases h2 : decide (l.2.length ≤ 16) <;> simp_all
  · intro h _
    simp at h
    have hr : rightL l = rowsR l.1 0 l.2 := by simp [rightL, h]
    refine ⟨(0, 0), ⟨by simp, rfl⟩, ⟨rfl, rfl⟩, ?_⟩
    rintro ⟨i, last⟩ ⟨hi, hinv⟩
    simp only at hi hinv ⊢
    rcases get_cases l.2 i hi with ⟨x, hx, hi'⟩ | ⟨hx, hi'⟩
    · rw [drop_get hx] at hinv
      simp only [rowsR] at hinv
      refine ⟨fun _ => ⟨by omega, fun y hy => ?_⟩, fun h => by simp at h; omega⟩
      obtain rfl : x = y := by simpa [hx] using hy
      refine ⟨!(decide (last < x.1) && (decide (x.1 ≤ maxId) && (levelB x.2 && !(x.2 == l.1)))), ?_, ?_, ?_⟩
      · clear hinv
        repeat' first | (intro _) | (apply And.intro)
        all_goals (rw [Bool.eq_iff_iff]; try (simp_all [levelB, maxId] <;> try omega))
      · intro hv
        rw [hr, ← hinv]
        cases h1 : decide (last < x.1) <;> cases h2 : decide (x.1 ≤ maxId) <;> cases h3 : levelB x.2 <;> cases h4 : x.2 == l.1 <;> simp_all
      · intro hv
        refine ⟨(i + 1, x.1), ⟨by omega, ?_⟩, by simp only; omega, wrap_succ hi' hA, rfl⟩
        rw [← hinv]
        cases h1 : decide (last < x.1) <;> cases h2 : decide (x.1 ≤ maxId) <;> cases h3 : levelB x.2 <;> cases h4 : x.2 == l.1 <;> simp_all
    · subst hi'
      refine ⟨fun h => by simp at h, fun _ => ?_⟩
      rw [List.drop_length] at hinv
      rw [hr, ← hinv]; rfl
end Go.Proofs.Ytlnclaggmjhbfaa
namespace Go.Proofs.Ytlnclaggmjhbfaa
open Go.Proofs.Ytlnclaggmjhbfaa.Gx
set_option maxRecDepth 100000
set_option maxHeartbeats 0
noncomputable def p53 : Pv PP := ⟨53, _, ⟨rfl, level_ok⟩⟩
noncomputable def p54 : Pv PP := ⟨54, _, ⟨rfl, cat_ok⟩⟩
noncomputable def p52 : Pv PP := ⟨52, _, ⟨rfl, at_ok⟩⟩
noncomputable def p34 : Pv PP := ⟨34, _, ⟨rfl, atN_ok⟩⟩
noncomputable def p31 : Pv PP := ⟨31, _, ⟨rfl, hasN_ok⟩⟩
noncomputable def p65 : Pv PP := ⟨65, _, ⟨rfl, right_ok⟩⟩
noncomputable def eP (l : List (Pv PP)) : Env := env PP l [] [] [] []
def rightNLoop (l : Lab) : List (Nat × (St → Option LoopSpec)) :=
  [(4, fun _ => some { α := Nat × Int, inv := fun x => x.1 ≤ l.2.length ∧ rowsR l.1 x.2 (l.2.drop x.1) = rowsR l.1 0 l.2 ∧ (x.1 = 0 → x.2 = 0) ∧ (∀ y, x.1 ≠ 0 → l.2[x.1 - 1]? = some y → y.1 = x.2 ∧ 0 < x.2), ov := fun x => [(18, .int .i64 (x.1 : Int))], rov := fun _ => [], meas := fun x => l.2.length - x.1 })]
theorem rightN_vc (l : Lab) : fvc PP (env PP [p54, p53] [] [] [] (rightNLoop l)) Try.f32 c32 (ofArgs [lab] (l, ())) St0 (gives [.bool] (rightL l, ())) = (
  true = true ∧ ((!levelB l.fst) = false → l.snd.length ≤ maxLen → (decide ((↑l.snd.length : Int) > (16 : Int)) = true → false = rightL l ∧ True) ∧ (decide ((↑l.snd.length : Int) > (16 : Int)) = false → l.snd.length ≤ 
  maxLen → ∃ (x0 : Nat × Int), (x0.fst ≤ l.snd.length ∧ rowsR l.fst x0.snd (List.drop x0.fst l.snd) = rowsR l.fst (0 : Int) l.snd ∧ (x0.fst = (0 : Nat) → x0.snd = (0 : Int)) ∧ ∀ (y : Int × Int), x0.fst ≠ (0 : Nat) → 
  l.snd[x0.fst - (1 : Nat)]? = some y → y.fst = x0.snd ∧ (0 : Int) < x0.snd) ∧ ((True ∧ True) ∧ ((0 : Int) = (↑x0.fst : Int) ∧ (↑l.snd.length : Int) = (↑l.snd.length : Int) ∧ l.snd = l.snd ∧ false = false ∧ True ∧ (l.fst 
  = l.fst ∧ l.snd = l.snd ∧ True) ∧ True) ∧ (l.fst = l.fst ∧ l.snd = l.snd ∧ True) ∧ True) ∧ ∀ (x : Nat × Int), (x.fst ≤ l.snd.length ∧ rowsR l.fst x.snd (List.drop x.fst l.snd) = rowsR l.fst (0 : Int) l.snd ∧ (x.fst = 
  (0 : Nat) → x.snd = (0 : Int)) ∧ ∀ (y : Int × Int), x.fst ≠ (0 : Nat) → l.snd[x.fst - (1 : Nat)]? = some y → y.fst = x.snd ∧ (0 : Int) < x.snd) → (decide ((↑x.fst : Int) < (↑l.snd.length : Int)) = true → ((0 : Int) ≤ 
  (↑x.fst : Int) ∧ (↑x.fst : Int) < (↑l.snd.length : Int)) ∧ ∀ (y : Int × Int), l.snd[(↑x.fst : Int).toNat]? = some y → ∃ (v : Bool), (true = true ∧ ((!catB y.fst) = false → true = true ∧ ((!levelB y.snd) = false → 
  ((y.snd == l.fst) = false → (decide ((↑x.fst : Int) > (0 : Int)) = true → ((0 : Int) ≤ IntKind.i64.wrap ((↑x.fst : Int) - (1 : Int)) ∧ IntKind.i64.wrap ((↑x.fst : Int) - (1 : Int)) < (↑l.snd.length : Int)) ∧ ∀ (y_1 : 
  Int × Int), l.snd[(IntKind.i64.wrap ((↑x.fst : Int) - (1 : Int))).toNat]? = some y_1 → decide (y_1.fst ≥ y.fst) = v) ∧ (decide ((↑x.fst : Int) > (0 : Int)) = !true → false = v)) ∧ ((y.snd == l.fst) = !false → true = 
  v)) ∧ ((!levelB y.snd) = !false → true = v)) ∧ ((!catB y.fst) = !false → true = v)) ∧ (v = true → false = rightL l ∧ True) ∧ (v = false → ∃ (x' : Nat × Int), (x'.fst ≤ l.snd.length ∧ rowsR l.fst x'.snd (List.drop 
  x'.fst l.snd) = rowsR l.fst (0 : Int) l.snd ∧ (x'.fst = (0 : Nat) → x'.snd = (0 : Int)) ∧ ∀ (y : Int × Int), x'.fst ≠ (0 : Nat) → l.snd[x'.fst - (1 : Nat)]? = some y → y.fst = x'.snd ∧ (0 : Int) < x'.snd) ∧ 
  l.snd.length - x'.fst < l.snd.length - x.fst ∧ (True ∧ True) ∧ (IntKind.i64.wrap ((↑x.fst : Int) + (1 : Int)) = (↑x'.fst : Int) ∧ (↑l.snd.length : Int) = (↑l.snd.length : Int) ∧ l.snd = l.snd ∧ false = false ∧ True ∧ 
  (l.fst = l.fst ∧ l.snd = l.snd ∧ True) ∧ True) ∧ (l.fst = l.fst ∧ l.snd = l.snd ∧ True) ∧ True)) ∧ (decide ((↑x.fst : Int) < (↑l.snd.length : Int)) = false → true = rightL l ∧ True))) ∧ ((!levelB l.fst) = !false → 
  false = rightL l ∧ True)) := by kernel_rfl
noncomputable def s78 : Sv PP := ⟨78, inl PP e0 Try.f78 c78, ⟨rfl, inl_ok (env_ok ..) rfl mixed rfl rfl⟩⟩
def idxLoop (l : Lab) (v : Int) : List (Nat × (St → Option LoopSpec)) :=
  [(2, fun _ => some { α := Nat, inv := fun i => i ≤ l.2.length ∧ hasR v (l.2.drop i) = hasR v l.2, ov := fun i => [(8, .int .i64 (i : Int))], rov := fun _ => [], meas := fun i => l.2.length - i })]
noncomputable def s85 (l : Lab) (v : Int) : Sv PP := ⟨85, inl PP (env PP [] [s78] [] [] (idxLoop l v)) Try.f85 c85, ⟨rfl, inl_ok (env_ok ..) rfl mixed rfl rfl⟩⟩
noncomputable def s77 (l : Lab) (v : Int) : Sv PP := ⟨77, inl PP (env PP [] [s85 l v] [] [] []) Try.f77 c77, ⟨rfl, inl_ok (env_ok ..) rfl mixed rfl rfl⟩⟩
theorem has_vc (l : Lab) (v : Int) : fvc PP (env PP [] [s77 l v] [] [] []) Try.f63 c63 (ofArgs [lab, i64] (l, v, ())) St0 (gives [.bool] (hasL l v, ())) = (
  ((l.fst == v) = false → l.snd.length ≤ maxLen → ∃ (x0 : Nat), (x0 ≤ l.snd.length ∧ hasR v (List.drop x0 l.snd) = hasR v l.snd) ∧ ((((True ∧ True) ∧ l.snd = l.snd ∧ false = false ∧ l.snd = l.snd ∧ (True ∧ True) ∧ True) 
  ∧ ((True ∧ True) ∧ l.snd = l.snd ∧ True ∧ false = false ∧ false = false ∧ (l.fst == v) = (l.fst == v) ∧ v = v ∧ l.fst = l.fst ∧ True ∧ false = false ∧ True ∧ True ∧ (l.fst = l.fst ∧ l.snd = l.snd ∧ True) ∧ v = v ∧ 
  True) ∧ True ∧ True) ∧ ((0 : Int) = (↑x0 : Int) ∧ (↑l.snd.length : Int) = (↑l.snd.length : Int) ∧ l.snd = l.snd ∧ (True ∧ True) ∧ True) ∧ (l.fst = l.fst ∧ l.snd = l.snd ∧ True) ∧ (v = v ∧ True) ∧ True) ∧ ∀ (x : Nat), x 
  ≤ l.snd.length ∧ hasR v (List.drop x l.snd) = hasR v l.snd → (decide ((↑x : Int) < (↑l.snd.length : Int)) = true → ((0 : Int) ≤ (↑x : Int) ∧ (↑x : Int) < (↑l.snd.length : Int)) ∧ ∀ (y : Int × Int), l.snd[(↑x : 
  Int).toNat]? = some y → ((y.snd == v) = true → decide ((↑x : Int) ≥ (0 : Int)) = hasL l v ∧ True) ∧ ((y.snd == v) = false → ∃ (x' : Nat), (x' ≤ l.snd.length ∧ hasR v (List.drop x' l.snd) = hasR v l.snd) ∧ l.snd.length 
  - x' < l.snd.length - x ∧ (((True ∧ True) ∧ l.snd = l.snd ∧ false = false ∧ l.snd = l.snd ∧ (True ∧ True) ∧ True) ∧ ((True ∧ True) ∧ l.snd = l.snd ∧ True ∧ false = false ∧ false = false ∧ (l.fst == v) = (l.fst == v) ∧ 
  v = v ∧ l.fst = l.fst ∧ True ∧ false = false ∧ True ∧ True ∧ (l.fst = l.fst ∧ l.snd = l.snd ∧ True) ∧ v = v ∧ True) ∧ True ∧ True) ∧ (IntKind.i64.wrap ((↑x : Int) + (1 : Int)) = (↑x' : Int) ∧ (↑l.snd.length : Int) = 
  (↑l.snd.length : Int) ∧ l.snd = l.snd ∧ (True ∧ True) ∧ True) ∧ (l.fst = l.fst ∧ l.snd = l.snd ∧ True) ∧ (v = v ∧ True) ∧ True)) ∧ (decide ((↑x : Int) < (↑l.snd.length : Int)) = false → decide ((-1 : Int) ≥ (0 : Int)) 
  = hasL l v ∧ True)) ∧ ((l.fst == v) = !false → true = hasL l v ∧ True)) := by kernel_rfl
def turnedLoop (l : Lab) (a b : Int) : List (Nat × (St → Option LoopSpec)) :=
  [(4, fun _ => some { α := Nat, inv := fun i => i ≤ l.2.length ∧ True, ov := fun i => [(21, .int .i64 (i : Int))], rov := fun i => [(4, .blk 0 [.int .i64 (turn1 a b l.1), .row 5]), (5, .row 0 ent (turnR (turn1 a b l.1) a b (l.2.take i)))], meas := fun i => l.2.length - i, nil := [(.cell 4 1, 50, ent)] })]
def turnLoop (l : Lab) (a b : Int) : List (Nat × (St → Option LoopSpec)) :=
  [(5, fun _ => some { α := Nat, inv := fun i => i ≤ l.2.length ∧ True, ov := fun i => [(23, .int .i64 (i : Int))], rov := fun i => [(2, .blk 0 [.int .i64 (turn1 a b l.1), .rs ent (turnR (turn1 a b l.1) a b (l.2.take i))])], meas := fun i => l.2.length - i })]
end Go.Proofs.Ytlnclaggmjhbfaa
namespace Go.Proofs.Ytlnclaggmjhbfaa
open Go.Proofs.Ytlnclaggmjhbfaa.Gx
set_option maxRecDepth 100000
set_option maxHeartbeats 2000000
set_option linter.unusedSimpArgs false
set_option linter.unusedVariables false
theorem has_ok : PSpecOk PP 63 (Q [lab, i64] [.bool] (fun _ => true) (fun x => (hasL x.1 x.2.1, ()))) := by
  refine pspec_Q mixed (fn := Try.f63) (c := c63) rfl rfl _ _ rfl ?_
  rintro ⟨l, v, ⟨⟩⟩ ⟨⟨-, ⟨hA, -⟩⟩, -⟩ -
  simp only at hA
  refine ⟨_, env_ok [] [s77 l v] [] [] [], rfl, hold (has_vc l v) ?_⟩
  simp only [true_and, and_true]
  refine ⟨fun h0 _ => ?_, fun h => by simp at h; simp [hasL, h]⟩
  refine ⟨0, ⟨by simp, rfl⟩, rfl, ?_⟩
  rintro i ⟨hi, hinv⟩
  rcases get_cases l.2 i hi with ⟨x, hx, hi'⟩ | ⟨hx, hi'⟩
  · rw [drop_get hx] at hinv
    simp only [hasR] at hinv
    refine ⟨fun _ => ⟨by omega, fun y hy => ?_⟩, fun h => by simp at h; omega⟩
    obtain rfl : x = y := by simpa [hx] using hy
    refine ⟨fun h => by rw [h] at hinv; simp [hasL, ← hinv], fun h => ⟨i + 1, ⟨by omega, ?_⟩, by omega, wrap_succ hi' hA⟩⟩
    rw [h] at hinv; simpa using hinv
  · subst hi'
    refine ⟨fun h => by simp at h, fun _ => ?_⟩
    rw [List.drop_length] at hinv
    simp at h0
    simp [hasL, ← hinv, hasR, h0]
theorem turnR_snoc (d a b : Int) : (l : List (Int × Int)) → (x : Int × Int) → turnR d a b (l ++ [x]) = turnR d a b l ++ (if turn1 a b x.2 = d then [] else [(x.1, turn1 a b x.2)])
  | [], x => by simp [turnR]
  | y :: l, x => by simp only [List.cons_append, turnR, turnR_snoc d a b l x]; split <;> simp
theorem turnR_len (d a b : Int) : (l : List (Int × Int)) → (turnR d a b l).length ≤ l.length
  | [] => by simp [turnR]
  | y :: l => by simp only [turnR]; have := turnR_len d a b l; split <;> simp <;> omega
theorem take_snoc {α : Type} {l : List α} {i : Nat} {x : α} (h : l[i]? = some x) : l.take (i + 1) = l.take i ++ [x] := by
  obtain ⟨hlt, rfl⟩ := List.getElem?_eq_some_iff.1 h
  rw [List.take_succ_eq_append_getElem hlt]
theorem put_fst (l : Lab) (c v : Int) : (putL l c v).1 = l.1 := by unfold putL; split <;> rfl
end Go.Proofs.Ytlnclaggmjhbfaa
namespace Go.Proofs.Ytlnclaggmjhbfaa
open Go.Proofs.Ytlnclaggmjhbfaa.Gx
set_option maxRecDepth 100000
set_option maxHeartbeats 0
noncomputable def p63 : Pv PP := ⟨63, _, ⟨rfl, has_ok⟩⟩
theorem plain_vc (l : Lab) : fvc PP (eP [p65, p63]) Try.f50 c50 (ofArgs [lab] (l, ())) St0 (gives [.bool] (plainL l, ())) = (
  true = true ∧ (rightL (l.fst, l.snd) = true → true = true ∧ (!hasL (l.fst, l.snd) (5 : Int)) = plainL l ∧ True) ∧ (rightL (l.fst, l.snd) = !true → false = plainL l ∧ True)) := by kernel_rfl
end Go.Proofs.Ytlnclaggmjhbfaa
namespace Go.Proofs.Ytlnclaggmjhbfaa
open Go.Proofs.Ytlnclaggmjhbfaa.Gx
set_option maxRecDepth 100000
set_option maxHeartbeats 2000000
set_option linter.unusedSimpArgs false
set_option linter.unusedVariables false
theorem plain_ok : PSpecOk PP 50 (Q [lab] [.bool] (fun _ => true) (fun x => (plainL x.1, ()))) := by
  refine pspec_Q mixed (fn := Try.f50) (c := c50) rfl rfl _ _ rfl ?_
  rintro ⟨l, ⟨⟩⟩ - -
  refine ⟨_, env_ok [p65, p63] [] [] [] [], rfl, hold (plain_vc l) ?_⟩
  simp only [true_and, and_true]
  constructor <;> intro h
  · have h : rightL l = true := h; simp [plainL, h]
  · have h : rightL l = !true := h; simp at h; simp [plainL, h]
theorem rightN_ok : PSpecOk PP 32 (Q [lab] [.bool] (fun _ => true) (fun x => (rightL x.1, ()))) := by
  refine pspec_Q mixed (fn := Try.f32) (c := c32) rfl rfl _ _ rfl ?_
  rintro ⟨l, ⟨⟩⟩ ⟨⟨-, ⟨hA, -⟩⟩, -⟩ -
  simp only at hA
  refine ⟨_, env_ok [p54, p53] [] [] [] (rightNLoop l), rfl, hold (rightN_vc l) ?_⟩
  simp only [true_and, and_true]
  refine ⟨fun h0 _ => ⟨fun h1 => ?_, fun h1 _ => ?_⟩, fun h0 => ?_⟩
  · simp at h1
    have : ¬ (l.2.length ≤ 16) := by omega
    simp [rightL, this]
  · simp at h0 h1
    have h1' : l.2.length ≤ 16 := by omega
    have hr : rightL l = rowsR l.1 0 l.2 := by simp [rightL, h0, h1']
    refine ⟨(0, 0), ⟨by simp, rfl, fun _ => rfl, fun y h => absurd rfl h⟩, rfl, ?_⟩
    rintro ⟨i, last⟩ ⟨hi, hinv, hl0, hl1⟩
    simp only at hi hinv hl0 hl1 ⊢
    rcases get_cases l.2 i hi with ⟨x, hx, hi'⟩ | ⟨hx, hi'⟩
    · rw [drop_get hx] at hinv
      simp only [rowsR] at hinv
      refine ⟨fun _ => ⟨by omega, fun y hy => ?_⟩, fun h => by simp at h; omega⟩
      obtain rfl : x = y := by simpa [hx] using hy
      have hpos : 0 ≤ last := by
        rcases Nat.eq_zero_or_pos i with h | h
        · rw [hl0 h]; omega
        · have := (hl1 l.2[i-1] (by omega) (List.getElem?_eq_getElem (by omega))).2; omega
      have hw : IntKind.i64.wrap ((i : Int) - 1) = (i : Int) - 1 := wrap64 (by omega) (by rw [maxLen_eq] at hA; omega)
      rw [hw]
      obtain ⟨c, hc⟩ : ∃ c, c = (catB x.1 && (levelB x.2 && (!(x.2 == l.1) && decide (last < x.1)))) := ⟨_, rfl⟩
      have key : ∀ r : Bool, (decide (last < x.1) && (decide (x.1 ≤ maxId) && (levelB x.2 && (!(x.2 == l.1) && r)))) = (c && r) := by
        intro r
        rw [hc, Bool.eq_iff_iff]
        simp [catB]
        constructor
        · rintro ⟨a, b, c, d, e⟩; exact ⟨⟨⟨by omega, b⟩, c, d, a⟩, e⟩
        · rintro ⟨⟨⟨a, b⟩, c, d, e⟩, f⟩; exact ⟨e, b, c, d, f⟩
      rw [key] at hinv
      refine ⟨!c, ?_, ?_, ?_⟩
      · rw [hc]
        refine ⟨fun e1 => ⟨fun e2 => ⟨fun e3 => ⟨fun e4 => ⟨?_, fun y hy => ?_⟩, fun e4 => ?_⟩, fun e3 => ?_⟩, fun e2 => ?_⟩, fun e1 => ?_⟩
        · simp at e4; omega
        · simp at e1 e2 e3 e4
          have hy' : l.2[i - 1]? = some y := by
            rw [show ((i : Int) - 1).toNat = i - 1 by omega] at hy; exact hy
          have := (hl1 y (by omega) hy').1
          rw [Bool.eq_iff_iff]
          simp [e1, e2, e3, this]
        · simp at e1 e2 e3 e4
          subst e4
          have := hl0 rfl
          subst this
          have hx0 : (0 : Int) < x.1 := by
            simp [catB] at e1
            have := e1.1
            omega
          simp [e1, e2, e3, hx0]
        · simp at e1 e2 e3; simp [e1, e2, e3]
        · simp at e1 e2; simp [e1, e2]
        · simp at e1; simp [e1]
      · intro hv
        simp at hv
        rw [hr, ← hinv, hv]; rfl
      · intro hv
        simp at hv
        rw [hv, Bool.true_and] at hinv
        have hcx : catB x.1 = true := by rw [hc] at hv; simp at hv; exact hv.1
        refine ⟨(i + 1, x.1), ⟨by omega, hinv, fun h => by simp at h, fun y _ hy => ?_⟩, by simp only; omega, wrap_succ hi' hA⟩
        have : x = y := by simpa [hx] using hy
        subst this
        refine ⟨rfl, ?_⟩
        simp [catB] at hcx; omega
    · subst hi'
      refine ⟨fun h => by simp at h, fun _ => ?_⟩
      rw [List.drop_length] at hinv
      rw [hr, ← hinv]; rfl
  · simp at h0; simp [rightL, h0]
end Go.Proofs.Ytlnclaggmjhbfaa
namespace Go.Proofs.Ytlnclaggmjhbfaa
open Go.Proofs.Ytlnclaggmjhbfaa.Gx
set_option maxRecDepth 100000
set_option maxHeartbeats 0
def namedLoop (ls : List Lab) : List (Nat × (St → Option LoopSpec)) :=
  [(3, fun _ => some { α := Nat, inv := fun i => i ≤ ls.length ∧ True, ov := fun i => [(13, .int .i64 (i : Int)), (3, .row 0)], rov := fun i => [(0, .row 0 i64 (namedL (ls.take i)))], meas := fun i => ls.length - i, mv := [(.slot 3, 0)] }),
   (6, fun (S : St) => match getT S.fr.tm 18, (S.res[0]? : Option Res) with
      | .rs (.pair (.int .i64) (.int .i64)) cs, some (Res.row _ (Ty.int IntKind.i64) base) => some { α := Nat, inv := fun j => j ≤ cs.length ∧ True, ov := fun j => [(20, .int .i64 (j : Int)), (3, .row 0)], rov := fun j => [(0, .row 0 i64 (addN base (cs.take j)))], meas := fun j => cs.length - j, mv := [(.slot 3, 0)] }
      | _, _ => none),
   (9, fun (S : St) => match (S.res[0]? : Option Res), (S.res[2]? : Option Res) with
      | some (Res.row _ (Ty.int IntKind.i64) base), some (Res.blk _ [SV.int _ c, _]) => some { α := Nat, inv := fun k => k ≤ base.length ∧ ∀ (m : Nat) (y : Int), m < k → base[m]? = some y → y < c, ov := fun k => [(8, .int .i64 (k : Int))], rov := fun _ => [], meas := fun k => base.length - k }
      | _, _ => none)]
theorem named_vc (ls : List Lab) : fvc PP (env PP [] [] [] [] (namedLoop ls)) Try.f33 c33 (ofArgs [.slice lab] (ls, ())) St0 (givesRow 3 i64 (namedL ls)) = (
  ls.length ≤ maxLen → ∃ (x0 : Nat), (x0 ≤ ls.length ∧ True) ∧ ((True ∧ True) ∧ ((0 : Int) = (↑x0 : Int) ∧ True ∧ (↑ls.length : Int) = (↑ls.length : Int) ∧ ls = ls ∧ SV.val (Value.slice none (0 : Nat) (0 : Nat)) = SV.val 
  (Value.slice none (0 : Nat) (0 : Nat)) ∧ ls = ls ∧ True) ∧ [] = namedL (List.take x0 ls) ∧ True) ∧ ∀ (x : Nat), x ≤ ls.length ∧ True → (decide ((↑x : Int) < (↑ls.length : Int)) = true → ((0 : Int) ≤ (↑x : Int) ∧ (↑x : 
  Int) < (↑ls.length : Int)) ∧ ∀ (y : Int × List (Int × Int)), ls[(↑x : Int).toNat]? = some y → y.snd.length ≤ maxLen → ∃ (x0 : Nat), (x0 ≤ y.snd.length ∧ True) ∧ ((True ∧ True) ∧ ((0 : Int) = (↑x0 : Int) ∧ True ∧ 
  (↑y.snd.length : Int) = (↑y.snd.length : Int) ∧ y.snd = y.snd ∧ True ∧ true = true ∧ (↑x : Int) = (↑x : Int) ∧ (↑ls.length : Int) = (↑ls.length : Int) ∧ ls = ls ∧ SV.val (Value.slice none (0 : Nat) (0 : Nat)) = SV.val 
  (Value.slice none (0 : Nat) (0 : Nat)) ∧ ls = ls ∧ True) ∧ namedL (List.take x ls) = addN (namedL (List.take x ls)) (List.take x0 y.snd) ∧ (y.fst = y.fst ∧ y.snd = y.snd ∧ True) ∧ True) ∧ ∀ (x_1 : Nat), x_1 ≤ 
  y.snd.length ∧ True → (decide ((↑x_1 : Int) < (↑y.snd.length : Int)) = true → ((0 : Int) ≤ (↑x_1 : Int) ∧ (↑x_1 : Int) < (↑y.snd.length : Int)) ∧ ∀ (y_1 : Int × Int), y.snd[(↑x_1 : Int).toNat]? = some y_1 → ∃ (x0 : 
  Nat), (x0 ≤ (addN (namedL (List.take x ls)) (List.take x_1 y.snd)).length ∧ ∀ (m : Nat) (y_2 : Int), m < x0 → (addN (namedL (List.take x ls)) (List.take x_1 y.snd))[m]? = some y_2 → y_2 < y_1.fst) ∧ ((True ∧ True) ∧ 
  ((0 : Int) = (↑x0 : Int) ∧ True ∧ true = true ∧ (↑x_1 : Int) = (↑x_1 : Int) ∧ True ∧ (↑y.snd.length : Int) = (↑y.snd.length : Int) ∧ y.snd = y.snd ∧ True ∧ true = true ∧ (↑x : Int) = (↑x : Int) ∧ (↑ls.length : Int) = 
  (↑ls.length : Int) ∧ ls = ls ∧ SV.val (Value.slice none (0 : Nat) (0 : Nat)) = SV.val (Value.slice none (0 : Nat) (0 : Nat)) ∧ ls = ls ∧ True) ∧ addN (namedL (List.take x ls)) (List.take x_1 y.snd) = addN (namedL 
  (List.take x ls)) (List.take x_1 y.snd) ∧ (y.fst = y.fst ∧ y.snd = y.snd ∧ True) ∧ (y_1.fst = y_1.fst ∧ y_1.snd = y_1.snd ∧ True) ∧ True) ∧ ∀ (x_2 : Nat), (x_2 ≤ (addN (namedL (List.take x ls)) (List.take x_1 
  y.snd)).length ∧ ∀ (m : Nat) (y_2 : Int), m < x_2 → (addN (namedL (List.take x ls)) (List.take x_1 y.snd))[m]? = some y_2 → y_2 < y_1.fst) → ∃ (v : Bool), ((decide ((↑x_2 : Int) < (↑(addN (namedL (List.take x ls)) 
  (List.take x_1 y.snd)).length : Int)) = true → ((0 : Int) ≤ (↑x_2 : Int) ∧ (↑x_2 : Int) < (↑(addN (namedL (List.take x ls)) (List.take x_1 y.snd)).length : Int)) ∧ (↑x_2 : Int).toNat < (addN (namedL (List.take x ls)) 
  (List.take x_1 y.snd)).length ∧ ∀ (y_2 : Int), (addN (namedL (List.take x ls)) (List.take x_1 y.snd))[(↑x_2 : Int).toNat]? = some y_2 → decide (y_2 < y_1.fst) = v) ∧ (decide ((↑x_2 : Int) < (↑(addN (namedL (List.take x 
  ls)) (List.take x_1 y.snd)).length : Int)) = !true → false = v)) ∧ (v = true → ∃ (x' : Nat), (x' ≤ (addN (namedL (List.take x ls)) (List.take x_1 y.snd)).length ∧ ∀ (m : Nat) (y_2 : Int), m < x' → (addN (namedL 
  (List.take x ls)) (List.take x_1 y.snd))[m]? = some y_2 → y_2 < y_1.fst) ∧ (addN (namedL (List.take x ls)) (List.take x_1 y.snd)).length - x' < (addN (namedL (List.take x ls)) (List.take x_1 y.snd)).length - x_2 ∧ 
  (True ∧ True) ∧ (IntKind.i64.wrap ((↑x_2 : Int) + (1 : Int)) = (↑x' : Int) ∧ True ∧ true = true ∧ (↑x_1 : Int) = (↑x_1 : Int) ∧ True ∧ (↑y.snd.length : Int) = (↑y.snd.length : Int) ∧ y.snd = y.snd ∧ True ∧ true = true 
  ∧ (↑x : Int) = (↑x : Int) ∧ (↑ls.length : Int) = (↑ls.length : Int) ∧ ls = ls ∧ SV.val (Value.slice none (0 : Nat) (0 : Nat)) = SV.val (Value.slice none (0 : Nat) (0 : Nat)) ∧ ls = ls ∧ True) ∧ addN (namedL (List.take 
  x ls)) (List.take x_1 y.snd) = addN (namedL (List.take x ls)) (List.take x_1 y.snd) ∧ (y.fst = y.fst ∧ y.snd = y.snd ∧ True) ∧ (y_1.fst = y_1.fst ∧ y_1.snd = y_1.snd ∧ True) ∧ True) ∧ (v = false → ∃ (v : Bool), 
  ((decide ((↑x_2 : Int) < (↑(addN (namedL (List.take x ls)) (List.take x_1 y.snd)).length : Int)) = true → ((0 : Int) ≤ (↑x_2 : Int) ∧ (↑x_2 : Int) < (↑(addN (namedL (List.take x ls)) (List.take x_1 y.snd)).length : 
  Int)) ∧ (↑x_2 : Int).toNat < (addN (namedL (List.take x ls)) (List.take x_1 y.snd)).length ∧ ∀ (y_2 : Int), (addN (namedL (List.take x ls)) (List.take x_1 y.snd))[(↑x_2 : Int).toNat]? = some y_2 → (y_2 == y_1.fst) = v) 
  ∧ (decide ((↑x_2 : Int) < (↑(addN (namedL (List.take x ls)) (List.take x_1 y.snd)).length : Int)) = !true → false = v)) ∧ (v = true → ∃ (x' : Nat), (x' ≤ y.snd.length ∧ True) ∧ y.snd.length - x' < y.snd.length - x_1 ∧ 
  (True ∧ True) ∧ (IntKind.i64.wrap ((↑x_1 : Int) + (1 : Int)) = (↑x' : Int) ∧ True ∧ (↑y.snd.length : Int) = (↑y.snd.length : Int) ∧ y.snd = y.snd ∧ True ∧ true = true ∧ (↑x : Int) = (↑x : Int) ∧ (↑ls.length : Int) = 
  (↑ls.length : Int) ∧ ls = ls ∧ SV.val (Value.slice none (0 : Nat) (0 : Nat)) = SV.val (Value.slice none (0 : Nat) (0 : Nat)) ∧ ls = ls ∧ True) ∧ addN (namedL (List.take x ls)) (List.take x_1 y.snd) = addN (namedL 
  (List.take x ls)) (List.take x' y.snd) ∧ (y.fst = y.fst ∧ y.snd = y.snd ∧ True) ∧ True) ∧ (v = false → ((0 : Int) ≤ (some (↑x_2 : Int)).getD (↑(addN (namedL (List.take x ls)) (List.take x_1 y.snd)).length : Int) ∧ 
  (some (↑x_2 : Int)).getD (↑(addN (namedL (List.take x ls)) (List.take x_1 y.snd)).length : Int) ≤ (↑(addN (namedL (List.take x ls)) (List.take x_1 y.snd)).length : Int) ∧ (0 : Int) ≤ none.getD (0 : Int) ∧ none.getD (0 
  : Int) ≤ (some (↑x_2 : Int)).getD (↑(addN (namedL (List.take x ls)) (List.take x_1 y.snd)).length : Int)) ∧ ((0 : Nat) + (List.drop (0 : Nat) (List.take ((some (↑x_2 : Int)).getD (↑(addN (namedL (List.take x ls)) 
  (List.take x_1 y.snd)).length : Int)).toNat (addN (namedL (List.take x ls)) (List.take x_1 y.snd)))).length) * (8 : Nat) ≤ (140737488355328 : Nat) ∧ (([] ++ List.drop (0 : Nat) (List.take ((some (↑x_2 : Int)).getD 
  (↑(addN (namedL (List.take x ls)) (List.take x_1 y.snd)).length : Int)).toNat (addN (namedL (List.take x ls)) (List.take x_1 y.snd)))).length + [y_1.fst].length) * (8 : Nat) ≤ (140737488355328 : Nat) ∧ ((0 : Int) ≤ 
  none.getD (↑(addN (namedL (List.take x ls)) (List.take x_1 y.snd)).length : Int) ∧ none.getD (↑(addN (namedL (List.take x ls)) (List.take x_1 y.snd)).length : Int) ≤ (↑(addN (namedL (List.take x ls)) (List.take x_1 
  y.snd)).length : Int) ∧ (0 : Int) ≤ (some (↑x_2 : Int)).getD (0 : Int) ∧ (some (↑x_2 : Int)).getD (0 : Int) ≤ none.getD (↑(addN (namedL (List.take x ls)) (List.take x_1 y.snd)).length : Int)) ∧ (([] ++ List.drop (0 : 
  Nat) (List.take ((some (↑x_2 : Int)).getD (↑(addN (namedL (List.take x ls)) (List.take x_1 y.snd)).length : Int)).toNat (addN (namedL (List.take x ls)) (List.take x_1 y.snd))) ++ [y_1.fst]).length + (List.drop ((some 
  (↑x_2 : Int)).getD (0 : Int)).toNat (List.take (none.getD (↑(addN (namedL (List.take x ls)) (List.take x_1 y.snd)).length : Int)).toNat (addN (namedL (List.take x ls)) (List.take x_1 y.snd)))).length) * (8 : Nat) ≤ 
  (140737488355328 : Nat) ∧ ∃ (x' : Nat), (x' ≤ y.snd.length ∧ True) ∧ y.snd.length - x' < y.snd.length - x_1 ∧ (True ∧ True) ∧ (IntKind.i64.wrap ((↑x_1 : Int) + (1 : Int)) = (↑x' : Int) ∧ True ∧ (↑y.snd.length : Int) = 
  (↑y.snd.length : Int) ∧ y.snd = y.snd ∧ True ∧ true = true ∧ (↑x : Int) = (↑x : Int) ∧ (↑ls.length : Int) = (↑ls.length : Int) ∧ ls = ls ∧ SV.val (Value.slice none (0 : Nat) (0 : Nat)) = SV.val (Value.slice none (0 : 
  Nat) (0 : Nat)) ∧ ls = ls ∧ True) ∧ [] ++ List.drop (0 : Nat) (List.take ((some (↑x_2 : Int)).getD (↑(addN (namedL (List.take x ls)) (List.take x_1 y.snd)).length : Int)).toNat (addN (namedL (List.take x ls)) 
  (List.take x_1 y.snd))) ++ [y_1.fst] ++ List.drop ((some (↑x_2 : Int)).getD (0 : Int)).toNat (List.take (none.getD (↑(addN (namedL (List.take x ls)) (List.take x_1 y.snd)).length : Int)).toNat (addN (namedL (List.take 
  x ls)) (List.take x_1 y.snd))) = addN (namedL (List.take x ls)) (List.take x' y.snd) ∧ (y.fst = y.fst ∧ y.snd = y.snd ∧ True) ∧ True))) ∧ (decide ((↑x_1 : Int) < (↑y.snd.length : Int)) = false → ∃ (x' : Nat), (x' ≤ 
  ls.length ∧ True) ∧ ls.length - x' < ls.length - x ∧ (True ∧ True) ∧ (IntKind.i64.wrap ((↑x : Int) + (1 : Int)) = (↑x' : Int) ∧ True ∧ (↑ls.length : Int) = (↑ls.length : Int) ∧ ls = ls ∧ SV.val (Value.slice none (0 : 
  Nat) (0 : Nat)) = SV.val (Value.slice none (0 : Nat) (0 : Nat)) ∧ ls = ls ∧ True) ∧ addN (namedL (List.take x ls)) (List.take x_1 y.snd) = namedL (List.take x' ls) ∧ True)) ∧ (decide ((↑x : Int) < (↑ls.length : Int)) = 
  false → namedL (List.take x ls) = namedL ls)) := by kernel_rfl
end Go.Proofs.Ytlnclaggmjhbfaa
namespace Go.Proofs.Ytlnclaggmjhbfaa
open Go.Proofs.Ytlnclaggmjhbfaa.Gx
set_option maxRecDepth 100000
set_option maxHeartbeats 2000000
set_option linter.unusedSimpArgs false
set_option linter.unusedVariables false
def smallLs (ls : List Lab) : Bool := decide (ls.length ≤ 1000) && ls.all (fun l => decide (l.2.length ≤ 1000000))
theorem take_snoc' {α : Type} {l : List α} {i : Nat} {x : α} (h : l[i]? = some x) : l.take (i + 1) = l.take i ++ [x] := by
  obtain ⟨hlt, rfl⟩ := List.getElem?_eq_some_iff.1 h
  rw [List.take_succ_eq_append_getElem hlt]
theorem namedL_len : (ls : List Lab) → (∀ l ∈ ls, l.2.length ≤ 1000000) → (namedL ls).length ≤ ls.length * 1000000 := by
  intro ls h
  have : ∀ (ls : List Lab) (o : List Int), (∀ l ∈ ls, l.2.length ≤ 1000000) → (ls.foldl (fun o l => addN o l.2) o).length ≤ o.length + ls.length * 1000000 := by
    intro ls
    induction ls with
    | nil => intro o _; simp
    | cons l ls ih =>
      intro o h
      have h1 := ih (addN o l.2) (fun x hx => h x (by simp [hx]))
      have h2 := addN_len l.2 o
      have h3 := h l (by simp)
      simp only [List.foldl_cons, List.length_cons]
      omega
  simpa [namedL] using this ls [] h
theorem named_own : OwnOk PP 33 [.slice lab] 3 i64 (fun x => smallLs x.1) (fun x => namedL x.1) := by
  refine own_Q mixed (fn := Try.f33) (c := c33) rfl rfl _ _ _ rfl ?_
  rintro ⟨ls, ⟨⟩⟩ ⟨⟨hA, hE⟩, -⟩ hp
  simp [smallLs] at hp
  obtain ⟨hp1, hp2⟩ := hp
  refine ⟨_, env_ok [] [] [] [] (namedLoop ls), rfl, hold (named_vc ls) ?_⟩
  simp only [true_and, and_true]
  intro _
  refine ⟨0, by simp, ⟨rfl, rfl⟩, ?_⟩
  intro i hi
  rcases get_cases ls i hi with ⟨l, hl, hi'⟩ | ⟨hl, hi'⟩
  · refine ⟨fun _ => ⟨by omega, fun y hy => ?_⟩, fun h => by simp at h; omega⟩
    obtain rfl : l = y := by simpa [hl] using hy
    have hll : l.2.length ≤ 1000000 := hp2 _ _ (List.mem_of_getElem? hl)
    have hbase : (namedL (ls.take i)).length ≤ i * 1000000 := by
      have := namedL_len (ls.take i) (fun l hl => hp2 _ _ (List.mem_of_mem_take hl))
      rw [List.length_take, Nat.min_eq_left hi] at this
      exact this
    intro hlm
    refine ⟨0, by simp, ⟨rfl, rfl⟩, ?_⟩
    intro j hj
    rcases get_cases l.2 j hj with ⟨x, hx, hj'⟩ | ⟨hx, hj'⟩
    · refine ⟨fun _ => ⟨by omega, fun y hy => ?_⟩, fun h => by simp at h; omega⟩
      obtain rfl : x = y := by simpa [hx] using hy
      have hsn : addN (namedL (ls.take i)) (l.2.take (j + 1)) = insN x.1 (addN (namedL (ls.take i)) (l.2.take j)) := by rw [take_snoc' hx, addN_snoc]
      have hlen := addN_len (l.2.take j) (namedL (ls.take i))
      rw [List.length_take, Nat.min_eq_left hj] at hlen
      generalize addN (namedL (ls.take i)) (l.2.take j) = o at *
      have hmul : i * 1000000 ≤ 1000000000 := by omega
      refine ⟨0, ⟨by simp, fun m y hm => by omega⟩, rfl, ?_⟩
      rintro k ⟨hk, hks⟩
      have hol : o.length ≤ maxLen := by rw [maxLen_eq]; omega
      have hins : (∀ y, o[k]? = some y → x.1 < y) → ∃ x' : Nat, x' ≤ l.2.length ∧ l.2.length - x' < l.2.length - j ∧ IntKind.i64.wrap ((j : Int) + 1) = (x' : Int) ∧ [] ++ o.take k ++ [x.1] ++ o.drop k = addN (namedL (ls.take i)) (l.2.take x') := by
        intro h
        refine ⟨j + 1, by omega, by omega, wrap_succ hj' hlm, ?_⟩
        rw [hsn, insN_new x.1 o k hk hks h]
        simp
      rcases get_cases o k hk with ⟨z, hz, hk'⟩ | ⟨hz, hk'⟩
      · refine ⟨decide (z < x.1), ?_, fun hv => ?_, fun hv => ⟨z == x.1, ?_, fun hv2 => ?_, fun hv2 => ?_⟩⟩
        · refine ⟨fun _ => ⟨by omega, by omega, fun y hy => ?_⟩, fun h => by simp at h; omega⟩
          obtain rfl : z = y := by simpa [hz] using hy
          rfl
        · refine ⟨k + 1, ⟨by omega, fun m y hm hy => ?_⟩, by omega, wrap_succ hk' hol⟩
          rcases Nat.lt_or_ge m k with h | h
          · exact hks m y h hy
          · obtain rfl : m = k := by omega
            rw [hz] at hy; cases hy; simpa using hv
        · refine ⟨fun _ => ⟨by omega, by omega, fun y hy => ?_⟩, fun h => by simp at h; omega⟩
          obtain rfl : z = y := by simpa [hz] using hy
          rfl
        · refine ⟨j + 1, by omega, by omega, wrap_succ hj' hlm, ?_⟩
          have : z = x.1 := by simpa using hv2
          rw [hsn, insN_skip x.1 o k hks (by rw [hz, this])]
        · have hlt : ∀ y, o[k]? = some y → x.1 < y := fun y hy => by
            rw [hz] at hy; cases hy; simp at hv hv2
            exact Int.lt_iff_le_and_ne.2 ⟨hv, fun e => hv2 e.symm⟩
          have := hins hlt
          simp only [Option.getD_some, Option.getD_none, Int.toNat_natCast, List.take_length, List.drop_zero]
          refine ⟨by omega, by simp; omega, by simp; omega, by omega, by simp; omega, this⟩
      · refine ⟨false, ?_, fun hv => by simp at hv, fun hv => ⟨false, ?_, fun hv2 => by simp at hv2, fun hv2 => ?_⟩⟩
        · refine ⟨fun h => by simp at h; omega, fun _ => rfl⟩
        · refine ⟨fun h => by simp at h; omega, fun _ => rfl⟩
        · have := hins (fun y hy => by rw [hz] at hy; cases hy)
          simp only [Option.getD_some, Option.getD_none, Int.toNat_natCast, List.take_length, List.drop_zero]
          refine ⟨by omega, by simp; omega, by simp; omega, by omega, by simp; omega, this⟩
    · subst hj'
      refine ⟨fun h => by simp at h, fun _ => ⟨i + 1, by omega, by omega, wrap_succ hi' hA, ?_⟩⟩
      rw [List.take_length, take_snoc' hl, namedL_snoc]
  · subst hi'
    refine ⟨fun h => by simp at h, fun _ => ?_⟩
    rw [List.take_length]
end Go.Proofs.Ytlnclaggmjhbfaa
namespace Go.Proofs.Ytlnclaggmjhbfaa
open Go.Proofs.Ytlnclaggmjhbfaa.Gx
set_option maxRecDepth 100000
set_option maxHeartbeats 0
noncomputable def p50 : Pv PP := ⟨50, _, ⟨rfl, plain_ok⟩⟩
noncomputable def p32 : Pv PP := ⟨32, _, ⟨rfl, rightN_ok⟩⟩
noncomputable def p33 : Pv PP := ⟨33, _, ⟨rfl, pspec_of_own named_own⟩⟩
noncomputable def s33 : Sv PP := ⟨33, _, ⟨rfl, spec_Qo named_own⟩⟩
theorem free_vc (l : Lab) : fvc PP (eP [p50, p63]) Try.f48 c48 (ofArgs [lab] (l, ())) St0 (gives [.bool] (freeL l, ())) = (
  true = true ∧ (plainL (l.fst, l.snd) = true → true = true ∧ (!hasL (l.fst, l.snd) (0 : Int)) = freeL l ∧ True) ∧ (plainL (l.fst, l.snd) = !true → false = freeL l ∧ True)) := by kernel_rfl
theorem plainN_vc (l : Lab) : fvc PP (eP [p32, p31]) Try.f15 c15 (ofArgs [lab] (l, ())) St0 (gives [.bool] (plainL l, ())) = (
  true = true ∧ (rightL (l.fst, l.snd) = true → true = true ∧ (!hasL (l.fst, l.snd) (5 : Int)) = plainL l ∧ True) ∧ (rightL (l.fst, l.snd) = !true → false = plainL l ∧ True)) := by kernel_rfl
def leqNLoop (a b : Lab) : List (Nat × (St → Option LoopSpec)) :=
  [(2, fun _ => some { α := Nat, inv := fun i => i ≤ (namedL [a, b]).length ∧ ((namedL [a, b]).drop i).all (fun c => decide (atL a c ≤ atL b c)) = (namedL [a, b]).all (fun c => decide (atL a c ≤ atL b c)), ov := fun i => [(12, .int .i64 (i : Int))], rov := fun _ => [], meas := fun i => (namedL [a, b]).length - i })]
theorem leqN_vc (a b : Lab) : fvc PP (env PP [p33, p34] [] [] [] (leqNLoop a b)) Try.f24 c24 (ofArgs [lab, lab] (a, b, ())) St0 (gives [.bool] (leqN a b, ())) = (
  smallLs [(a.fst, a.snd), (b.fst, b.snd)] = true ∧ ((namedL [(a.fst, a.snd), (b.fst, b.snd)]).length ≤ maxLen → ∃ (x0 : Nat), (x0 ≤ (namedL [a, b]).length ∧ ((List.drop x0 (namedL [a, b])).all fun (c : Int) => decide 
  (atL a c ≤ atL b c)) = (namedL [a, b]).all fun (c : Int) => decide (atL a c ≤ atL b c)) ∧ ((True ∧ True) ∧ ((0 : Int) = (↑x0 : Int) ∧ (↑(namedL [(a.fst, a.snd), (b.fst, b.snd)]).length : Int) = (↑(namedL [(a.fst, 
  a.snd), (b.fst, b.snd)]).length : Int) ∧ namedL [(a.fst, a.snd), (b.fst, b.snd)] = namedL [(a.fst, a.snd), (b.fst, b.snd)] ∧ True ∧ True ∧ (a.fst = a.fst ∧ a.snd = a.snd ∧ True) ∧ (b.fst = b.fst ∧ b.snd = b.snd ∧ True) 
  ∧ True) ∧ (a.fst = a.fst ∧ a.snd = a.snd ∧ True) ∧ (b.fst = b.fst ∧ b.snd = b.snd ∧ True) ∧ True ∧ True) ∧ ∀ (x : Nat), (x ≤ (namedL [a, b]).length ∧ ((List.drop x (namedL [a, b])).all fun (c : Int) => decide (atL a c 
  ≤ atL b c)) = (namedL [a, b]).all fun (c : Int) => decide (atL a c ≤ atL b c)) → (decide ((↑x : Int) < (↑(namedL [(a.fst, a.snd), (b.fst, b.snd)]).length : Int)) = true → ((0 : Int) ≤ (↑x : Int) ∧ (↑x : Int) < 
  (↑(namedL [(a.fst, a.snd), (b.fst, b.snd)]).length : Int)) ∧ ∀ (y : Int), (namedL [(a.fst, a.snd), (b.fst, b.snd)])[(↑x : Int).toNat]? = some y → true = true ∧ true = true ∧ (decide (atL (a.fst, a.snd) y > atL (b.fst, 
  b.snd) y) = true → false = leqN a b ∧ True) ∧ (decide (atL (a.fst, a.snd) y > atL (b.fst, b.snd) y) = false → ∃ (x' : Nat), (x' ≤ (namedL [a, b]).length ∧ ((List.drop x' (namedL [a, b])).all fun (c : Int) => decide 
  (atL a c ≤ atL b c)) = (namedL [a, b]).all fun (c : Int) => decide (atL a c ≤ atL b c)) ∧ (namedL [a, b]).length - x' < (namedL [a, b]).length - x ∧ (True ∧ True) ∧ (IntKind.i64.wrap ((↑x : Int) + (1 : Int)) = (↑x' : 
  Int) ∧ (↑(namedL [(a.fst, a.snd), (b.fst, b.snd)]).length : Int) = (↑(namedL [(a.fst, a.snd), (b.fst, b.snd)]).length : Int) ∧ namedL [(a.fst, a.snd), (b.fst, b.snd)] = namedL [(a.fst, a.snd), (b.fst, b.snd)] ∧ True ∧ 
  True ∧ (a.fst = a.fst ∧ a.snd = a.snd ∧ True) ∧ (b.fst = b.fst ∧ b.snd = b.snd ∧ True) ∧ True) ∧ (a.fst = a.fst ∧ a.snd = a.snd ∧ True) ∧ (b.fst = b.fst ∧ b.snd = b.snd ∧ True) ∧ True ∧ True)) ∧ (decide ((↑x : Int) < 
  (↑(namedL [(a.fst, a.snd), (b.fst, b.snd)]).length : Int)) = false → decide (a.fst ≤ b.fst) = leqN a b ∧ True))) := by kernel_rfl
end Go.Proofs.Ytlnclaggmjhbfaa
namespace Go.Proofs.Ytlnclaggmjhbfaa
open Go.Proofs.Ytlnclaggmjhbfaa.Gx
set_option maxRecDepth 100000
set_option maxHeartbeats 2000000
set_option linter.unusedSimpArgs false
set_option linter.unusedVariables false
abbrev sml (l : Lab) : Bool := decide (l.2.length ≤ 1000000)
theorem free_ok : PSpecOk PP 48 (Q [lab] [.bool] (fun _ => true) (fun x => (freeL x.1, ()))) := by
  refine pspec_Q mixed (fn := Try.f48) (c := c48) rfl rfl _ _ rfl ?_
  rintro ⟨l, ⟨⟩⟩ - -
  refine ⟨_, env_ok [p50, p63] [] [] [] [], rfl, hold (free_vc l) ?_⟩
  simp only [true_and, and_true]
  constructor <;> intro h
  · have h : plainL l = true := h; simp [freeL, h]
  · have h : plainL l = !true := h; simp at h; simp [freeL, h]
theorem plainN_ok : PSpecOk PP 15 (Q [lab] [.bool] (fun _ => true) (fun x => (plainL x.1, ()))) := by
  refine pspec_Q mixed (fn := Try.f15) (c := c15) rfl rfl _ _ rfl ?_
  rintro ⟨l, ⟨⟩⟩ - -
  refine ⟨_, env_ok [p32, p31] [] [] [] [], rfl, hold (plainN_vc l) ?_⟩
  simp only [true_and, and_true]
  constructor <;> intro h
  · have h : rightL l = true := h; simp [plainL, h]
  · have h : rightL l = !true := h; simp at h; simp [plainL, h]
theorem leqN_ok : PSpecOk PP 24 (Q [lab, lab] [.bool] (fun x => sml x.1 && sml x.2.1) (fun x => (leqN x.1 x.2.1, ()))) := by
  refine pspec_Q mixed (fn := Try.f24) (c := c24) rfl rfl _ _ rfl ?_
  rintro ⟨a, b, ⟨⟩⟩ - hp
  simp at hp
  refine ⟨_, env_ok [p33, p34] [] [] [] (leqNLoop a b), rfl, hold (leqN_vc a b) ?_⟩
  simp only [true_and, and_true]
  refine ⟨by simp [smallLs, hp], fun hA => ?_⟩
  change (namedL [a, b]).length ≤ maxLen at hA
  refine ⟨0, ⟨by simp, rfl⟩, rfl, ?_⟩
  rintro i ⟨hi, hinv⟩
  rcases get_cases (namedL [a, b]) i hi with ⟨x, hx, hi'⟩ | ⟨hx, hi'⟩
  · rw [drop_get hx, List.all_cons] at hinv
    refine ⟨fun _ => ⟨by change _ ∧ (i : Int) < ((namedL [a, b]).length : Int); omega, fun y hy => ?_⟩, fun h => by change decide ((i : Int) < ((namedL [a, b]).length : Int)) = false at h; simp at h; omega⟩
    change (namedL [a, b])[((i : Int)).toNat]? = some y at hy
    obtain rfl : x = y := by simpa [hx] using hy
    change (decide (atL a x > atL b x) = true → false = leqN a b) ∧ (decide (atL a x > atL b x) = false → _)
    refine ⟨fun h => ?_, fun h => ⟨i + 1, ⟨by omega, ?_⟩, by omega, wrap_succ hi' hA⟩⟩
    · simp at h
      have : ¬ atL a x ≤ atL b x := Int.not_le.2 h
      simp [leqN, ← hinv, this]
    · simp at h
      rw [← hinv]; simp [h]
  · subst hi'
    refine ⟨fun h => by simp at h, fun _ => ?_⟩
    rw [List.drop_length] at hinv
    simp [leqN, ← hinv]
end Go.Proofs.Ytlnclaggmjhbfaa
namespace Go.Proofs.Ytlnclaggmjhbfaa
open Go.Proofs.Ytlnclaggmjhbfaa.Gx
set_option maxRecDepth 100000
set_option maxHeartbeats 0
noncomputable def p48 : Pv PP := ⟨48, _, ⟨rfl, free_ok⟩⟩
noncomputable def p15 : Pv PP := ⟨15, _, ⟨rfl, plainN_ok⟩⟩
noncomputable def p24 : Pv PP := ⟨24, _, ⟨rfl, leqN_ok⟩⟩
theorem freeN_vc (l : Lab) : fvc PP (eP [p15, p31]) Try.f14 c14 (ofArgs [lab] (l, ())) St0 (gives [.bool] (freeL l, ())) = (
  true = true ∧ (plainL (l.fst, l.snd) = true → true = true ∧ (!hasL (l.fst, l.snd) (0 : Int)) = freeL l ∧ True) ∧ (plainL (l.fst, l.snd) = !true → false = freeL l ∧ True)) := by kernel_rfl
def belowLoop (l a b : Lab) : List (Nat × (St → Option LoopSpec)) :=
  [(2, fun _ => some { α := Nat, inv := fun i => i ≤ (namedL [l, a, b] ++ [0]).length ∧ ((namedL [l, a, b] ++ [0]).drop i).all (fun c => decide (at0 l c ≤ max (at0 a c) (at0 b c))) = belowL l a b, ov := fun i => [(15, .int .i64 (i : Int))], rov := fun _ => [], meas := fun i => (namedL [l, a, b] ++ [0]).length - i })]
end Go.Proofs.Ytlnclaggmjhbfaa
namespace Go.Proofs.Ytlnclaggmjhbfaa
open Go.Proofs.Ytlnclaggmjhbfaa.Gx
set_option maxRecDepth 100000
set_option maxHeartbeats 2000000
set_option linter.unusedSimpArgs false
set_option linter.unusedVariables false
theorem maxI_eq (a b : Int) : maxI a b = max a b := by
  unfold maxI; split <;> omega
theorem upL_len (l : Lab) : (upL l).2.length ≤ l.2.length := turnR_len _ _ _ _
theorem sml_up {l : Lab} (h : sml l = true) : sml (upL l) = true := by
  simp at h ⊢; have := upL_len l; omega
theorem freeN_ok : PSpecOk PP 14 (Q [lab] [.bool] (fun _ => true) (fun x => (freeL x.1, ()))) := by
  refine pspec_Q mixed (fn := Try.f14) (c := c14) rfl rfl _ _ rfl ?_
  rintro ⟨l, ⟨⟩⟩ - -
  refine ⟨_, env_ok [p15, p31] [] [] [] [], rfl, hold (freeN_vc l) ?_⟩
  simp only [true_and, and_true, Prod.eta]
  constructor <;> intro h <;> simp_all [freeL]
end Go.Proofs.Ytlnclaggmjhbfaa
namespace Go.Proofs.Ytlnclaggmjhbfaa
open Go.Proofs.Ytlnclaggmjhbfaa.Gx
set_option maxRecDepth 100000
set_option maxHeartbeats 0
/-- What a closure over a category gives of a label. -/
def catOf (S : St) : SV → Option Int
  | .ptr i _ => match (S.res[i]? : Option Res) with
    | some (Res.blk _ (SV.int _ c :: _)) => some c
    | some (Res.ro _ (SV.int _ c :: _)) => some c
    | _ => none
  | _ => none
def boxLs (S : St) : SV → Option (List Lab)
  | .ptr i _ => match (S.res[i]? : Option Res) with
    | some (Res.blk _ (SV.rs (.pair (.int .i64) (.slice (.pair (.int .i64) (.int .i64)))) bs :: _)) => some bs
    | some (Res.ro _ (SV.rs (.pair (.int .i64) (.slice (.pair (.int .i64) (.int .i64)))) bs :: _)) => some bs
    | _ => none
  | _ => none
def underLoop (l : Lab) (bs : List Lab) : List (Nat × (St → Option LoopSpec)) :=
  [(4, fun _ => some { α := Nat, inv := fun i => i ≤ (l :: bs).length ∧ ((l :: bs).drop i).all (undB l bs) = (l :: bs).all (undB l bs), ov := fun i => [(18, .int .i64 (i : Int))], rov := fun _ => [], meas := fun i => (l :: bs).length - i }),
   (7, fun (S : St) => match getT S.fr.tm 23 with
      | .rs (.pair (.int .i64) (.int .i64)) cs => some { α := Nat, inv := fun j => j ≤ cs.length ∧ (cs.drop j).all (fun x => decide (atL l x.1 ≤ topF (fun b => atL b x.1) bs)) = cs.all (fun x => decide (atL l x.1 ≤ topF (fun b => atL b x.1) bs)), ov := fun j => [(25, .int .i64 (j : Int))], rov := fun _ => [], meas := fun j => cs.length - j }
      | _ => none)]
end Go.Proofs.Ytlnclaggmjhbfaa
namespace Go.Proofs.Ytlnclaggmjhbfaa
open Go.Proofs.Ytlnclaggmjhbfaa.Gx
set_option maxRecDepth 100000
set_option maxHeartbeats 2000000
set_option linter.unusedSimpArgs false
set_option linter.unusedVariables false
theorem topF_part (f : Lab → Int) (bs : List Lab) (hA : bs.length ≤ maxLen) : ∃ x0 : Nat, x0 ≤ bs.length ∧ ((0:Int) = (x0:Int) ∧ (0:Int) = topF f (bs.take x0)) ∧
    ∀ (x : Nat), x ≤ bs.length → (decide ((x:Int) < (bs.length:Int)) = true → ((0:Int) ≤ (x:Int) ∧ (x:Int) < (bs.length:Int)) ∧ ∀ y, bs[((x:Int)).toNat]? = some y → ∃ x', x' ≤ bs.length ∧ bs.length - x' < bs.length - x ∧ IntKind.i64.wrap ((x:Int)+1) = (x':Int) ∧ maxI (topF f (bs.take x)) (f y) = topF f (bs.take x')) ∧
      (decide ((x:Int) < (bs.length:Int)) = false → topF f (bs.take x) = topF f bs) := by
  refine ⟨0, by simp, ⟨rfl, rfl⟩, ?_⟩
  intro i hi
  rcases get_cases bs i hi with ⟨x, hx, hi'⟩ | ⟨hx, hi'⟩
  · refine ⟨fun _ => ⟨by omega, fun y hy => ?_⟩, fun h => by simp at h; omega⟩
    obtain rfl : x = y := by simpa [hx] using hy
    refine ⟨i + 1, by omega, by omega, wrap_succ hi' hA, ?_⟩
    rw [take_snoc' hx, maxI_eq]
    simp [topF]
  · subst hi'
    refine ⟨fun h => by simp at h, fun _ => ?_⟩
    rw [List.take_length]
theorem underL_eq (l : Lab) (bs : List Lab) : underL l bs = ((l :: bs).all (undB l bs) && decide (l.1 ≤ topF (fun l => l.1) bs)) := rfl
end Go.Proofs.Ytlnclaggmjhbfaa
namespace Go.Proofs.Ytlnclaggmjhbfaa
open Go.Proofs.Ytlnclaggmjhbfaa.Gx
set_option maxRecDepth 100000
set_option maxHeartbeats 0
noncomputable def p14 : Pv PP := ⟨14, _, ⟨rfl, freeN_ok⟩⟩
def rightsLoop (ls : List Lab) : List (Nat × (St → Option LoopSpec)) :=
  [(2, fun _ => some { α := Nat, inv := fun i => i ≤ ls.length ∧ (ls.drop i).all rightL = ls.all rightL, ov := fun i => [(7, .int .i64 (i : Int))], rov := fun _ => [], meas := fun i => ls.length - i })]
def boxLab (S : St) : SV → Option Lab
  | .ptr i _ => match (S.res[i]? : Option Res) with
    | some (Res.blk _ [SV.int _ d, SV.rs (.pair (.int .i64) (.int .i64)) cs]) => some (d, cs)
    | some (Res.ro _ [SV.int _ d, SV.rs (.pair (.int .i64) (.int .i64)) cs]) => some (d, cs)
    | _ => none
  | _ => none
def enterLoop (t g w : Lab) : List (Nat × (St → Option LoopSpec)) :=
  [(7, fun _ => some { α := Nat × Bool, inv := fun x => x.1 ≤ [t, g, w].length ∧ (x.2 && ([t, g, w].drop x.1).all (aboveL t g w)) = floorM t g w, ov := fun x => [(33, .int .i64 (x.1 : Int)), (15, .bool x.2)], rov := fun _ => [], meas := fun x => [t, g, w].length - x.1 }),
   (10, fun (S : St) => match getT S.fr.tm 38, getT S.fr.tm 15 with
      | .rs (.pair (.int .i64) (.int .i64)) cs, .bool fl => some { α := Nat × Bool, inv := fun x => x.1 ≤ cs.length ∧ (x.2 && (cs.drop x.1).all fun x => aboveB t g w (fun m => atL m x.1)) = (fl && cs.all fun x => aboveB t g w (fun m => atL m x.1)), ov := fun x => [(40, .int .i64 (x.1 : Int)), (15, .bool x.2)], rov := fun _ => [], meas := fun x => cs.length - x.1 }
      | _, _ => none)]
def enterNLoop (t c g gc w wc : Lab) : List (Nat × (St → Option LoopSpec)) :=
  [(5, fun _ => some { α := Nat × Bool, inv := fun x => x.1 ≤ (namedL [t, g, w] ++ [0]).length ∧ (x.2 && ((namedL [t, g, w] ++ [0]).drop x.1).all fun k => decide (floorN t g k ≤ at0 w k)) = (okN t c gc w wc && (namedL [t, g, w] ++ [0]).all fun k => decide (floorN t g k ≤ at0 w k)), ov := fun x => [(44, .int .i64 (x.1 : Int)), (13, .bool x.2)], rov := fun _ => [], meas := fun x => (namedL [t, g, w] ++ [0]).length - x.1 })]
end Go.Proofs.Ytlnclaggmjhbfaa
namespace Go.Proofs.Ytlnclaggmjhbfaa
open Go.Proofs.Ytlnclaggmjhbfaa.Gx
set_option maxRecDepth 100000
set_option maxHeartbeats 2000000
set_option linter.unusedSimpArgs false
set_option linter.unusedVariables false
theorem above_conj (t g w : Lab) (f : Lab → Int) : (((f t == 0) = false → (f g == 0) = (f t == 0 || f g == 0)) ∧ ((f t == 0) = !false → true = (f t == 0 || f g == 0))) ∧
    ((f t == 0 || f g == 0) = false → decide (f w ≥ max (f t) (f g)) = aboveB t g w f) ∧ ((f t == 0 || f g == 0) = !false → true = aboveB t g w f) := by
  unfold aboveB
  cases f t == 0 <;> cases f g == 0 <;> simp
end Go.Proofs.Ytlnclaggmjhbfaa
namespace Go.Proofs.Ytlnclaggmjhbfaa
open Go.Proofs.Ytlnclaggmjhbfaa.Gx
set_option maxRecDepth 100000
set_option maxHeartbeats 0
abbrev thr : Ty := .pair lab lab
end Go.Proofs.Ytlnclaggmjhbfaa
namespace Go.Proofs.Ytlnclaggmjhbfaa
open Go.Proofs.Ytlnclaggmjhbfaa.Gx
set_option maxRecDepth 100000
set_option maxHeartbeats 2000000
set_option linter.unusedSimpArgs false
set_option linter.unusedVariables false
end Go.Proofs.Ytlnclaggmjhbfaa
