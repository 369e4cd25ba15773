/- Equality of lists of objects, in the layer of views and in the reference, and the law of it; no condition. -/
import Derived.Test.YtlnclaggmjhbfaaVb6
namespace Go.Proofs.Ytlnclaggmjhbfaa
open Go.Proofs.Ytlnclaggmjhbfaa.Gx
set_option linter.unusedSimpArgs false
set_option linter.unusedVariables false
noncomputable def c57 : Code := Try.f57.body.getD .skip
noncomputable def c58 : Code := Try.f58.body.getD .skip
noncomputable def c59 : Code := Try.f59.body.getD .skip
noncomputable def c41 : Code := Try.f41.body.getD .skip
noncomputable def c40 : Code := Try.f40.body.getD .skip
noncomputable def c56 : Code := Try.f56.body.getD .skip
noncomputable def c44 : Code := Try.f44.body.getD .skip
noncomputable def c25 : Code := Try.f25.body.getD .skip
noncomputable def c43 : Code := Try.f43.body.getD .skip
noncomputable def c26 : Code := Try.f26.body.getD .skip
noncomputable def c22 : Code := Try.f22.body.getD .skip
noncomputable def c7 : Code := Try.f7.body.getD .skip
abbrev Info := infoT.den
abbrev Mp := mapT.den
abbrev StT := stateT.den
open Classical in
noncomputable def sameX {α : Type} (a b : α) : Bool := decide (a = b)
theorem sameX_iff {α : Type} (a b : α) : sameX a b = true ↔ a = b := by simp [sameX]
theorem sameX_no {α : Type} (a b : α) : sameX a b = false ↔ a ≠ b := by simp [sameX]
end Go.Proofs.Ytlnclaggmjhbfaa
namespace Go.Proofs.Ytlnclaggmjhbfaa
open Go.Proofs.Ytlnclaggmjhbfaa.Gx
set_option maxRecDepth 100000
set_option linter.unusedVariables false
set_option maxHeartbeats 0
def eqLoop {α : Type} (k s : Nat) (a b : List α) : List (Nat × (St → Option LoopSpec)) :=
  [(k, fun _ => some { α := Nat, inv := fun i => i ≤ a.length ∧ a.take i = b.take i, ov := fun i => [(s, .int .i64 (i : Int))], rov := fun _ => [], meas := fun i => a.length - i })]
theorem eqE_vc (a b : List (Int × Int)) : fvc PP (eL (eqLoop 4 13 a b)) Try.f57 c57 (ofArgs [.slice ent, .slice ent] (a, b, ())) St0 (gives [.bool] (sameX a b, ())) = (
  a.length ≤ maxLen → b.length ≤ maxLen → (((↑a.length : Int) != (↑b.length : Int)) = true → false = sameX a b ∧ True) ∧ (((↑a.length : Int) != (↑b.length : Int)) = false → a.length ≤ maxLen → ∃ (x0 : Nat), (x0 ≤ 
  a.length ∧ List.take x0 a = List.take x0 b) ∧ ((True ∧ True) ∧ ((0 : Int) = (↑x0 : Int) ∧ (↑a.length : Int) = (↑a.length : Int) ∧ false = false ∧ a = a ∧ b = b ∧ True) ∧ True) ∧ ∀ (x : Nat), x ≤ a.length ∧ List.take x 
  a = List.take x b → (decide ((↑x : Int) < (↑a.length : Int)) = true → ((0 : Int) ≤ (↑x : Int) ∧ (↑x : Int) < (↑a.length : Int)) ∧ ∀ (y : Int × Int), a[(↑x : Int).toNat]? = some y → ((0 : Int) ≤ (↑x : Int) ∧ (↑x : Int) 
  < (↑b.length : Int)) ∧ ∀ (y_1 : Int × Int), b[(↑x : Int).toNat]? = some y_1 → ((!(y.fst == y_1.fst && (y.snd == y_1.snd && true))) = true → false = sameX a b ∧ True) ∧ ((!(y.fst == y_1.fst && (y.snd == y_1.snd && 
  true))) = false → ∃ (x' : Nat), (x' ≤ a.length ∧ List.take x' a = List.take x' b) ∧ a.length - x' < a.length - x ∧ (True ∧ True) ∧ (IntKind.i64.wrap ((↑x : Int) + (1 : Int)) = (↑x' : Int) ∧ (↑a.length : Int) = 
  (↑a.length : Int) ∧ false = false ∧ a = a ∧ b = b ∧ True) ∧ True)) ∧ (decide ((↑x : Int) < (↑a.length : Int)) = false → true = sameX a b ∧ True))) := by kernel_rfl
theorem eqI_vc (a b : List Int) : fvc PP (eL (eqLoop 4 13 a b)) Try.f58 c58 (ofArgs [ints, ints] (a, b, ())) St0 (gives [.bool] (sameX a b, ())) = (
  a.length ≤ maxLen → b.length ≤ maxLen → (((↑a.length : Int) != (↑b.length : Int)) = true → false = sameX a b ∧ True) ∧ (((↑a.length : Int) != (↑b.length : Int)) = false → a.length ≤ maxLen → ∃ (x0 : Nat), (x0 ≤ 
  a.length ∧ List.take x0 a = List.take x0 b) ∧ ((True ∧ True) ∧ ((0 : Int) = (↑x0 : Int) ∧ (↑a.length : Int) = (↑a.length : Int) ∧ false = false ∧ a = a ∧ b = b ∧ True) ∧ True) ∧ ∀ (x : Nat), x ≤ a.length ∧ List.take x 
  a = List.take x b → (decide ((↑x : Int) < (↑a.length : Int)) = true → ((0 : Int) ≤ (↑x : Int) ∧ (↑x : Int) < (↑a.length : Int)) ∧ ∀ (y : Int), a[(↑x : Int).toNat]? = some y → ((0 : Int) ≤ (↑x : Int) ∧ (↑x : Int) < 
  (↑b.length : Int)) ∧ ∀ (y_1 : Int), b[(↑x : Int).toNat]? = some y_1 → ((y != y_1) = true → false = sameX a b ∧ True) ∧ ((y != y_1) = false → ∃ (x' : Nat), (x' ≤ a.length ∧ List.take x' a = List.take x' b) ∧ a.length - 
  x' < a.length - x ∧ (True ∧ True) ∧ (IntKind.i64.wrap ((↑x : Int) + (1 : Int)) = (↑x' : Int) ∧ (↑a.length : Int) = (↑a.length : Int) ∧ false = false ∧ a = a ∧ b = b ∧ True) ∧ True)) ∧ (decide ((↑x : Int) < (↑a.length : 
  Int)) = false → true = sameX a b ∧ True))) := by kernel_rfl
theorem eqM_vc (a b : List Mp) : fvc PP (eL (eqLoop 4 13 a b)) Try.f59 c59 (ofArgs [.slice mapT, .slice mapT] (a, b, ())) St0 (gives [.bool] (sameX a b, ())) = (
  a.length ≤ maxLen → b.length ≤ maxLen → (((↑a.length : Int) != (↑b.length : Int)) = true → false = sameX a b ∧ True) ∧ (((↑a.length : Int) != (↑b.length : Int)) = false → a.length ≤ maxLen → ∃ (x0 : Nat), (x0 ≤ 
  a.length ∧ List.take x0 a = List.take x0 b) ∧ ((True ∧ True) ∧ ((0 : Int) = (↑x0 : Int) ∧ (↑a.length : Int) = (↑a.length : Int) ∧ false = false ∧ a = a ∧ b = b ∧ True) ∧ True) ∧ ∀ (x : Nat), x ≤ a.length ∧ List.take x 
  a = List.take x b → (decide ((↑x : Int) < (↑a.length : Int)) = true → ((0 : Int) ≤ (↑x : Int) ∧ (↑x : Int) < (↑a.length : Int)) ∧ ∀ (y : Int × Int × Int × Int × Int × Bool × Bool), a[(↑x : Int).toNat]? = some y → ((0 : 
  Int) ≤ (↑x : Int) ∧ (↑x : Int) < (↑b.length : Int)) ∧ ∀ (y_1 : Int × Int × Int × Int × Int × Bool × Bool), b[(↑x : Int).toNat]? = some y_1 → ((!(y.fst == y_1.fst && (y.snd.fst == y_1.snd.fst && (y.snd.snd.fst == 
  y_1.snd.snd.fst && (y.snd.snd.snd.fst == y_1.snd.snd.snd.fst && (y.snd.snd.snd.snd.fst == y_1.snd.snd.snd.snd.fst && (y.snd.snd.snd.snd.snd.fst == y_1.snd.snd.snd.snd.snd.fst && (y.snd.snd.snd.snd.snd.snd == 
  y_1.snd.snd.snd.snd.snd.snd && true)))))))) = true → false = sameX a b ∧ True) ∧ ((!(y.fst == y_1.fst && (y.snd.fst == y_1.snd.fst && (y.snd.snd.fst == y_1.snd.snd.fst && (y.snd.snd.snd.fst == y_1.snd.snd.snd.fst && 
  (y.snd.snd.snd.snd.fst == y_1.snd.snd.snd.snd.fst && (y.snd.snd.snd.snd.snd.fst == y_1.snd.snd.snd.snd.snd.fst && (y.snd.snd.snd.snd.snd.snd == y_1.snd.snd.snd.snd.snd.snd && true)))))))) = false → ∃ (x' : Nat), (x' ≤ 
  a.length ∧ List.take x' a = List.take x' b) ∧ a.length - x' < a.length - x ∧ (True ∧ True) ∧ (IntKind.i64.wrap ((↑x : Int) + (1 : Int)) = (↑x' : Int) ∧ (↑a.length : Int) = (↑a.length : Int) ∧ false = false ∧ a = a ∧ b 
  = b ∧ True) ∧ True)) ∧ (decide ((↑x : Int) < (↑a.length : Int)) = false → true = sameX a b ∧ True))) := by kernel_rfl
theorem eqMN_vc (a b : List Mp) : fvc PP (eL (eqLoop 4 13 a b)) Try.f41 c41 (ofArgs [.slice mapT, .slice mapT] (a, b, ())) St0 (gives [.bool] (sameX a b, ())) = (
  a.length ≤ maxLen → b.length ≤ maxLen → (((↑a.length : Int) != (↑b.length : Int)) = true → false = sameX a b ∧ True) ∧ (((↑a.length : Int) != (↑b.length : Int)) = false → a.length ≤ maxLen → ∃ (x0 : Nat), (x0 ≤ 
  a.length ∧ List.take x0 a = List.take x0 b) ∧ ((True ∧ True) ∧ ((0 : Int) = (↑x0 : Int) ∧ (↑a.length : Int) = (↑a.length : Int) ∧ false = false ∧ a = a ∧ b = b ∧ True) ∧ True) ∧ ∀ (x : Nat), x ≤ a.length ∧ List.take x 
  a = List.take x b → (decide ((↑x : Int) < (↑a.length : Int)) = true → ((0 : Int) ≤ (↑x : Int) ∧ (↑x : Int) < (↑a.length : Int)) ∧ ∀ (y : Int × Int × Int × Int × Int × Bool × Bool), a[(↑x : Int).toNat]? = some y → ((0 : 
  Int) ≤ (↑x : Int) ∧ (↑x : Int) < (↑b.length : Int)) ∧ ∀ (y_1 : Int × Int × Int × Int × Int × Bool × Bool), b[(↑x : Int).toNat]? = some y_1 → ((!(y.fst == y_1.fst && (y.snd.fst == y_1.snd.fst && (y.snd.snd.fst == 
  y_1.snd.snd.fst && (y.snd.snd.snd.fst == y_1.snd.snd.snd.fst && (y.snd.snd.snd.snd.fst == y_1.snd.snd.snd.snd.fst && (y.snd.snd.snd.snd.snd.fst == y_1.snd.snd.snd.snd.snd.fst && (y.snd.snd.snd.snd.snd.snd == 
  y_1.snd.snd.snd.snd.snd.snd && true)))))))) = true → false = sameX a b ∧ True) ∧ ((!(y.fst == y_1.fst && (y.snd.fst == y_1.snd.fst && (y.snd.snd.fst == y_1.snd.snd.fst && (y.snd.snd.snd.fst == y_1.snd.snd.snd.fst && 
  (y.snd.snd.snd.snd.fst == y_1.snd.snd.snd.snd.fst && (y.snd.snd.snd.snd.snd.fst == y_1.snd.snd.snd.snd.snd.fst && (y.snd.snd.snd.snd.snd.snd == y_1.snd.snd.snd.snd.snd.snd && true)))))))) = false → ∃ (x' : Nat), (x' ≤ 
  a.length ∧ List.take x' a = List.take x' b) ∧ a.length - x' < a.length - x ∧ (True ∧ True) ∧ (IntKind.i64.wrap ((↑x : Int) + (1 : Int)) = (↑x' : Int) ∧ (↑a.length : Int) = (↑a.length : Int) ∧ false = false ∧ a = a ∧ b 
  = b ∧ True) ∧ True)) ∧ (decide ((↑x : Int) < (↑a.length : Int)) = false → true = sameX a b ∧ True))) := by kernel_rfl
theorem eqLN_vc (a b : Lab) : fvc PP (eL (eqLoop 4 23 a.2 b.2)) Try.f42 c42 (ofArgs [lab, lab] (a, b, ())) St0 (gives [.bool] (sameX a b, ())) = (
  ∃ (v : Bool), (((a.fst != b.fst) = false → a.snd.length ≤ maxLen → b.snd.length ≤ maxLen → ((↑a.snd.length : Int) != (↑b.snd.length : Int)) = v) ∧ ((a.fst != b.fst) = !false → true = v)) ∧ (v = true → false = sameX a b 
  ∧ True) ∧ (v = false → a.snd.length ≤ maxLen → ∃ (x0 : Nat), (x0 ≤ a.snd.length ∧ List.take x0 a.snd = List.take x0 b.snd) ∧ ((True ∧ True) ∧ ((0 : Int) = (↑x0 : Int) ∧ (↑a.snd.length : Int) = (↑a.snd.length : Int) ∧ 
  false = false ∧ True ∧ True ∧ (a.fst = a.fst ∧ a.snd = a.snd ∧ True) ∧ (b.fst = b.fst ∧ b.snd = b.snd ∧ True) ∧ True) ∧ (a.fst = a.fst ∧ a.snd = a.snd ∧ True) ∧ (b.fst = b.fst ∧ b.snd = b.snd ∧ True) ∧ True) ∧ ∀ (x : 
  Nat), x ≤ a.snd.length ∧ List.take x a.snd = List.take x b.snd → (decide ((↑x : Int) < (↑a.snd.length : Int)) = true → ((0 : Int) ≤ (↑x : Int) ∧ (↑x : Int) < (↑a.snd.length : Int)) ∧ ∀ (y : Int × Int), a.snd[(↑x : 
  Int).toNat]? = some y → ((0 : Int) ≤ (↑x : Int) ∧ (↑x : Int) < (↑b.snd.length : Int)) ∧ ∀ (y_1 : Int × Int), b.snd[(↑x : Int).toNat]? = some y_1 → ((!(y.fst == y_1.fst && (y.snd == y_1.snd && true))) = true → false = 
  sameX a b ∧ True) ∧ ((!(y.fst == y_1.fst && (y.snd == y_1.snd && true))) = false → ∃ (x' : Nat), (x' ≤ a.snd.length ∧ List.take x' a.snd = List.take x' b.snd) ∧ a.snd.length - x' < a.snd.length - x ∧ (True ∧ True) ∧ 
  (IntKind.i64.wrap ((↑x : Int) + (1 : Int)) = (↑x' : Int) ∧ (↑a.snd.length : Int) = (↑a.snd.length : Int) ∧ false = false ∧ True ∧ True ∧ (a.fst = a.fst ∧ a.snd = a.snd ∧ True) ∧ (b.fst = b.fst ∧ b.snd = b.snd ∧ True) ∧ 
  True) ∧ (a.fst = a.fst ∧ a.snd = a.snd ∧ True) ∧ (b.fst = b.fst ∧ b.snd = b.snd ∧ True) ∧ True)) ∧ (decide ((↑x : Int) < (↑a.snd.length : Int)) = false → true = sameX a b ∧ True))) := by kernel_rfl
end Go.Proofs.Ytlnclaggmjhbfaa
namespace Go.Proofs.Ytlnclaggmjhbfaa
open Go.Proofs.Ytlnclaggmjhbfaa.Gx
set_option maxRecDepth 100000
set_option maxHeartbeats 4000000
set_option linter.unusedSimpArgs false
set_option linter.unusedVariables false
theorem eq_law {α : Type} (a b : List α) (ne : α → α → Bool) (hne : ∀ x y, ne x y = true ↔ x ≠ y) :
    a.length ≤ maxLen → b.length ≤ maxLen → (((a.length : Int) != (b.length : Int)) = true → false = sameX a b) ∧ (((a.length : Int) != (b.length : Int)) = false → a.length ≤ maxLen →
      ∃ (x0 : Nat), (x0 ≤ a.length ∧ List.take x0 a = List.take x0 b) ∧ (0 : Int) = (x0 : Int) ∧
        ∀ (x : Nat), x ≤ a.length ∧ List.take x a = List.take x b →
          (decide ((x : Int) < (a.length : Int)) = true → ((0 : Int) ≤ (x : Int) ∧ (x : Int) < (a.length : Int)) ∧
            ∀ (y : α), a[x]? = some y → ((0 : Int) ≤ (x : Int) ∧ (x : Int) < (b.length : Int)) ∧ ∀ (y_1 : α), b[x]? = some y_1 →
              (ne y y_1 = true → false = sameX a b) ∧ (ne y y_1 = false → ∃ (x' : Nat), (x' ≤ a.length ∧ List.take x' a = List.take x' b) ∧ a.length - x' < a.length - x ∧ IntKind.i64.wrap ((x : Int) + (1 : Int)) = (x' : Int))) ∧
          (decide ((x : Int) < (a.length : Int)) = false → true = sameX a b)) := by
  intro hA hB
  refine ⟨fun h => ?_, fun h _ => ⟨0, ⟨Nat.zero_le _, rfl⟩, rfl, ?_⟩⟩
  · have h : (a.length : Int) ≠ b.length := by simpa using h
    exact ((sameX_no a b).2 (fun e => h (by rw [e]))).symm
  have hl : a.length = b.length := by simp at h; omega
  rintro i ⟨hi, hinv⟩
  refine ⟨fun hlt => ?_, fun hge => ?_⟩
  · have hlt : i < a.length := by simp at hlt; omega
    refine ⟨⟨by omega, by omega⟩, fun y hy => ⟨⟨by omega, by omega⟩, fun z hz => ⟨fun h1 => ?_, fun h1 => ?_⟩⟩⟩
    · refine ((sameX_no a b).2 (fun e => ?_)).symm
      subst e; rw [hy] at hz; cases hz
      exact (hne y y).1 h1 rfl
    · have : y = z := Classical.byContradiction fun hh => by rw [(hne y z).2 hh] at h1; cases h1
      subst this
      exact ⟨i + 1, ⟨by omega, by rw [take_snoc hy, take_snoc hz, hinv]⟩, by omega, wrap_succ hlt hA⟩
  · have hie : i = a.length := by simp at hge; omega
    subst hie
    rw [List.take_length, hl, List.take_length] at hinv
    exact ((sameX_iff a b).2 hinv).symm
theorem neE (x y : Int × Int) : (!(x.1 == y.1 && (x.2 == y.2 && true))) = true ↔ x ≠ y := by
  obtain ⟨a, b⟩ := x; obtain ⟨c, d⟩ := y
  simp only [Bool.and_true, Bool.not_eq_true', Bool.and_eq_false_iff, beq_eq_false_iff_ne, ne_eq, Prod.mk.injEq, Classical.not_and_iff_not_or_not]
theorem neM (x y : Mp) : (!(x.1 == y.1 && (x.2.1 == y.2.1 && (x.2.2.1 == y.2.2.1 && (x.2.2.2.1 == y.2.2.2.1 && (x.2.2.2.2.1 == y.2.2.2.2.1 && (x.2.2.2.2.2.1 == y.2.2.2.2.2.1 && (x.2.2.2.2.2.2 == y.2.2.2.2.2.2 && true)))))))) = true ↔ x ≠ y := by
  obtain ⟨a, b, c, d, e, f, g⟩ := x; obtain ⟨a', b', c', d', e', f', g'⟩ := y
  simp only [Bool.and_true, Bool.not_eq_true', Bool.and_eq_false_iff, beq_eq_false_iff_ne, ne_eq, Prod.mk.injEq, Classical.not_and_iff_not_or_not]
theorem eqE_ok : PSpecOk PP 57 (Q [.slice ent, .slice ent] [.bool] (fun _ => true) (fun x => (sameX x.1 x.2.1, ()))) := by
  refine pspec_Q mixed (fn := Try.f57) (c := c57) rfl rfl _ _ rfl ?_
  rintro ⟨a, b, ⟨⟩⟩ - -
  refine ⟨eL (eqLoop 4 13 a b), env_ok .., rfl, hold (eqE_vc a b) ?_⟩
  simp only [true_and, and_true, Prod.eta, eq_self_iff_true, toNat_cast]
  exact eq_law a b (fun x y => !(x.1 == y.1 && (x.2 == y.2 && true))) neE
theorem eqI_ok : PSpecOk PP 58 (Q [ints, ints] [.bool] (fun _ => true) (fun x => (sameX x.1 x.2.1, ()))) := by
  refine pspec_Q mixed (fn := Try.f58) (c := c58) rfl rfl _ _ rfl ?_
  rintro ⟨a, b, ⟨⟩⟩ - -
  refine ⟨eL (eqLoop 4 13 a b), env_ok .., rfl, hold (eqI_vc a b) ?_⟩
  simp only [true_and, and_true, Prod.eta, eq_self_iff_true, toNat_cast]
  exact eq_law (α := Int) a b (fun x y => x != y) (fun x y => by simp)
theorem eqM_ok : PSpecOk PP 59 (Q [.slice mapT, .slice mapT] [.bool] (fun _ => true) (fun x => (sameX x.1 x.2.1, ()))) := by
  refine pspec_Q mixed (fn := Try.f59) (c := c59) rfl rfl _ _ rfl ?_
  rintro ⟨a, b, ⟨⟩⟩ - -
  refine ⟨eL (eqLoop 4 13 a b), env_ok .., rfl, hold (eqM_vc a b) ?_⟩
  simp only [true_and, and_true, Prod.eta, eq_self_iff_true, toNat_cast]
  exact eq_law (α := Mp) a b _ neM
theorem eqMN_ok : PSpecOk PP 41 (Q [.slice mapT, .slice mapT] [.bool] (fun _ => true) (fun x => (sameX x.1 x.2.1, ()))) := by
  refine pspec_Q mixed (fn := Try.f41) (c := c41) rfl rfl _ _ rfl ?_
  rintro ⟨a, b, ⟨⟩⟩ - -
  refine ⟨eL (eqLoop 4 13 a b), env_ok .., rfl, hold (eqMN_vc a b) ?_⟩
  simp only [true_and, and_true, Prod.eta, eq_self_iff_true, toNat_cast]
  exact eq_law (α := Mp) a b _ neM
theorem eqLN_ok : PSpecOk PP 42 (Q [lab, lab] [.bool] (fun _ => true) (fun x => (sameX x.1 x.2.1, ()))) := by
  refine pspec_Q mixed (fn := Try.f42) (c := c42) rfl rfl _ _ rfl ?_
  rintro ⟨a, b, ⟨⟩⟩ ⟨⟨-, ⟨hA, -⟩⟩, ⟨-, ⟨hB, -⟩⟩, -⟩ -
  refine ⟨eL (eqLoop 4 23 a.2 b.2), env_ok .., rfl, hold (eqLN_vc a b) ?_⟩
  simp only [true_and, and_true, Prod.eta, eq_self_iff_true, toNat_cast]
  have hl : ∀ h : a.1 = b.1, sameX a b = sameX a.2 b.2 := fun h => by
    obtain ⟨x, y⟩ := a; obtain ⟨x', y'⟩ := b
    simp only at h; subst h
    simp only [sameX, Prod.mk.injEq, true_and]
    exact decide_eq_decide.2 Iff.rfl
  refine ⟨(a.1 != b.1) || ((a.2.length : Int) != (b.2.length : Int)), ⟨fun h _ _ => by rw [h]; rfl, fun h => by rw [h]; rfl⟩, fun hv => ?_, fun hv => ?_⟩
  · refine ((sameX_no a b).2 (fun e => ?_)).symm
    subst e
    simp at hv
  · have h1 : a.1 = b.1 := by simp at hv; exact hv.1
    have h2 : ((a.2.length : Int) != (b.2.length : Int)) = false := by simp at hv ⊢; exact hv.2
    rw [hl h1]
    exact (eq_law a.2 b.2 (fun x y => !(x.1 == y.1 && (x.2 == y.2 && true))) neE hA hB).2 h2
noncomputable def p57 : Pv PP := ⟨57, _, ⟨rfl, eqE_ok⟩⟩
noncomputable def p58 : Pv PP := ⟨58, _, ⟨rfl, eqI_ok⟩⟩
noncomputable def p59 : Pv PP := ⟨59, _, ⟨rfl, eqM_ok⟩⟩
noncomputable def p41 : Pv PP := ⟨41, _, ⟨rfl, eqMN_ok⟩⟩
noncomputable def p42 : Pv PP := ⟨42, _, ⟨rfl, eqLN_ok⟩⟩
end Go.Proofs.Ytlnclaggmjhbfaa
namespace Go.Proofs.Ytlnclaggmjhbfaa
open Go.Proofs.Ytlnclaggmjhbfaa.Gx
set_option maxRecDepth 100000
set_option linter.unusedVariables false
set_option maxHeartbeats 0
theorem labels_vc (a b : Lab) : fvc PP (eP [p57]) Try.f56 c56 (ofArgs [lab, lab] (a, b, ())) St0 (gives [.bool] (sameX a b, ())) = (
  ((a.fst == b.fst) = true → true = true ∧ sameX a.snd b.snd = sameX a b ∧ True) ∧ ((a.fst == b.fst) = !true → false = sameX a b ∧ True)) := by kernel_rfl
theorem info_vc (a b : Info) : fvc PP (eP [p42]) Try.f40 c40 (ofArgs [infoT, infoT] (a, b, ())) St0 (gives [.bool] (sameX a b, ())) = (
  ∃ (v : Bool), (((a.fst == b.fst) = true → ((a.snd.fst == b.snd.fst) = true → ((a.snd.snd.fst == b.snd.snd.fst) = true → ((a.snd.snd.snd.fst == b.snd.snd.snd.fst) = true → ((a.snd.snd.snd.snd.fst == 
  b.snd.snd.snd.snd.fst) = true → true = true ∧ sameX (a.snd.snd.snd.snd.snd.fst, a.snd.snd.snd.snd.snd.snd) (b.snd.snd.snd.snd.snd.fst, b.snd.snd.snd.snd.snd.snd) = v ∧ True) ∧ ((a.snd.snd.snd.snd.fst == 
  b.snd.snd.snd.snd.fst) = !true → false = v ∧ True)) ∧ ((a.snd.snd.snd.fst == b.snd.snd.snd.fst) = !true → false = v ∧ True)) ∧ ((a.snd.snd.fst == b.snd.snd.fst) = !true → false = v ∧ True)) ∧ ((a.snd.fst == b.snd.fst) 
  = !true → false = v ∧ True)) ∧ ((a.fst == b.fst) = !true → false = v ∧ True)) ∧ v = sameX a b ∧ True) := by kernel_rfl
end Go.Proofs.Ytlnclaggmjhbfaa
namespace Go.Proofs.Ytlnclaggmjhbfaa
open Go.Proofs.Ytlnclaggmjhbfaa.Gx
set_option maxRecDepth 100000
set_option maxHeartbeats 4000000
set_option linter.unusedSimpArgs false
set_option linter.unusedVariables false
theorem sameX_pair {α β : Type} (a b : α × β) : sameX a b = (sameX a.1 b.1 && sameX a.2 b.2) := by
  obtain ⟨x, y⟩ := a; obtain ⟨x', y'⟩ := b
  rw [Bool.eq_iff_iff, Bool.and_eq_true, sameX_iff, sameX_iff, sameX_iff, Prod.mk.injEq]
theorem sameX_int (a b : Int) : sameX a b = (a == b) := by
  rw [Bool.eq_iff_iff, sameX_iff]; simp
theorem sameX_bool (a b : Bool) : sameX a b = (a == b) := by
  rw [Bool.eq_iff_iff, sameX_iff]; simp
theorem sameX_str (a b : ByteArray) : sameX a b = decide (a = b) := by
  rw [Bool.eq_iff_iff, sameX_iff]; simp
theorem labels_ok : PSpecOk PP 56 (Q [lab, lab] [.bool] (fun _ => true) (fun x => (sameX x.1 x.2.1, ()))) := by
  refine pspec_Q mixed (fn := Try.f56) (c := c56) rfl rfl _ _ rfl ?_
  rintro ⟨a, b, ⟨⟩⟩ - -
  refine ⟨eP [p57], env_ok .., rfl, hold (labels_vc a b) ?_⟩
  simp only [true_and, and_true, Prod.eta, eq_self_iff_true, toNat_cast]
  have e : sameX a b = ((a.1 == b.1) && sameX a.2 b.2) := by rw [sameX_pair, ← sameX_int]
  exact ⟨fun h => by rw [e, h]; rfl, fun h => by rw [e, h]; rfl⟩
theorem info_ok : PSpecOk PP 40 (Q [infoT, infoT] [.bool] (fun _ => true) (fun x => (sameX x.1 x.2.1, ()))) := by
  refine pspec_Q mixed (fn := Try.f40) (c := c40) rfl rfl _ _ rfl ?_
  rintro ⟨a, b, ⟨⟩⟩ - -
  refine ⟨eP [p42], env_ok .., rfl, hold (info_vc a b) ?_⟩
  simp only [true_and, and_true, Prod.eta, eq_self_iff_true, toNat_cast]
  have e : sameX a b = ((a.1 == b.1) && ((a.2.1 == b.2.1) && ((a.2.2.1 == b.2.2.1) && ((a.2.2.2.1 == b.2.2.2.1) && ((a.2.2.2.2.1 == b.2.2.2.2.1) && sameX a.2.2.2.2.2 b.2.2.2.2.2))))) := by
    rw [sameX_pair, sameX_pair a.2, sameX_pair a.2.2, sameX_pair a.2.2.2, sameX_pair a.2.2.2.2, ← sameX_int, ← sameX_int, ← sameX_int, ← sameX_int, ← sameX_int]
  exact ⟨sameX a b, ⟨fun h1 => ⟨fun h2 => ⟨fun h3 => ⟨fun h4 => ⟨fun h5 => by rw [e, h1, h2, h3, h4, h5]; rfl, fun h => by rw [e, h1, h2, h3, h4, h]; rfl⟩, fun h => by rw [e, h1, h2, h3, h]; rfl⟩, fun h => by rw [e, h1, h2, h]; rfl⟩, fun h => by rw [e, h1, h]; rfl⟩, fun h => by rw [e, h]; rfl⟩, rfl⟩
noncomputable def p56 : Pv PP := ⟨56, _, ⟨rfl, labels_ok⟩⟩
noncomputable def p40 : Pv PP := ⟨40, _, ⟨rfl, info_ok⟩⟩
end Go.Proofs.Ytlnclaggmjhbfaa
namespace Go.Proofs.Ytlnclaggmjhbfaa
open Go.Proofs.Ytlnclaggmjhbfaa.Gx
set_option maxRecDepth 100000
set_option linter.unusedVariables false
set_option maxHeartbeats 0
theorem alike_vc (a b : Obj) : fvc PP (eP [p56, p58, p59]) Try.f44 c44 (ofArgs [objT, objT] (a, b, ())) St0 (gives [.bool] (sameX a b, ())) = (
  ∃ (v : Bool), (((a.fst.fst == b.fst.fst) = true → ((a.fst.snd.fst == b.fst.snd.fst) = true → ((a.fst.snd.snd.fst == b.fst.snd.snd.fst) = true → ((a.fst.snd.snd.snd.fst == b.fst.snd.snd.snd.fst) = true → 
  ((a.fst.snd.snd.snd.snd.fst == b.fst.snd.snd.snd.snd.fst) = true → true = true ∧ sameX (a.fst.snd.snd.snd.snd.snd.fst, a.fst.snd.snd.snd.snd.snd.snd) (b.fst.snd.snd.snd.snd.snd.fst, b.fst.snd.snd.snd.snd.snd.snd) = v ∧ 
  True) ∧ ((a.fst.snd.snd.snd.snd.fst == b.fst.snd.snd.snd.snd.fst) = !true → false = v ∧ True)) ∧ ((a.fst.snd.snd.snd.fst == b.fst.snd.snd.snd.fst) = !true → false = v ∧ True)) ∧ ((a.fst.snd.snd.fst == 
  b.fst.snd.snd.fst) = !true → false = v ∧ True)) ∧ ((a.fst.snd.fst == b.fst.snd.fst) = !true → false = v ∧ True)) ∧ ((a.fst.fst == b.fst.fst) = !true → false = v ∧ True)) ∧ true = true ∧ (sameX a.snd.fst b.snd.fst = 
  true → true = true ∧ (sameX a.snd.snd.snd.fst b.snd.snd.snd.fst = true → true = true ∧ ∃ (v_1 : Bool), (((a.snd.snd.fst.toList == b.snd.snd.fst.toList) = true → true = true ∧ (sameX (a.snd.snd.snd.snd.fst.fst, 
  a.snd.snd.snd.snd.fst.snd) (b.snd.snd.snd.snd.fst.fst, b.snd.snd.snd.snd.fst.snd) = true → ((a.snd.snd.snd.snd.snd.fst.fst == b.snd.snd.snd.snd.snd.fst.fst && (a.snd.snd.snd.snd.snd.fst.snd == 
  b.snd.snd.snd.snd.snd.fst.snd && true)) = true → ((a.snd.snd.snd.snd.snd.snd.fst.fst.fst == b.snd.snd.snd.snd.snd.snd.fst.fst.fst && (a.snd.snd.snd.snd.snd.snd.fst.fst.snd.fst == 
  b.snd.snd.snd.snd.snd.snd.fst.fst.snd.fst && (a.snd.snd.snd.snd.snd.snd.fst.fst.snd.snd.fst == b.snd.snd.snd.snd.snd.snd.fst.fst.snd.snd.fst && (a.snd.snd.snd.snd.snd.snd.fst.fst.snd.snd.snd.fst == 
  b.snd.snd.snd.snd.snd.snd.fst.fst.snd.snd.snd.fst && (a.snd.snd.snd.snd.snd.snd.fst.fst.snd.snd.snd.snd.fst == b.snd.snd.snd.snd.snd.snd.fst.fst.snd.snd.snd.snd.fst && 
  (a.snd.snd.snd.snd.snd.snd.fst.fst.snd.snd.snd.snd.snd.fst == b.snd.snd.snd.snd.snd.snd.fst.fst.snd.snd.snd.snd.snd.fst && (a.snd.snd.snd.snd.snd.snd.fst.fst.snd.snd.snd.snd.snd.snd.fst == 
  b.snd.snd.snd.snd.snd.snd.fst.fst.snd.snd.snd.snd.snd.snd.fst && (a.snd.snd.snd.snd.snd.snd.fst.fst.snd.snd.snd.snd.snd.snd.snd.fst == b.snd.snd.snd.snd.snd.snd.fst.fst.snd.snd.snd.snd.snd.snd.snd.fst && 
  (a.snd.snd.snd.snd.snd.snd.fst.fst.snd.snd.snd.snd.snd.snd.snd.snd.fst == b.snd.snd.snd.snd.snd.snd.fst.fst.snd.snd.snd.snd.snd.snd.snd.snd.fst && 
  (a.snd.snd.snd.snd.snd.snd.fst.fst.snd.snd.snd.snd.snd.snd.snd.snd.snd.fst == b.snd.snd.snd.snd.snd.snd.fst.fst.snd.snd.snd.snd.snd.snd.snd.snd.snd.fst && 
  (a.snd.snd.snd.snd.snd.snd.fst.fst.snd.snd.snd.snd.snd.snd.snd.snd.snd.snd.fst == b.snd.snd.snd.snd.snd.snd.fst.fst.snd.snd.snd.snd.snd.snd.snd.snd.snd.snd.fst && 
  (a.snd.snd.snd.snd.snd.snd.fst.fst.snd.snd.snd.snd.snd.snd.snd.snd.snd.snd.snd.fst == b.snd.snd.snd.snd.snd.snd.fst.fst.snd.snd.snd.snd.snd.snd.snd.snd.snd.snd.snd.fst && 
  (a.snd.snd.snd.snd.snd.snd.fst.fst.snd.snd.snd.snd.snd.snd.snd.snd.snd.snd.snd.snd.fst == b.snd.snd.snd.snd.snd.snd.fst.fst.snd.snd.snd.snd.snd.snd.snd.snd.snd.snd.snd.snd.fst && 
  (a.snd.snd.snd.snd.snd.snd.fst.fst.snd.snd.snd.snd.snd.snd.snd.snd.snd.snd.snd.snd.snd.fst == b.snd.snd.snd.snd.snd.snd.fst.fst.snd.snd.snd.snd.snd.snd.snd.snd.snd.snd.snd.snd.snd.fst && 
  (a.snd.snd.snd.snd.snd.snd.fst.fst.snd.snd.snd.snd.snd.snd.snd.snd.snd.snd.snd.snd.snd.snd.fst == b.snd.snd.snd.snd.snd.snd.fst.fst.snd.snd.snd.snd.snd.snd.snd.snd.snd.snd.snd.snd.snd.snd.fst && 
  (a.snd.snd.snd.snd.snd.snd.fst.fst.snd.snd.snd.snd.snd.snd.snd.snd.snd.snd.snd.snd.snd.snd.snd == b.snd.snd.snd.snd.snd.snd.fst.fst.snd.snd.snd.snd.snd.snd.snd.snd.snd.snd.snd.snd.snd.snd.snd && true))))))))))))))) && 
  (a.snd.snd.snd.snd.snd.snd.fst.snd == b.snd.snd.snd.snd.snd.snd.fst.snd && true)) = true → ((a.snd.snd.snd.snd.snd.snd.snd.fst == b.snd.snd.snd.snd.snd.snd.snd.fst) = true → ((a.snd.snd.snd.snd.snd.snd.snd.snd.fst == 
  b.snd.snd.snd.snd.snd.snd.snd.snd.fst) = true → ((a.snd.snd.snd.snd.snd.snd.snd.snd.snd.fst == b.snd.snd.snd.snd.snd.snd.snd.snd.snd.fst) = true → ((a.snd.snd.snd.snd.snd.snd.snd.snd.snd.snd.fst == 
  b.snd.snd.snd.snd.snd.snd.snd.snd.snd.snd.fst) = true → ((a.snd.snd.snd.snd.snd.snd.snd.snd.snd.snd.snd.snd.fst.toList == b.snd.snd.snd.snd.snd.snd.snd.snd.snd.snd.snd.snd.fst.toList) = true → 
  (a.snd.snd.snd.snd.snd.snd.snd.snd.snd.snd.snd.snd.snd.toList == b.snd.snd.snd.snd.snd.snd.snd.snd.snd.snd.snd.snd.snd.toList) = v_1 ∧ True) ∧ ((a.snd.snd.snd.snd.snd.snd.snd.snd.snd.snd.snd.snd.fst.toList == 
  b.snd.snd.snd.snd.snd.snd.snd.snd.snd.snd.snd.snd.fst.toList) = !true → false = v_1 ∧ True)) ∧ ((a.snd.snd.snd.snd.snd.snd.snd.snd.snd.snd.fst == b.snd.snd.snd.snd.snd.snd.snd.snd.snd.snd.fst) = !true → false = v_1 ∧ 
  True)) ∧ ((a.snd.snd.snd.snd.snd.snd.snd.snd.snd.fst == b.snd.snd.snd.snd.snd.snd.snd.snd.snd.fst) = !true → false = v_1 ∧ True)) ∧ ((a.snd.snd.snd.snd.snd.snd.snd.snd.fst == b.snd.snd.snd.snd.snd.snd.snd.snd.fst) = 
  !true → false = v_1 ∧ True)) ∧ ((a.snd.snd.snd.snd.snd.snd.snd.fst == b.snd.snd.snd.snd.snd.snd.snd.fst) = !true → false = v_1 ∧ True)) ∧ ((a.snd.snd.snd.snd.snd.snd.fst.fst.fst == b.snd.snd.snd.snd.snd.snd.fst.fst.fst 
  && (a.snd.snd.snd.snd.snd.snd.fst.fst.snd.fst == b.snd.snd.snd.snd.snd.snd.fst.fst.snd.fst && (a.snd.snd.snd.snd.snd.snd.fst.fst.snd.snd.fst == b.snd.snd.snd.snd.snd.snd.fst.fst.snd.snd.fst && 
  (a.snd.snd.snd.snd.snd.snd.fst.fst.snd.snd.snd.fst == b.snd.snd.snd.snd.snd.snd.fst.fst.snd.snd.snd.fst && (a.snd.snd.snd.snd.snd.snd.fst.fst.snd.snd.snd.snd.fst == b.snd.snd.snd.snd.snd.snd.fst.fst.snd.snd.snd.snd.fst 
  && (a.snd.snd.snd.snd.snd.snd.fst.fst.snd.snd.snd.snd.snd.fst == b.snd.snd.snd.snd.snd.snd.fst.fst.snd.snd.snd.snd.snd.fst && (a.snd.snd.snd.snd.snd.snd.fst.fst.snd.snd.snd.snd.snd.snd.fst == 
  b.snd.snd.snd.snd.snd.snd.fst.fst.snd.snd.snd.snd.snd.snd.fst && (a.snd.snd.snd.snd.snd.snd.fst.fst.snd.snd.snd.snd.snd.snd.snd.fst == b.snd.snd.snd.snd.snd.snd.fst.fst.snd.snd.snd.snd.snd.snd.snd.fst && 
  (a.snd.snd.snd.snd.snd.snd.fst.fst.snd.snd.snd.snd.snd.snd.snd.snd.fst == b.snd.snd.snd.snd.snd.snd.fst.fst.snd.snd.snd.snd.snd.snd.snd.snd.fst && 
  (a.snd.snd.snd.snd.snd.snd.fst.fst.snd.snd.snd.snd.snd.snd.snd.snd.snd.fst == b.snd.snd.snd.snd.snd.snd.fst.fst.snd.snd.snd.snd.snd.snd.snd.snd.snd.fst && 
  (a.snd.snd.snd.snd.snd.snd.fst.fst.snd.snd.snd.snd.snd.snd.snd.snd.snd.snd.fst == b.snd.snd.snd.snd.snd.snd.fst.fst.snd.snd.snd.snd.snd.snd.snd.snd.snd.snd.fst && 
  (a.snd.snd.snd.snd.snd.snd.fst.fst.snd.snd.snd.snd.snd.snd.snd.snd.snd.snd.snd.fst == b.snd.snd.snd.snd.snd.snd.fst.fst.snd.snd.snd.snd.snd.snd.snd.snd.snd.snd.snd.fst && 
  (a.snd.snd.snd.snd.snd.snd.fst.fst.snd.snd.snd.snd.snd.snd.snd.snd.snd.snd.snd.snd.fst == b.snd.snd.snd.snd.snd.snd.fst.fst.snd.snd.snd.snd.snd.snd.snd.snd.snd.snd.snd.snd.fst && 
  (a.snd.snd.snd.snd.snd.snd.fst.fst.snd.snd.snd.snd.snd.snd.snd.snd.snd.snd.snd.snd.snd.fst == b.snd.snd.snd.snd.snd.snd.fst.fst.snd.snd.snd.snd.snd.snd.snd.snd.snd.snd.snd.snd.snd.fst && 
  (a.snd.snd.snd.snd.snd.snd.fst.fst.snd.snd.snd.snd.snd.snd.snd.snd.snd.snd.snd.snd.snd.snd.fst == b.snd.snd.snd.snd.snd.snd.fst.fst.snd.snd.snd.snd.snd.snd.snd.snd.snd.snd.snd.snd.snd.snd.fst && 
  (a.snd.snd.snd.snd.snd.snd.fst.fst.snd.snd.snd.snd.snd.snd.snd.snd.snd.snd.snd.snd.snd.snd.snd == b.snd.snd.snd.snd.snd.snd.fst.fst.snd.snd.snd.snd.snd.snd.snd.snd.snd.snd.snd.snd.snd.snd.snd && true))))))))))))))) && 
  (a.snd.snd.snd.snd.snd.snd.fst.snd == b.snd.snd.snd.snd.snd.snd.fst.snd && true)) = !true → false = v_1 ∧ True)) ∧ ((a.snd.snd.snd.snd.snd.fst.fst == b.snd.snd.snd.snd.snd.fst.fst && (a.snd.snd.snd.snd.snd.fst.snd == 
  b.snd.snd.snd.snd.snd.fst.snd && true)) = !true → false = v_1 ∧ True)) ∧ (sameX (a.snd.snd.snd.snd.fst.fst, a.snd.snd.snd.snd.fst.snd) (b.snd.snd.snd.snd.fst.fst, b.snd.snd.snd.snd.fst.snd) = !true → false = v_1 ∧ 
  True)) ∧ ((a.snd.snd.fst.toList == b.snd.snd.fst.toList) = !true → false = v_1 ∧ True)) ∧ ∃ (v_2 : Bool), ((v = true → (sameX a.snd.snd.snd.snd.snd.snd.snd.snd.snd.snd.snd.fst 
  b.snd.snd.snd.snd.snd.snd.snd.snd.snd.snd.snd.fst = true → v_1 = v_2) ∧ (sameX a.snd.snd.snd.snd.snd.snd.snd.snd.snd.snd.snd.fst b.snd.snd.snd.snd.snd.snd.snd.snd.snd.snd.snd.fst = !true → false = v_2)) ∧ (v = !true → 
  false = v_2)) ∧ v_2 = sameX a b ∧ True) ∧ (sameX a.snd.snd.snd.fst b.snd.snd.snd.fst = !true → ∃ (v_1 : Bool), (((a.snd.snd.fst.toList == b.snd.snd.fst.toList) = true → true = true ∧ (sameX (a.snd.snd.snd.snd.fst.fst, 
  a.snd.snd.snd.snd.fst.snd) (b.snd.snd.snd.snd.fst.fst, b.snd.snd.snd.snd.fst.snd) = true → ((a.snd.snd.snd.snd.snd.fst.fst == b.snd.snd.snd.snd.snd.fst.fst && (a.snd.snd.snd.snd.snd.fst.snd == 
  b.snd.snd.snd.snd.snd.fst.snd && true)) = true → ((a.snd.snd.snd.snd.snd.snd.fst.fst.fst == b.snd.snd.snd.snd.snd.snd.fst.fst.fst && (a.snd.snd.snd.snd.snd.snd.fst.fst.snd.fst == 
  b.snd.snd.snd.snd.snd.snd.fst.fst.snd.fst && (a.snd.snd.snd.snd.snd.snd.fst.fst.snd.snd.fst == b.snd.snd.snd.snd.snd.snd.fst.fst.snd.snd.fst && (a.snd.snd.snd.snd.snd.snd.fst.fst.snd.snd.snd.fst == 
  b.snd.snd.snd.snd.snd.snd.fst.fst.snd.snd.snd.fst && (a.snd.snd.snd.snd.snd.snd.fst.fst.snd.snd.snd.snd.fst == b.snd.snd.snd.snd.snd.snd.fst.fst.snd.snd.snd.snd.fst && 
  (a.snd.snd.snd.snd.snd.snd.fst.fst.snd.snd.snd.snd.snd.fst == b.snd.snd.snd.snd.snd.snd.fst.fst.snd.snd.snd.snd.snd.fst && (a.snd.snd.snd.snd.snd.snd.fst.fst.snd.snd.snd.snd.snd.snd.fst == 
  b.snd.snd.snd.snd.snd.snd.fst.fst.snd.snd.snd.snd.snd.snd.fst && (a.snd.snd.snd.snd.snd.snd.fst.fst.snd.snd.snd.snd.snd.snd.snd.fst == b.snd.snd.snd.snd.snd.snd.fst.fst.snd.snd.snd.snd.snd.snd.snd.fst && 
  (a.snd.snd.snd.snd.snd.snd.fst.fst.snd.snd.snd.snd.snd.snd.snd.snd.fst == b.snd.snd.snd.snd.snd.snd.fst.fst.snd.snd.snd.snd.snd.snd.snd.snd.fst && 
  (a.snd.snd.snd.snd.snd.snd.fst.fst.snd.snd.snd.snd.snd.snd.snd.snd.snd.fst == b.snd.snd.snd.snd.snd.snd.fst.fst.snd.snd.snd.snd.snd.snd.snd.snd.snd.fst && 
  (a.snd.snd.snd.snd.snd.snd.fst.fst.snd.snd.snd.snd.snd.snd.snd.snd.snd.snd.fst == b.snd.snd.snd.snd.snd.snd.fst.fst.snd.snd.snd.snd.snd.snd.snd.snd.snd.snd.fst && 
  (a.snd.snd.snd.snd.snd.snd.fst.fst.snd.snd.snd.snd.snd.snd.snd.snd.snd.snd.snd.fst == b.snd.snd.snd.snd.snd.snd.fst.fst.snd.snd.snd.snd.snd.snd.snd.snd.snd.snd.snd.fst && 
  (a.snd.snd.snd.snd.snd.snd.fst.fst.snd.snd.snd.snd.snd.snd.snd.snd.snd.snd.snd.snd.fst == b.snd.snd.snd.snd.snd.snd.fst.fst.snd.snd.snd.snd.snd.snd.snd.snd.snd.snd.snd.snd.fst && 
  (a.snd.snd.snd.snd.snd.snd.fst.fst.snd.snd.snd.snd.snd.snd.snd.snd.snd.snd.snd.snd.snd.fst == b.snd.snd.snd.snd.snd.snd.fst.fst.snd.snd.snd.snd.snd.snd.snd.snd.snd.snd.snd.snd.snd.fst && 
  (a.snd.snd.snd.snd.snd.snd.fst.fst.snd.snd.snd.snd.snd.snd.snd.snd.snd.snd.snd.snd.snd.snd.fst == b.snd.snd.snd.snd.snd.snd.fst.fst.snd.snd.snd.snd.snd.snd.snd.snd.snd.snd.snd.snd.snd.snd.fst && 
  (a.snd.snd.snd.snd.snd.snd.fst.fst.snd.snd.snd.snd.snd.snd.snd.snd.snd.snd.snd.snd.snd.snd.snd == b.snd.snd.snd.snd.snd.snd.fst.fst.snd.snd.snd.snd.snd.snd.snd.snd.snd.snd.snd.snd.snd.snd.snd && true))))))))))))))) && 
  (a.snd.snd.snd.snd.snd.snd.fst.snd == b.snd.snd.snd.snd.snd.snd.fst.snd && true)) = true → ((a.snd.snd.snd.snd.snd.snd.snd.fst == b.snd.snd.snd.snd.snd.snd.snd.fst) = true → ((a.snd.snd.snd.snd.snd.snd.snd.snd.fst == 
  b.snd.snd.snd.snd.snd.snd.snd.snd.fst) = true → ((a.snd.snd.snd.snd.snd.snd.snd.snd.snd.fst == b.snd.snd.snd.snd.snd.snd.snd.snd.snd.fst) = true → ((a.snd.snd.snd.snd.snd.snd.snd.snd.snd.snd.fst == 
  b.snd.snd.snd.snd.snd.snd.snd.snd.snd.snd.fst) = true → ((a.snd.snd.snd.snd.snd.snd.snd.snd.snd.snd.snd.snd.fst.toList == b.snd.snd.snd.snd.snd.snd.snd.snd.snd.snd.snd.snd.fst.toList) = true → 
  (a.snd.snd.snd.snd.snd.snd.snd.snd.snd.snd.snd.snd.snd.toList == b.snd.snd.snd.snd.snd.snd.snd.snd.snd.snd.snd.snd.snd.toList) = v_1 ∧ True) ∧ ((a.snd.snd.snd.snd.snd.snd.snd.snd.snd.snd.snd.snd.fst.toList == 
  b.snd.snd.snd.snd.snd.snd.snd.snd.snd.snd.snd.snd.fst.toList) = !true → false = v_1 ∧ True)) ∧ ((a.snd.snd.snd.snd.snd.snd.snd.snd.snd.snd.fst == b.snd.snd.snd.snd.snd.snd.snd.snd.snd.snd.fst) = !true → false = v_1 ∧ 
  True)) ∧ ((a.snd.snd.snd.snd.snd.snd.snd.snd.snd.fst == b.snd.snd.snd.snd.snd.snd.snd.snd.snd.fst) = !true → false = v_1 ∧ True)) ∧ ((a.snd.snd.snd.snd.snd.snd.snd.snd.fst == b.snd.snd.snd.snd.snd.snd.snd.snd.fst) = 
  !true → false = v_1 ∧ True)) ∧ ((a.snd.snd.snd.snd.snd.snd.snd.fst == b.snd.snd.snd.snd.snd.snd.snd.fst) = !true → false = v_1 ∧ True)) ∧ ((a.snd.snd.snd.snd.snd.snd.fst.fst.fst == b.snd.snd.snd.snd.snd.snd.fst.fst.fst 
  && (a.snd.snd.snd.snd.snd.snd.fst.fst.snd.fst == b.snd.snd.snd.snd.snd.snd.fst.fst.snd.fst && (a.snd.snd.snd.snd.snd.snd.fst.fst.snd.snd.fst == b.snd.snd.snd.snd.snd.snd.fst.fst.snd.snd.fst && 
  (a.snd.snd.snd.snd.snd.snd.fst.fst.snd.snd.snd.fst == b.snd.snd.snd.snd.snd.snd.fst.fst.snd.snd.snd.fst && (a.snd.snd.snd.snd.snd.snd.fst.fst.snd.snd.snd.snd.fst == b.snd.snd.snd.snd.snd.snd.fst.fst.snd.snd.snd.snd.fst 
  && (a.snd.snd.snd.snd.snd.snd.fst.fst.snd.snd.snd.snd.snd.fst == b.snd.snd.snd.snd.snd.snd.fst.fst.snd.snd.snd.snd.snd.fst && (a.snd.snd.snd.snd.snd.snd.fst.fst.snd.snd.snd.snd.snd.snd.fst == 
  b.snd.snd.snd.snd.snd.snd.fst.fst.snd.snd.snd.snd.snd.snd.fst && (a.snd.snd.snd.snd.snd.snd.fst.fst.snd.snd.snd.snd.snd.snd.snd.fst == b.snd.snd.snd.snd.snd.snd.fst.fst.snd.snd.snd.snd.snd.snd.snd.fst && 
  (a.snd.snd.snd.snd.snd.snd.fst.fst.snd.snd.snd.snd.snd.snd.snd.snd.fst == b.snd.snd.snd.snd.snd.snd.fst.fst.snd.snd.snd.snd.snd.snd.snd.snd.fst && 
  (a.snd.snd.snd.snd.snd.snd.fst.fst.snd.snd.snd.snd.snd.snd.snd.snd.snd.fst == b.snd.snd.snd.snd.snd.snd.fst.fst.snd.snd.snd.snd.snd.snd.snd.snd.snd.fst && 
  (a.snd.snd.snd.snd.snd.snd.fst.fst.snd.snd.snd.snd.snd.snd.snd.snd.snd.snd.fst == b.snd.snd.snd.snd.snd.snd.fst.fst.snd.snd.snd.snd.snd.snd.snd.snd.snd.snd.fst && 
  (a.snd.snd.snd.snd.snd.snd.fst.fst.snd.snd.snd.snd.snd.snd.snd.snd.snd.snd.snd.fst == b.snd.snd.snd.snd.snd.snd.fst.fst.snd.snd.snd.snd.snd.snd.snd.snd.snd.snd.snd.fst && 
  (a.snd.snd.snd.snd.snd.snd.fst.fst.snd.snd.snd.snd.snd.snd.snd.snd.snd.snd.snd.snd.fst == b.snd.snd.snd.snd.snd.snd.fst.fst.snd.snd.snd.snd.snd.snd.snd.snd.snd.snd.snd.snd.fst && 
  (a.snd.snd.snd.snd.snd.snd.fst.fst.snd.snd.snd.snd.snd.snd.snd.snd.snd.snd.snd.snd.snd.fst == b.snd.snd.snd.snd.snd.snd.fst.fst.snd.snd.snd.snd.snd.snd.snd.snd.snd.snd.snd.snd.snd.fst && 
  (a.snd.snd.snd.snd.snd.snd.fst.fst.snd.snd.snd.snd.snd.snd.snd.snd.snd.snd.snd.snd.snd.snd.fst == b.snd.snd.snd.snd.snd.snd.fst.fst.snd.snd.snd.snd.snd.snd.snd.snd.snd.snd.snd.snd.snd.snd.fst && 
  (a.snd.snd.snd.snd.snd.snd.fst.fst.snd.snd.snd.snd.snd.snd.snd.snd.snd.snd.snd.snd.snd.snd.snd == b.snd.snd.snd.snd.snd.snd.fst.fst.snd.snd.snd.snd.snd.snd.snd.snd.snd.snd.snd.snd.snd.snd.snd && true))))))))))))))) && 
  (a.snd.snd.snd.snd.snd.snd.fst.snd == b.snd.snd.snd.snd.snd.snd.fst.snd && true)) = !true → false = v_1 ∧ True)) ∧ ((a.snd.snd.snd.snd.snd.fst.fst == b.snd.snd.snd.snd.snd.fst.fst && (a.snd.snd.snd.snd.snd.fst.snd == 
  b.snd.snd.snd.snd.snd.fst.snd && true)) = !true → false = v_1 ∧ True)) ∧ (sameX (a.snd.snd.snd.snd.fst.fst, a.snd.snd.snd.snd.fst.snd) (b.snd.snd.snd.snd.fst.fst, b.snd.snd.snd.snd.fst.snd) = !true → false = v_1 ∧ 
  True)) ∧ ((a.snd.snd.fst.toList == b.snd.snd.fst.toList) = !true → false = v_1 ∧ True)) ∧ ∃ (v_2 : Bool), ((v = true → false = v_2) ∧ (v = !true → false = v_2)) ∧ v_2 = sameX a b ∧ True)) ∧ (sameX a.snd.fst b.snd.fst = 
  !true → ∃ (v_1 : Bool), (((a.snd.snd.fst.toList == b.snd.snd.fst.toList) = true → true = true ∧ (sameX (a.snd.snd.snd.snd.fst.fst, a.snd.snd.snd.snd.fst.snd) (b.snd.snd.snd.snd.fst.fst, b.snd.snd.snd.snd.fst.snd) = 
  true → ((a.snd.snd.snd.snd.snd.fst.fst == b.snd.snd.snd.snd.snd.fst.fst && (a.snd.snd.snd.snd.snd.fst.snd == b.snd.snd.snd.snd.snd.fst.snd && true)) = true → ((a.snd.snd.snd.snd.snd.snd.fst.fst.fst == 
  b.snd.snd.snd.snd.snd.snd.fst.fst.fst && (a.snd.snd.snd.snd.snd.snd.fst.fst.snd.fst == b.snd.snd.snd.snd.snd.snd.fst.fst.snd.fst && (a.snd.snd.snd.snd.snd.snd.fst.fst.snd.snd.fst == 
  b.snd.snd.snd.snd.snd.snd.fst.fst.snd.snd.fst && (a.snd.snd.snd.snd.snd.snd.fst.fst.snd.snd.snd.fst == b.snd.snd.snd.snd.snd.snd.fst.fst.snd.snd.snd.fst && (a.snd.snd.snd.snd.snd.snd.fst.fst.snd.snd.snd.snd.fst == 
  b.snd.snd.snd.snd.snd.snd.fst.fst.snd.snd.snd.snd.fst && (a.snd.snd.snd.snd.snd.snd.fst.fst.snd.snd.snd.snd.snd.fst == b.snd.snd.snd.snd.snd.snd.fst.fst.snd.snd.snd.snd.snd.fst && 
  (a.snd.snd.snd.snd.snd.snd.fst.fst.snd.snd.snd.snd.snd.snd.fst == b.snd.snd.snd.snd.snd.snd.fst.fst.snd.snd.snd.snd.snd.snd.fst && (a.snd.snd.snd.snd.snd.snd.fst.fst.snd.snd.snd.snd.snd.snd.snd.fst == 
  b.snd.snd.snd.snd.snd.snd.fst.fst.snd.snd.snd.snd.snd.snd.snd.fst && (a.snd.snd.snd.snd.snd.snd.fst.fst.snd.snd.snd.snd.snd.snd.snd.snd.fst == b.snd.snd.snd.snd.snd.snd.fst.fst.snd.snd.snd.snd.snd.snd.snd.snd.fst && 
  (a.snd.snd.snd.snd.snd.snd.fst.fst.snd.snd.snd.snd.snd.snd.snd.snd.snd.fst == b.snd.snd.snd.snd.snd.snd.fst.fst.snd.snd.snd.snd.snd.snd.snd.snd.snd.fst && 
  (a.snd.snd.snd.snd.snd.snd.fst.fst.snd.snd.snd.snd.snd.snd.snd.snd.snd.snd.fst == b.snd.snd.snd.snd.snd.snd.fst.fst.snd.snd.snd.snd.snd.snd.snd.snd.snd.snd.fst && 
  (a.snd.snd.snd.snd.snd.snd.fst.fst.snd.snd.snd.snd.snd.snd.snd.snd.snd.snd.snd.fst == b.snd.snd.snd.snd.snd.snd.fst.fst.snd.snd.snd.snd.snd.snd.snd.snd.snd.snd.snd.fst && 
  (a.snd.snd.snd.snd.snd.snd.fst.fst.snd.snd.snd.snd.snd.snd.snd.snd.snd.snd.snd.snd.fst == b.snd.snd.snd.snd.snd.snd.fst.fst.snd.snd.snd.snd.snd.snd.snd.snd.snd.snd.snd.snd.fst && 
  (a.snd.snd.snd.snd.snd.snd.fst.fst.snd.snd.snd.snd.snd.snd.snd.snd.snd.snd.snd.snd.snd.fst == b.snd.snd.snd.snd.snd.snd.fst.fst.snd.snd.snd.snd.snd.snd.snd.snd.snd.snd.snd.snd.snd.fst && 
  (a.snd.snd.snd.snd.snd.snd.fst.fst.snd.snd.snd.snd.snd.snd.snd.snd.snd.snd.snd.snd.snd.snd.fst == b.snd.snd.snd.snd.snd.snd.fst.fst.snd.snd.snd.snd.snd.snd.snd.snd.snd.snd.snd.snd.snd.snd.fst && 
  (a.snd.snd.snd.snd.snd.snd.fst.fst.snd.snd.snd.snd.snd.snd.snd.snd.snd.snd.snd.snd.snd.snd.snd == b.snd.snd.snd.snd.snd.snd.fst.fst.snd.snd.snd.snd.snd.snd.snd.snd.snd.snd.snd.snd.snd.snd.snd && true))))))))))))))) && 
  (a.snd.snd.snd.snd.snd.snd.fst.snd == b.snd.snd.snd.snd.snd.snd.fst.snd && true)) = true → ((a.snd.snd.snd.snd.snd.snd.snd.fst == b.snd.snd.snd.snd.snd.snd.snd.fst) = true → ((a.snd.snd.snd.snd.snd.snd.snd.snd.fst == 
  b.snd.snd.snd.snd.snd.snd.snd.snd.fst) = true → ((a.snd.snd.snd.snd.snd.snd.snd.snd.snd.fst == b.snd.snd.snd.snd.snd.snd.snd.snd.snd.fst) = true → ((a.snd.snd.snd.snd.snd.snd.snd.snd.snd.snd.fst == 
  b.snd.snd.snd.snd.snd.snd.snd.snd.snd.snd.fst) = true → ((a.snd.snd.snd.snd.snd.snd.snd.snd.snd.snd.snd.snd.fst.toList == b.snd.snd.snd.snd.snd.snd.snd.snd.snd.snd.snd.snd.fst.toList) = true → 
  (a.snd.snd.snd.snd.snd.snd.snd.snd.snd.snd.snd.snd.snd.toList == b.snd.snd.snd.snd.snd.snd.snd.snd.snd.snd.snd.snd.snd.toList) = v_1 ∧ True) ∧ ((a.snd.snd.snd.snd.snd.snd.snd.snd.snd.snd.snd.snd.fst.toList == 
  b.snd.snd.snd.snd.snd.snd.snd.snd.snd.snd.snd.snd.fst.toList) = !true → false = v_1 ∧ True)) ∧ ((a.snd.snd.snd.snd.snd.snd.snd.snd.snd.snd.fst == b.snd.snd.snd.snd.snd.snd.snd.snd.snd.snd.fst) = !true → false = v_1 ∧ 
  True)) ∧ ((a.snd.snd.snd.snd.snd.snd.snd.snd.snd.fst == b.snd.snd.snd.snd.snd.snd.snd.snd.snd.fst) = !true → false = v_1 ∧ True)) ∧ ((a.snd.snd.snd.snd.snd.snd.snd.snd.fst == b.snd.snd.snd.snd.snd.snd.snd.snd.fst) = 
  !true → false = v_1 ∧ True)) ∧ ((a.snd.snd.snd.snd.snd.snd.snd.fst == b.snd.snd.snd.snd.snd.snd.snd.fst) = !true → false = v_1 ∧ True)) ∧ ((a.snd.snd.snd.snd.snd.snd.fst.fst.fst == b.snd.snd.snd.snd.snd.snd.fst.fst.fst 
  && (a.snd.snd.snd.snd.snd.snd.fst.fst.snd.fst == b.snd.snd.snd.snd.snd.snd.fst.fst.snd.fst && (a.snd.snd.snd.snd.snd.snd.fst.fst.snd.snd.fst == b.snd.snd.snd.snd.snd.snd.fst.fst.snd.snd.fst && 
  (a.snd.snd.snd.snd.snd.snd.fst.fst.snd.snd.snd.fst == b.snd.snd.snd.snd.snd.snd.fst.fst.snd.snd.snd.fst && (a.snd.snd.snd.snd.snd.snd.fst.fst.snd.snd.snd.snd.fst == b.snd.snd.snd.snd.snd.snd.fst.fst.snd.snd.snd.snd.fst 
  && (a.snd.snd.snd.snd.snd.snd.fst.fst.snd.snd.snd.snd.snd.fst == b.snd.snd.snd.snd.snd.snd.fst.fst.snd.snd.snd.snd.snd.fst && (a.snd.snd.snd.snd.snd.snd.fst.fst.snd.snd.snd.snd.snd.snd.fst == 
  b.snd.snd.snd.snd.snd.snd.fst.fst.snd.snd.snd.snd.snd.snd.fst && (a.snd.snd.snd.snd.snd.snd.fst.fst.snd.snd.snd.snd.snd.snd.snd.fst == b.snd.snd.snd.snd.snd.snd.fst.fst.snd.snd.snd.snd.snd.snd.snd.fst && 
  (a.snd.snd.snd.snd.snd.snd.fst.fst.snd.snd.snd.snd.snd.snd.snd.snd.fst == b.snd.snd.snd.snd.snd.snd.fst.fst.snd.snd.snd.snd.snd.snd.snd.snd.fst && 
  (a.snd.snd.snd.snd.snd.snd.fst.fst.snd.snd.snd.snd.snd.snd.snd.snd.snd.fst == b.snd.snd.snd.snd.snd.snd.fst.fst.snd.snd.snd.snd.snd.snd.snd.snd.snd.fst && 
  (a.snd.snd.snd.snd.snd.snd.fst.fst.snd.snd.snd.snd.snd.snd.snd.snd.snd.snd.fst == b.snd.snd.snd.snd.snd.snd.fst.fst.snd.snd.snd.snd.snd.snd.snd.snd.snd.snd.fst && 
  (a.snd.snd.snd.snd.snd.snd.fst.fst.snd.snd.snd.snd.snd.snd.snd.snd.snd.snd.snd.fst == b.snd.snd.snd.snd.snd.snd.fst.fst.snd.snd.snd.snd.snd.snd.snd.snd.snd.snd.snd.fst && 
  (a.snd.snd.snd.snd.snd.snd.fst.fst.snd.snd.snd.snd.snd.snd.snd.snd.snd.snd.snd.snd.fst == b.snd.snd.snd.snd.snd.snd.fst.fst.snd.snd.snd.snd.snd.snd.snd.snd.snd.snd.snd.snd.fst && 
  (a.snd.snd.snd.snd.snd.snd.fst.fst.snd.snd.snd.snd.snd.snd.snd.snd.snd.snd.snd.snd.snd.fst == b.snd.snd.snd.snd.snd.snd.fst.fst.snd.snd.snd.snd.snd.snd.snd.snd.snd.snd.snd.snd.snd.fst && 
  (a.snd.snd.snd.snd.snd.snd.fst.fst.snd.snd.snd.snd.snd.snd.snd.snd.snd.snd.snd.snd.snd.snd.fst == b.snd.snd.snd.snd.snd.snd.fst.fst.snd.snd.snd.snd.snd.snd.snd.snd.snd.snd.snd.snd.snd.snd.fst && 
  (a.snd.snd.snd.snd.snd.snd.fst.fst.snd.snd.snd.snd.snd.snd.snd.snd.snd.snd.snd.snd.snd.snd.snd == b.snd.snd.snd.snd.snd.snd.fst.fst.snd.snd.snd.snd.snd.snd.snd.snd.snd.snd.snd.snd.snd.snd.snd && true))))))))))))))) && 
  (a.snd.snd.snd.snd.snd.snd.fst.snd == b.snd.snd.snd.snd.snd.snd.fst.snd && true)) = !true → false = v_1 ∧ True)) ∧ ((a.snd.snd.snd.snd.snd.fst.fst == b.snd.snd.snd.snd.snd.fst.fst && (a.snd.snd.snd.snd.snd.fst.snd == 
  b.snd.snd.snd.snd.snd.fst.snd && true)) = !true → false = v_1 ∧ True)) ∧ (sameX (a.snd.snd.snd.snd.fst.fst, a.snd.snd.snd.snd.fst.snd) (b.snd.snd.snd.snd.fst.fst, b.snd.snd.snd.snd.fst.snd) = !true → false = v_1 ∧ 
  True)) ∧ ((a.snd.snd.fst.toList == b.snd.snd.fst.toList) = !true → false = v_1 ∧ True)) ∧ ∃ (v_2 : Bool), ((v = true → false = v_2) ∧ (v = !true → false = v_2)) ∧ v_2 = sameX a b ∧ True)) := by kernel_rfl
theorem sameO_vc (a b : Obj) : fvc PP (eP [p20, p40, p41, p42]) Try.f25 c25 (ofArgs [objT, objT] (a, b, ())) St0 (gives [.bool] (sameX a b, ())) = (
  ∃ (v : Bool), (true = true ∧ ((!sameX (a.fst.fst, a.fst.snd.fst, a.fst.snd.snd.fst, a.fst.snd.snd.snd.fst, a.fst.snd.snd.snd.snd.fst, a.fst.snd.snd.snd.snd.snd.fst, a.fst.snd.snd.snd.snd.snd.snd) (b.fst.fst, 
  b.fst.snd.fst, b.fst.snd.snd.fst, b.fst.snd.snd.snd.fst, b.fst.snd.snd.snd.snd.fst, b.fst.snd.snd.snd.snd.snd.fst, b.fst.snd.snd.snd.snd.snd.snd)) = false → true = true ∧ ((!sameI a.snd.fst b.snd.fst) = false → 
  ((!a.snd.snd.fst.toList == b.snd.snd.fst.toList) = false → true = true ∧ ((!sameX a.snd.snd.snd.fst b.snd.snd.snd.fst) = false → true = true ∧ ((!sameX (a.snd.snd.snd.snd.fst.fst, a.snd.snd.snd.snd.fst.snd) 
  (b.snd.snd.snd.snd.fst.fst, b.snd.snd.snd.snd.fst.snd)) = false → ((!(a.snd.snd.snd.snd.snd.fst.fst == b.snd.snd.snd.snd.snd.fst.fst && (a.snd.snd.snd.snd.snd.fst.snd == b.snd.snd.snd.snd.snd.fst.snd && true))) = false 
  → (!(a.snd.snd.snd.snd.snd.snd.fst.fst.fst == b.snd.snd.snd.snd.snd.snd.fst.fst.fst && (a.snd.snd.snd.snd.snd.snd.fst.fst.snd.fst == b.snd.snd.snd.snd.snd.snd.fst.fst.snd.fst && 
  (a.snd.snd.snd.snd.snd.snd.fst.fst.snd.snd.fst == b.snd.snd.snd.snd.snd.snd.fst.fst.snd.snd.fst && (a.snd.snd.snd.snd.snd.snd.fst.fst.snd.snd.snd.fst == b.snd.snd.snd.snd.snd.snd.fst.fst.snd.snd.snd.fst && 
  (a.snd.snd.snd.snd.snd.snd.fst.fst.snd.snd.snd.snd.fst == b.snd.snd.snd.snd.snd.snd.fst.fst.snd.snd.snd.snd.fst && (a.snd.snd.snd.snd.snd.snd.fst.fst.snd.snd.snd.snd.snd.fst == 
  b.snd.snd.snd.snd.snd.snd.fst.fst.snd.snd.snd.snd.snd.fst && (a.snd.snd.snd.snd.snd.snd.fst.fst.snd.snd.snd.snd.snd.snd.fst == b.snd.snd.snd.snd.snd.snd.fst.fst.snd.snd.snd.snd.snd.snd.fst && 
  (a.snd.snd.snd.snd.snd.snd.fst.fst.snd.snd.snd.snd.snd.snd.snd.fst == b.snd.snd.snd.snd.snd.snd.fst.fst.snd.snd.snd.snd.snd.snd.snd.fst && (a.snd.snd.snd.snd.snd.snd.fst.fst.snd.snd.snd.snd.snd.snd.snd.snd.fst == 
  b.snd.snd.snd.snd.snd.snd.fst.fst.snd.snd.snd.snd.snd.snd.snd.snd.fst && (a.snd.snd.snd.snd.snd.snd.fst.fst.snd.snd.snd.snd.snd.snd.snd.snd.snd.fst == 
  b.snd.snd.snd.snd.snd.snd.fst.fst.snd.snd.snd.snd.snd.snd.snd.snd.snd.fst && (a.snd.snd.snd.snd.snd.snd.fst.fst.snd.snd.snd.snd.snd.snd.snd.snd.snd.snd.fst == 
  b.snd.snd.snd.snd.snd.snd.fst.fst.snd.snd.snd.snd.snd.snd.snd.snd.snd.snd.fst && (a.snd.snd.snd.snd.snd.snd.fst.fst.snd.snd.snd.snd.snd.snd.snd.snd.snd.snd.snd.fst == 
  b.snd.snd.snd.snd.snd.snd.fst.fst.snd.snd.snd.snd.snd.snd.snd.snd.snd.snd.snd.fst && (a.snd.snd.snd.snd.snd.snd.fst.fst.snd.snd.snd.snd.snd.snd.snd.snd.snd.snd.snd.snd.fst == 
  b.snd.snd.snd.snd.snd.snd.fst.fst.snd.snd.snd.snd.snd.snd.snd.snd.snd.snd.snd.snd.fst && (a.snd.snd.snd.snd.snd.snd.fst.fst.snd.snd.snd.snd.snd.snd.snd.snd.snd.snd.snd.snd.snd.fst == 
  b.snd.snd.snd.snd.snd.snd.fst.fst.snd.snd.snd.snd.snd.snd.snd.snd.snd.snd.snd.snd.snd.fst && (a.snd.snd.snd.snd.snd.snd.fst.fst.snd.snd.snd.snd.snd.snd.snd.snd.snd.snd.snd.snd.snd.snd.fst == 
  b.snd.snd.snd.snd.snd.snd.fst.fst.snd.snd.snd.snd.snd.snd.snd.snd.snd.snd.snd.snd.snd.snd.fst && (a.snd.snd.snd.snd.snd.snd.fst.fst.snd.snd.snd.snd.snd.snd.snd.snd.snd.snd.snd.snd.snd.snd.snd == 
  b.snd.snd.snd.snd.snd.snd.fst.fst.snd.snd.snd.snd.snd.snd.snd.snd.snd.snd.snd.snd.snd.snd.snd && true))))))))))))))) && (a.snd.snd.snd.snd.snd.snd.fst.snd == b.snd.snd.snd.snd.snd.snd.fst.snd && true))) = v ∧ True) ∧ 
  ((!(a.snd.snd.snd.snd.snd.fst.fst == b.snd.snd.snd.snd.snd.fst.fst && (a.snd.snd.snd.snd.snd.fst.snd == b.snd.snd.snd.snd.snd.fst.snd && true))) = !false → true = v ∧ True)) ∧ ((!sameX (a.snd.snd.snd.snd.fst.fst, 
  a.snd.snd.snd.snd.fst.snd) (b.snd.snd.snd.snd.fst.fst, b.snd.snd.snd.snd.fst.snd)) = !false → true = v ∧ True)) ∧ ((!sameX a.snd.snd.snd.fst b.snd.snd.snd.fst) = !false → true = v ∧ True)) ∧ ((!a.snd.snd.fst.toList == 
  b.snd.snd.fst.toList) = !false → true = v ∧ True)) ∧ ((!sameI a.snd.fst b.snd.fst) = !false → true = v ∧ True)) ∧ ((!sameX (a.fst.fst, a.fst.snd.fst, a.fst.snd.snd.fst, a.fst.snd.snd.snd.fst, a.fst.snd.snd.snd.snd.fst, 
  a.fst.snd.snd.snd.snd.snd.fst, a.fst.snd.snd.snd.snd.snd.snd) (b.fst.fst, b.fst.snd.fst, b.fst.snd.snd.fst, b.fst.snd.snd.snd.fst, b.fst.snd.snd.snd.snd.fst, b.fst.snd.snd.snd.snd.snd.fst, 
  b.fst.snd.snd.snd.snd.snd.snd)) = !false → true = v ∧ True)) ∧ (v = true → false = sameX a b ∧ True) ∧ (v = false → ∃ (v : Bool), (((a.snd.snd.snd.snd.snd.snd.snd.fst == b.snd.snd.snd.snd.snd.snd.snd.fst) = true → 
  ((a.snd.snd.snd.snd.snd.snd.snd.snd.fst == b.snd.snd.snd.snd.snd.snd.snd.snd.fst) = true → ((a.snd.snd.snd.snd.snd.snd.snd.snd.snd.fst == b.snd.snd.snd.snd.snd.snd.snd.snd.snd.fst) = true → 
  ((a.snd.snd.snd.snd.snd.snd.snd.snd.snd.snd.fst == b.snd.snd.snd.snd.snd.snd.snd.snd.snd.snd.fst) = true → true = true ∧ (sameI a.snd.snd.snd.snd.snd.snd.snd.snd.snd.snd.snd.fst 
  b.snd.snd.snd.snd.snd.snd.snd.snd.snd.snd.snd.fst = true → ((a.snd.snd.snd.snd.snd.snd.snd.snd.snd.snd.snd.snd.fst.toList == b.snd.snd.snd.snd.snd.snd.snd.snd.snd.snd.snd.snd.fst.toList) = true → 
  (a.snd.snd.snd.snd.snd.snd.snd.snd.snd.snd.snd.snd.snd.toList == b.snd.snd.snd.snd.snd.snd.snd.snd.snd.snd.snd.snd.snd.toList) = v ∧ True) ∧ ((a.snd.snd.snd.snd.snd.snd.snd.snd.snd.snd.snd.snd.fst.toList == 
  b.snd.snd.snd.snd.snd.snd.snd.snd.snd.snd.snd.snd.fst.toList) = !true → false = v ∧ True)) ∧ (sameI a.snd.snd.snd.snd.snd.snd.snd.snd.snd.snd.snd.fst b.snd.snd.snd.snd.snd.snd.snd.snd.snd.snd.snd.fst = !true → false = 
  v ∧ True)) ∧ ((a.snd.snd.snd.snd.snd.snd.snd.snd.snd.snd.fst == b.snd.snd.snd.snd.snd.snd.snd.snd.snd.snd.fst) = !true → false = v ∧ True)) ∧ ((a.snd.snd.snd.snd.snd.snd.snd.snd.snd.fst == 
  b.snd.snd.snd.snd.snd.snd.snd.snd.snd.fst) = !true → false = v ∧ True)) ∧ ((a.snd.snd.snd.snd.snd.snd.snd.snd.fst == b.snd.snd.snd.snd.snd.snd.snd.snd.fst) = !true → false = v ∧ True)) ∧ 
  ((a.snd.snd.snd.snd.snd.snd.snd.fst == b.snd.snd.snd.snd.snd.snd.snd.fst) = !true → false = v ∧ True)) ∧ v = sameX a b ∧ True)) := by kernel_rfl
end Go.Proofs.Ytlnclaggmjhbfaa
namespace Go.Proofs.Ytlnclaggmjhbfaa
open Go.Proofs.Ytlnclaggmjhbfaa.Gx
set_option maxRecDepth 100000
set_option maxHeartbeats 4000000
set_option linter.unusedSimpArgs false
set_option linter.unusedVariables false
abbrev RegT : Type := (Int × Int × Int × Int × Int × Int × Int × Int × Int × Int × Int × Int × Int × Int × Int × Int) × Int
theorem int_eq (x y : Int) : (x == y) = sameX x y := (sameX_int x y).symm
theorem str_eq (x y : ByteArray) : (x.toList == y.toList) = sameX x y := by
  rw [Bool.eq_iff_iff, sameX_iff, ByteArray.toList_eq, ByteArray.toList_eq]
  obtain ⟨⟨x⟩⟩ := x
  obtain ⟨⟨y⟩⟩ := y
  simp
theorem ref_eq (x y : Int × Int) : (x.1 == y.1 && (x.2 == y.2 && true)) = sameX x y := by
  rw [sameX_pair, sameX_int, sameX_int, Bool.and_true]
theorem regs_eq (x y : RegT) : ((x.1.1 == y.1.1 && (x.1.2.1 == y.1.2.1 && (x.1.2.2.1 == y.1.2.2.1 && (x.1.2.2.2.1 == y.1.2.2.2.1 && (x.1.2.2.2.2.1 == y.1.2.2.2.2.1 && (x.1.2.2.2.2.2.1 == y.1.2.2.2.2.2.1 && (x.1.2.2.2.2.2.2.1 == y.1.2.2.2.2.2.2.1 && (x.1.2.2.2.2.2.2.2.1 == y.1.2.2.2.2.2.2.2.1 && (x.1.2.2.2.2.2.2.2.2.1 == y.1.2.2.2.2.2.2.2.2.1 && (x.1.2.2.2.2.2.2.2.2.2.1 == y.1.2.2.2.2.2.2.2.2.2.1 && (x.1.2.2.2.2.2.2.2.2.2.2.1 == y.1.2.2.2.2.2.2.2.2.2.2.1 && (x.1.2.2.2.2.2.2.2.2.2.2.2.1 == y.1.2.2.2.2.2.2.2.2.2.2.2.1 && (x.1.2.2.2.2.2.2.2.2.2.2.2.2.1 == y.1.2.2.2.2.2.2.2.2.2.2.2.2.1 && (x.1.2.2.2.2.2.2.2.2.2.2.2.2.2.1 == y.1.2.2.2.2.2.2.2.2.2.2.2.2.2.1 && (x.1.2.2.2.2.2.2.2.2.2.2.2.2.2.2.1 == y.1.2.2.2.2.2.2.2.2.2.2.2.2.2.2.1 && (x.1.2.2.2.2.2.2.2.2.2.2.2.2.2.2.2 == y.1.2.2.2.2.2.2.2.2.2.2.2.2.2.2.2 && true)))))))))))))))) && (x.2 == y.2 && true)) = sameX x y := by
  rw [sameX_pair x y, sameX_pair x.1 y.1, sameX_pair x.1.2 y.1.2, sameX_pair x.1.2.2 y.1.2.2, sameX_pair x.1.2.2.2 y.1.2.2.2, sameX_pair x.1.2.2.2.2 y.1.2.2.2.2, sameX_pair x.1.2.2.2.2.2 y.1.2.2.2.2.2, sameX_pair x.1.2.2.2.2.2.2 y.1.2.2.2.2.2.2, sameX_pair x.1.2.2.2.2.2.2.2 y.1.2.2.2.2.2.2.2, sameX_pair x.1.2.2.2.2.2.2.2.2 y.1.2.2.2.2.2.2.2.2, sameX_pair x.1.2.2.2.2.2.2.2.2.2 y.1.2.2.2.2.2.2.2.2.2, sameX_pair x.1.2.2.2.2.2.2.2.2.2.2 y.1.2.2.2.2.2.2.2.2.2.2, sameX_pair x.1.2.2.2.2.2.2.2.2.2.2.2 y.1.2.2.2.2.2.2.2.2.2.2.2, sameX_pair x.1.2.2.2.2.2.2.2.2.2.2.2.2 y.1.2.2.2.2.2.2.2.2.2.2.2.2, sameX_pair x.1.2.2.2.2.2.2.2.2.2.2.2.2.2 y.1.2.2.2.2.2.2.2.2.2.2.2.2.2, sameX_pair x.1.2.2.2.2.2.2.2.2.2.2.2.2.2.2 y.1.2.2.2.2.2.2.2.2.2.2.2.2.2.2]
  simp only [sameX_int, Bool.and_true]
theorem obj_eq (a b : Obj) : sameX a b = ((sameX a.1.1 b.1.1 && (sameX a.1.2.1 b.1.2.1 && (sameX a.1.2.2.1 b.1.2.2.1 && (sameX a.1.2.2.2.1 b.1.2.2.2.1 && (sameX a.1.2.2.2.2.1 b.1.2.2.2.2.1 && sameX a.1.2.2.2.2.2 b.1.2.2.2.2.2))))) &&
    (sameX a.2.1 b.2.1 && (sameX a.2.2.1 b.2.2.1 && (sameX a.2.2.2.1 b.2.2.2.1 && (sameX a.2.2.2.2.1 b.2.2.2.2.1 && (sameX a.2.2.2.2.2.1 b.2.2.2.2.2.1 && (sameX a.2.2.2.2.2.2.1 b.2.2.2.2.2.2.1 && (sameX a.2.2.2.2.2.2.2.1 b.2.2.2.2.2.2.2.1 && (sameX a.2.2.2.2.2.2.2.2.1 b.2.2.2.2.2.2.2.2.1 && (sameX a.2.2.2.2.2.2.2.2.2.1 b.2.2.2.2.2.2.2.2.2.1 && (sameX a.2.2.2.2.2.2.2.2.2.2.1 b.2.2.2.2.2.2.2.2.2.2.1 && (sameX a.2.2.2.2.2.2.2.2.2.2.2.1 b.2.2.2.2.2.2.2.2.2.2.2.1 && (sameX a.2.2.2.2.2.2.2.2.2.2.2.2.1 b.2.2.2.2.2.2.2.2.2.2.2.2.1 && sameX a.2.2.2.2.2.2.2.2.2.2.2.2.2 b.2.2.2.2.2.2.2.2.2.2.2.2.2))))))))))))) := by
  rw [sameX_pair a b, sameX_pair a.1 b.1, sameX_pair a.1.2 b.1.2, sameX_pair a.1.2.2 b.1.2.2, sameX_pair a.1.2.2.2 b.1.2.2.2, sameX_pair a.1.2.2.2.2 b.1.2.2.2.2, sameX_pair a.2 b.2, sameX_pair a.2.2 b.2.2, sameX_pair a.2.2.2 b.2.2.2, sameX_pair a.2.2.2.2 b.2.2.2.2, sameX_pair a.2.2.2.2.2 b.2.2.2.2.2, sameX_pair a.2.2.2.2.2.2 b.2.2.2.2.2.2, sameX_pair a.2.2.2.2.2.2.2 b.2.2.2.2.2.2.2, sameX_pair a.2.2.2.2.2.2.2.2 b.2.2.2.2.2.2.2.2, sameX_pair a.2.2.2.2.2.2.2.2.2 b.2.2.2.2.2.2.2.2.2, sameX_pair a.2.2.2.2.2.2.2.2.2.2 b.2.2.2.2.2.2.2.2.2.2, sameX_pair a.2.2.2.2.2.2.2.2.2.2.2 b.2.2.2.2.2.2.2.2.2.2.2, sameX_pair a.2.2.2.2.2.2.2.2.2.2.2.2 b.2.2.2.2.2.2.2.2.2.2.2.2]
theorem alike_ok : PSpecOk PP 44 (Q [objT, objT] [.bool] (fun _ => true) (fun x => (sameX x.1 x.2.1, ()))) := by
  refine pspec_Q mixed (fn := Try.f44) (c := c44) rfl rfl _ _ rfl ?_
  rintro ⟨a, b, ⟨⟩⟩ - -
  refine ⟨eP [p56, p58, p59], env_ok .., rfl, hold (alike_vc a b) ?_⟩
  simp only [true_and, and_true, Prod.eta, eq_self_iff_true]
  simp only [regs_eq]
  simp only [ref_eq, str_eq]
  simp only [int_eq]
  rw [obj_eq a b]
  generalize sameX a.1.1 b.1.1 = x1
  generalize sameX a.1.2.1 b.1.2.1 = x2
  generalize sameX a.1.2.2.1 b.1.2.2.1 = x3
  generalize sameX a.1.2.2.2.1 b.1.2.2.2.1 = x4
  generalize sameX a.1.2.2.2.2.1 b.1.2.2.2.2.1 = x5
  generalize sameX a.1.2.2.2.2.2 b.1.2.2.2.2.2 = x6
  generalize sameX a.2.1 b.2.1 = y1
  generalize sameX a.2.2.1 b.2.2.1 = y2
  generalize sameX a.2.2.2.1 b.2.2.2.1 = y3
  generalize sameX a.2.2.2.2.1 b.2.2.2.2.1 = y4
  generalize sameX a.2.2.2.2.2.1 b.2.2.2.2.2.1 = y5
  generalize sameX a.2.2.2.2.2.2.1 b.2.2.2.2.2.2.1 = y6
  generalize sameX a.2.2.2.2.2.2.2.1 b.2.2.2.2.2.2.2.1 = y7
  generalize sameX a.2.2.2.2.2.2.2.2.1 b.2.2.2.2.2.2.2.2.1 = y8
  generalize sameX a.2.2.2.2.2.2.2.2.2.1 b.2.2.2.2.2.2.2.2.2.1 = y9
  generalize sameX a.2.2.2.2.2.2.2.2.2.2.1 b.2.2.2.2.2.2.2.2.2.2.1 = z1
  generalize sameX a.2.2.2.2.2.2.2.2.2.2.2.1 b.2.2.2.2.2.2.2.2.2.2.2.1 = z2
  generalize sameX a.2.2.2.2.2.2.2.2.2.2.2.2.1 b.2.2.2.2.2.2.2.2.2.2.2.2.1 = z3
  generalize sameX a.2.2.2.2.2.2.2.2.2.2.2.2.2 b.2.2.2.2.2.2.2.2.2.2.2.2.2 = z4
  refine ⟨(x1 && (x2 && (x3 && (x4 && (x5 && x6))))), ?_, fun h1 => ⟨fun h3 => ⟨(y2 && (y4 && (y5 && (y6 && (y7 && (y8 && (y9 && (z1 && (z3 && z4))))))))), ?_, _, ?_, rfl⟩, fun h3 => ⟨(y2 && (y4 && (y5 && (y6 && (y7 && (y8 && (y9 && (z1 && (z3 && z4))))))))), ?_, _, ?_, rfl⟩⟩, fun h1 => ⟨(y2 && (y4 && (y5 && (y6 && (y7 && (y8 && (y9 && (z1 && (z3 && z4))))))))), ?_, _, ?_, rfl⟩⟩
  · cases x1 with
    | false => simp
    | true =>
     cases x2 with
     | false => simp
     | true =>
      cases x3 with
      | false => simp
      | true =>
       cases x4 with
       | false => simp
       | true =>
        cases x5 with
        | false => simp
        | true =>
         cases x6 with
         | false => simp
         | true =>
          simp
  · cases y2 with
    | false => simp
    | true =>
     cases y4 with
     | false => simp
     | true =>
      cases y5 with
      | false => simp
      | true =>
       cases y6 with
       | false => simp
       | true =>
        cases y7 with
        | false => simp
        | true =>
         cases y8 with
         | false => simp
         | true =>
          cases y9 with
          | false => simp
          | true =>
           cases z1 with
           | false => simp
           | true =>
            cases z3 with
            | false => simp
            | true =>
             cases z4 with
             | false => simp
             | true =>
              simp
  · subst h1; subst h3
    cases x1 with
    | false => simp
    | true =>
     cases x2 with
     | false => simp
     | true =>
      cases x3 with
      | false => simp
      | true =>
       cases x4 with
       | false => simp
       | true =>
        cases x5 with
        | false => simp
        | true =>
         cases x6 with
         | false => simp
         | true =>
          cases z2 with
          | false => simp
          | true =>
           cases y2 with
           | false => simp
           | true =>
            cases y4 with
            | false => simp
            | true =>
             cases y5 with
             | false => simp
             | true =>
              cases y6 with
              | false => simp
              | true =>
               cases y7 with
               | false => simp
               | true =>
                cases y8 with
                | false => simp
                | true =>
                 cases y9 with
                 | false => simp
                 | true =>
                  cases z1 with
                  | false => simp
                  | true =>
                   cases z3 with
                   | false => simp
                   | true =>
                    cases z4 with
                    | false => simp
                    | true =>
                     simp
  · cases y2 with
    | false => simp
    | true =>
     cases y4 with
     | false => simp
     | true =>
      cases y5 with
      | false => simp
      | true =>
       cases y6 with
       | false => simp
       | true =>
        cases y7 with
        | false => simp
        | true =>
         cases y8 with
         | false => simp
         | true =>
          cases y9 with
          | false => simp
          | true =>
           cases z1 with
           | false => simp
           | true =>
            cases z3 with
            | false => simp
            | true =>
             cases z4 with
             | false => simp
             | true =>
              simp
  · subst h1; subst h3
    cases x1 with
    | false => simp
    | true =>
     cases x2 with
     | false => simp
     | true =>
      cases x3 with
      | false => simp
      | true =>
       cases x4 with
       | false => simp
       | true =>
        cases x5 with
        | false => simp
        | true =>
         cases x6 with
         | false => simp
         | true =>
          cases z2 with
          | false => simp
          | true =>
           cases y2 with
           | false => simp
           | true =>
            cases y4 with
            | false => simp
            | true =>
             cases y5 with
             | false => simp
             | true =>
              cases y6 with
              | false => simp
              | true =>
               cases y7 with
               | false => simp
               | true =>
                cases y8 with
                | false => simp
                | true =>
                 cases y9 with
                 | false => simp
                 | true =>
                  cases z1 with
                  | false => simp
                  | true =>
                   cases z3 with
                   | false => simp
                   | true =>
                    cases z4 with
                    | false => simp
                    | true =>
                     simp
  · cases y2 with
    | false => simp
    | true =>
     cases y4 with
     | false => simp
     | true =>
      cases y5 with
      | false => simp
      | true =>
       cases y6 with
       | false => simp
       | true =>
        cases y7 with
        | false => simp
        | true =>
         cases y8 with
         | false => simp
         | true =>
          cases y9 with
          | false => simp
          | true =>
           cases z1 with
           | false => simp
           | true =>
            cases z3 with
            | false => simp
            | true =>
             cases z4 with
             | false => simp
             | true =>
              simp
  · subst h1
    cases x1 with
    | false => simp
    | true =>
     cases x2 with
     | false => simp
     | true =>
      cases x3 with
      | false => simp
      | true =>
       cases x4 with
       | false => simp
       | true =>
        cases x5 with
        | false => simp
        | true =>
         cases x6 with
         | false => simp
         | true =>
          cases z2 with
          | false => simp
          | true =>
           cases y2 with
           | false => simp
           | true =>
            cases y4 with
            | false => simp
            | true =>
             cases y5 with
             | false => simp
             | true =>
              cases y6 with
              | false => simp
              | true =>
               cases y7 with
               | false => simp
               | true =>
                cases y8 with
                | false => simp
                | true =>
                 cases y9 with
                 | false => simp
                 | true =>
                  cases z1 with
                  | false => simp
                  | true =>
                   cases z3 with
                   | false => simp
                   | true =>
                    cases z4 with
                    | false => simp
                    | true =>
                     simp
noncomputable def p44 : Pv PP := ⟨44, _, ⟨rfl, alike_ok⟩⟩
theorem obj_eq2 (a b : Obj) : sameX a b = (sameX a.1 b.1 && (sameX a.2.1 b.2.1 && (sameX a.2.2.1 b.2.2.1 && (sameX a.2.2.2.1 b.2.2.2.1 && (sameX a.2.2.2.2.1 b.2.2.2.2.1 && (sameX a.2.2.2.2.2.1 b.2.2.2.2.2.1 && (sameX a.2.2.2.2.2.2.1 b.2.2.2.2.2.2.1 && (sameX a.2.2.2.2.2.2.2.1 b.2.2.2.2.2.2.2.1 && (sameX a.2.2.2.2.2.2.2.2.1 b.2.2.2.2.2.2.2.2.1 && (sameX a.2.2.2.2.2.2.2.2.2.1 b.2.2.2.2.2.2.2.2.2.1 && (sameX a.2.2.2.2.2.2.2.2.2.2.1 b.2.2.2.2.2.2.2.2.2.2.1 && (sameX a.2.2.2.2.2.2.2.2.2.2.2.1 b.2.2.2.2.2.2.2.2.2.2.2.1 && (sameX a.2.2.2.2.2.2.2.2.2.2.2.2.1 b.2.2.2.2.2.2.2.2.2.2.2.2.1 && sameX a.2.2.2.2.2.2.2.2.2.2.2.2.2 b.2.2.2.2.2.2.2.2.2.2.2.2.2))))))))))))) := by
  rw [sameX_pair a b, sameX_pair a.2 b.2, sameX_pair a.2.2 b.2.2, sameX_pair a.2.2.2 b.2.2.2, sameX_pair a.2.2.2.2 b.2.2.2.2, sameX_pair a.2.2.2.2.2 b.2.2.2.2.2, sameX_pair a.2.2.2.2.2.2 b.2.2.2.2.2.2, sameX_pair a.2.2.2.2.2.2.2 b.2.2.2.2.2.2.2, sameX_pair a.2.2.2.2.2.2.2.2 b.2.2.2.2.2.2.2.2, sameX_pair a.2.2.2.2.2.2.2.2.2 b.2.2.2.2.2.2.2.2.2, sameX_pair a.2.2.2.2.2.2.2.2.2.2 b.2.2.2.2.2.2.2.2.2.2, sameX_pair a.2.2.2.2.2.2.2.2.2.2.2 b.2.2.2.2.2.2.2.2.2.2.2, sameX_pair a.2.2.2.2.2.2.2.2.2.2.2.2 b.2.2.2.2.2.2.2.2.2.2.2.2]
theorem sameI_eq (x y : List Int) : sameI x y = sameX x y := by
  rw [Bool.eq_iff_iff, sameX_iff]; simp [sameI]
theorem sameO_ok : PSpecOk PP 25 (Q [objT, objT] [.bool] (fun _ => true) (fun x => (sameX x.1 x.2.1, ()))) := by
  refine pspec_Q mixed (fn := Try.f25) (c := c25) rfl rfl _ _ rfl ?_
  rintro ⟨a, b, ⟨⟩⟩ - -
  refine ⟨eP [p20, p40, p41, p42], env_ok .., rfl, hold (sameO_vc a b) ?_⟩
  simp only [true_and, and_true, Prod.eta, eq_self_iff_true]
  simp only [regs_eq]
  simp only [ref_eq, str_eq]
  simp only [int_eq]
  rw [obj_eq2 a b]
  simp only [sameI_eq]
  generalize sameX a.1 b.1 = i
  generalize sameX a.2.1 b.2.1 = y1
  generalize sameX a.2.2.1 b.2.2.1 = y2
  generalize sameX a.2.2.2.1 b.2.2.2.1 = y3
  generalize sameX a.2.2.2.2.1 b.2.2.2.2.1 = y4
  generalize sameX a.2.2.2.2.2.1 b.2.2.2.2.2.1 = y5
  generalize sameX a.2.2.2.2.2.2.1 b.2.2.2.2.2.2.1 = y6
  generalize sameX a.2.2.2.2.2.2.2.1 b.2.2.2.2.2.2.2.1 = y7
  generalize sameX a.2.2.2.2.2.2.2.2.1 b.2.2.2.2.2.2.2.2.1 = y8
  generalize sameX a.2.2.2.2.2.2.2.2.2.1 b.2.2.2.2.2.2.2.2.2.1 = y9
  generalize sameX a.2.2.2.2.2.2.2.2.2.2.1 b.2.2.2.2.2.2.2.2.2.2.1 = z1
  generalize sameX a.2.2.2.2.2.2.2.2.2.2.2.1 b.2.2.2.2.2.2.2.2.2.2.2.1 = z2
  generalize sameX a.2.2.2.2.2.2.2.2.2.2.2.2.1 b.2.2.2.2.2.2.2.2.2.2.2.2.1 = z3
  generalize sameX a.2.2.2.2.2.2.2.2.2.2.2.2.2 b.2.2.2.2.2.2.2.2.2.2.2.2.2 = z4
  refine ⟨!(i && (y1 && (y2 && (y3 && (y4 && (y5 && y6)))))), ?_, ?_, fun hv => ⟨(y7 && (y8 && (y9 && (z1 && (z2 && (z3 && z4)))))), ?_, ?_⟩⟩
  · cases i with
    | false => simp
    | true =>
     cases y1 with
     | false => simp
     | true =>
      cases y2 with
      | false => simp
      | true =>
       cases y3 with
       | false => simp
       | true =>
        cases y4 with
        | false => simp
        | true =>
         cases y5 with
         | false => simp
         | true =>
          cases y6 with
          | false => simp
          | true =>
           simp
  · cases i with
    | false => simp
    | true =>
     cases y1 with
     | false => simp
     | true =>
      cases y2 with
      | false => simp
      | true =>
       cases y3 with
       | false => simp
       | true =>
        cases y4 with
        | false => simp
        | true =>
         cases y5 with
         | false => simp
         | true =>
          cases y6 with
          | false => simp
          | true =>
           simp
  · clear hv
    cases y7 with
    | false => simp
    | true =>
     cases y8 with
     | false => simp
     | true =>
      cases y9 with
      | false => simp
      | true =>
       cases z1 with
       | false => simp
       | true =>
        cases z2 with
        | false => simp
        | true =>
         cases z3 with
         | false => simp
         | true =>
          cases z4 with
          | false => simp
          | true =>
           simp
  · revert hv
    cases i with
    | false => simp
    | true =>
     cases y1 with
     | false => simp
     | true =>
      cases y2 with
      | false => simp
      | true =>
       cases y3 with
       | false => simp
       | true =>
        cases y4 with
        | false => simp
        | true =>
         cases y5 with
         | false => simp
         | true =>
          cases y6 with
          | false => simp
          | true =>
           simp
noncomputable def p25 : Pv PP := ⟨25, _, ⟨rfl, sameO_ok⟩⟩
end Go.Proofs.Ytlnclaggmjhbfaa
namespace Go.Proofs.Ytlnclaggmjhbfaa
open Go.Proofs.Ytlnclaggmjhbfaa.Gx
set_option maxRecDepth 100000
set_option linter.unusedVariables false
set_option maxHeartbeats 0
noncomputable def s43 (a b : List Obj) : Sv PP := ⟨43, inl PP (env PP [p44] [] [] [] (eqLoop 4 17 a b)) Try.f43 c43, ⟨rfl, inl_ok (env_ok ..) rfl mixed rfl rfl⟩⟩
theorem sameL_vc (a b : List Obj) : fvc PP (env PP [] [s43 a b] [] [] []) Try.f26 c26 (ofArgs [.slice objT, .slice objT] (a, b, ())) St0 (gives [.bool] (sameX a b, ())) = (
  a.length ≤ maxLen → b.length ≤ maxLen → (((↑a.length : Int) != (↑b.length : Int)) = true → false = sameX a b ∧ True) ∧ (((↑a.length : Int) != (↑b.length : Int)) = false → a.length ≤ maxLen → ∃ (x0 : Nat), (x0 ≤ 
  a.length ∧ List.take x0 a = List.take x0 b) ∧ (((b = b ∧ a = a ∧ false = false ∧ a = a ∧ b = b ∧ True) ∧ True ∧ True) ∧ ((0 : Int) = (↑x0 : Int) ∧ (↑a.length : Int) = (↑a.length : Int) ∧ a = a ∧ false = false ∧ a = a ∧ 
  b = b ∧ True ∧ True) ∧ True) ∧ ∀ (x : Nat), x ≤ a.length ∧ List.take x a = List.take x b → (decide ((↑x : Int) < (↑a.length : Int)) = true → ((0 : Int) ≤ (↑x : Int) ∧ (↑x : Int) < (↑a.length : Int)) ∧ ∀ (y : (Int × Int 
  × Int × Int × Int × Int × List (Int × Int)) × List Int × ByteArray × List (Int × Int × Int × Int × Int × Bool × Bool) × (Int × List (Int × Int)) × (Int × Int) × ((Int × Int × Int × Int × Int × Int × Int × Int × Int × 
  Int × Int × Int × Int × Int × Int × Int) × Int) × Int × Int × Int × Int × List Int × ByteArray × ByteArray), a[(↑x : Int).toNat]? = some y → ((0 : Int) ≤ (↑x : Int) ∧ (↑x : Int) < (↑b.length : Int)) ∧ ∀ (y_1 : (Int × 
  Int × Int × Int × Int × Int × List (Int × Int)) × List Int × ByteArray × List (Int × Int × Int × Int × Int × Bool × Bool) × (Int × List (Int × Int)) × (Int × Int) × ((Int × Int × Int × Int × Int × Int × Int × Int × Int 
  × Int × Int × Int × Int × Int × Int × Int) × Int) × Int × Int × Int × Int × List Int × ByteArray × ByteArray), b[(↑x : Int).toNat]? = some y_1 → true = true ∧ ((!sameX ((y.fst.fst, y.fst.snd.fst, y.fst.snd.snd.fst, 
  y.fst.snd.snd.snd.fst, y.fst.snd.snd.snd.snd.fst, y.fst.snd.snd.snd.snd.snd.fst, y.fst.snd.snd.snd.snd.snd.snd), y.snd.fst, y.snd.snd.fst, y.snd.snd.snd.fst, (y.snd.snd.snd.snd.fst.fst, y.snd.snd.snd.snd.fst.snd), 
  (y.snd.snd.snd.snd.snd.fst.fst, y.snd.snd.snd.snd.snd.fst.snd), ((y.snd.snd.snd.snd.snd.snd.fst.fst.fst, y.snd.snd.snd.snd.snd.snd.fst.fst.snd.fst, y.snd.snd.snd.snd.snd.snd.fst.fst.snd.snd.fst, 
  y.snd.snd.snd.snd.snd.snd.fst.fst.snd.snd.snd.fst, y.snd.snd.snd.snd.snd.snd.fst.fst.snd.snd.snd.snd.fst, y.snd.snd.snd.snd.snd.snd.fst.fst.snd.snd.snd.snd.snd.fst, 
  y.snd.snd.snd.snd.snd.snd.fst.fst.snd.snd.snd.snd.snd.snd.fst, y.snd.snd.snd.snd.snd.snd.fst.fst.snd.snd.snd.snd.snd.snd.snd.fst, y.snd.snd.snd.snd.snd.snd.fst.fst.snd.snd.snd.snd.snd.snd.snd.snd.fst, 
  y.snd.snd.snd.snd.snd.snd.fst.fst.snd.snd.snd.snd.snd.snd.snd.snd.snd.fst, y.snd.snd.snd.snd.snd.snd.fst.fst.snd.snd.snd.snd.snd.snd.snd.snd.snd.snd.fst, 
  y.snd.snd.snd.snd.snd.snd.fst.fst.snd.snd.snd.snd.snd.snd.snd.snd.snd.snd.snd.fst, y.snd.snd.snd.snd.snd.snd.fst.fst.snd.snd.snd.snd.snd.snd.snd.snd.snd.snd.snd.snd.fst, 
  y.snd.snd.snd.snd.snd.snd.fst.fst.snd.snd.snd.snd.snd.snd.snd.snd.snd.snd.snd.snd.snd.fst, y.snd.snd.snd.snd.snd.snd.fst.fst.snd.snd.snd.snd.snd.snd.snd.snd.snd.snd.snd.snd.snd.snd.fst, 
  y.snd.snd.snd.snd.snd.snd.fst.fst.snd.snd.snd.snd.snd.snd.snd.snd.snd.snd.snd.snd.snd.snd.snd), y.snd.snd.snd.snd.snd.snd.fst.snd), y.snd.snd.snd.snd.snd.snd.snd.fst, y.snd.snd.snd.snd.snd.snd.snd.snd.fst, 
  y.snd.snd.snd.snd.snd.snd.snd.snd.snd.fst, y.snd.snd.snd.snd.snd.snd.snd.snd.snd.snd.fst, y.snd.snd.snd.snd.snd.snd.snd.snd.snd.snd.snd.fst, y.snd.snd.snd.snd.snd.snd.snd.snd.snd.snd.snd.snd.fst, 
  y.snd.snd.snd.snd.snd.snd.snd.snd.snd.snd.snd.snd.snd) ((y_1.fst.fst, y_1.fst.snd.fst, y_1.fst.snd.snd.fst, y_1.fst.snd.snd.snd.fst, y_1.fst.snd.snd.snd.snd.fst, y_1.fst.snd.snd.snd.snd.snd.fst, 
  y_1.fst.snd.snd.snd.snd.snd.snd), y_1.snd.fst, y_1.snd.snd.fst, y_1.snd.snd.snd.fst, (y_1.snd.snd.snd.snd.fst.fst, y_1.snd.snd.snd.snd.fst.snd), (y_1.snd.snd.snd.snd.snd.fst.fst, y_1.snd.snd.snd.snd.snd.fst.snd), 
  ((y_1.snd.snd.snd.snd.snd.snd.fst.fst.fst, y_1.snd.snd.snd.snd.snd.snd.fst.fst.snd.fst, y_1.snd.snd.snd.snd.snd.snd.fst.fst.snd.snd.fst, y_1.snd.snd.snd.snd.snd.snd.fst.fst.snd.snd.snd.fst, 
  y_1.snd.snd.snd.snd.snd.snd.fst.fst.snd.snd.snd.snd.fst, y_1.snd.snd.snd.snd.snd.snd.fst.fst.snd.snd.snd.snd.snd.fst, y_1.snd.snd.snd.snd.snd.snd.fst.fst.snd.snd.snd.snd.snd.snd.fst, 
  y_1.snd.snd.snd.snd.snd.snd.fst.fst.snd.snd.snd.snd.snd.snd.snd.fst, y_1.snd.snd.snd.snd.snd.snd.fst.fst.snd.snd.snd.snd.snd.snd.snd.snd.fst, y_1.snd.snd.snd.snd.snd.snd.fst.fst.snd.snd.snd.snd.snd.snd.snd.snd.snd.fst, 
  y_1.snd.snd.snd.snd.snd.snd.fst.fst.snd.snd.snd.snd.snd.snd.snd.snd.snd.snd.fst, y_1.snd.snd.snd.snd.snd.snd.fst.fst.snd.snd.snd.snd.snd.snd.snd.snd.snd.snd.snd.fst, 
  y_1.snd.snd.snd.snd.snd.snd.fst.fst.snd.snd.snd.snd.snd.snd.snd.snd.snd.snd.snd.snd.fst, y_1.snd.snd.snd.snd.snd.snd.fst.fst.snd.snd.snd.snd.snd.snd.snd.snd.snd.snd.snd.snd.snd.fst, 
  y_1.snd.snd.snd.snd.snd.snd.fst.fst.snd.snd.snd.snd.snd.snd.snd.snd.snd.snd.snd.snd.snd.snd.fst, y_1.snd.snd.snd.snd.snd.snd.fst.fst.snd.snd.snd.snd.snd.snd.snd.snd.snd.snd.snd.snd.snd.snd.snd), 
  y_1.snd.snd.snd.snd.snd.snd.fst.snd), y_1.snd.snd.snd.snd.snd.snd.snd.fst, y_1.snd.snd.snd.snd.snd.snd.snd.snd.fst, y_1.snd.snd.snd.snd.snd.snd.snd.snd.snd.fst, y_1.snd.snd.snd.snd.snd.snd.snd.snd.snd.snd.fst, 
  y_1.snd.snd.snd.snd.snd.snd.snd.snd.snd.snd.snd.fst, y_1.snd.snd.snd.snd.snd.snd.snd.snd.snd.snd.snd.snd.fst, y_1.snd.snd.snd.snd.snd.snd.snd.snd.snd.snd.snd.snd.snd)) = true → false = sameX a b ∧ True) ∧ ((!sameX 
  ((y.fst.fst, y.fst.snd.fst, y.fst.snd.snd.fst, y.fst.snd.snd.snd.fst, y.fst.snd.snd.snd.snd.fst, y.fst.snd.snd.snd.snd.snd.fst, y.fst.snd.snd.snd.snd.snd.snd), y.snd.fst, y.snd.snd.fst, y.snd.snd.snd.fst, 
  (y.snd.snd.snd.snd.fst.fst, y.snd.snd.snd.snd.fst.snd), (y.snd.snd.snd.snd.snd.fst.fst, y.snd.snd.snd.snd.snd.fst.snd), ((y.snd.snd.snd.snd.snd.snd.fst.fst.fst, y.snd.snd.snd.snd.snd.snd.fst.fst.snd.fst, 
  y.snd.snd.snd.snd.snd.snd.fst.fst.snd.snd.fst, y.snd.snd.snd.snd.snd.snd.fst.fst.snd.snd.snd.fst, y.snd.snd.snd.snd.snd.snd.fst.fst.snd.snd.snd.snd.fst, y.snd.snd.snd.snd.snd.snd.fst.fst.snd.snd.snd.snd.snd.fst, 
  y.snd.snd.snd.snd.snd.snd.fst.fst.snd.snd.snd.snd.snd.snd.fst, y.snd.snd.snd.snd.snd.snd.fst.fst.snd.snd.snd.snd.snd.snd.snd.fst, y.snd.snd.snd.snd.snd.snd.fst.fst.snd.snd.snd.snd.snd.snd.snd.snd.fst, 
  y.snd.snd.snd.snd.snd.snd.fst.fst.snd.snd.snd.snd.snd.snd.snd.snd.snd.fst, y.snd.snd.snd.snd.snd.snd.fst.fst.snd.snd.snd.snd.snd.snd.snd.snd.snd.snd.fst, 
  y.snd.snd.snd.snd.snd.snd.fst.fst.snd.snd.snd.snd.snd.snd.snd.snd.snd.snd.snd.fst, y.snd.snd.snd.snd.snd.snd.fst.fst.snd.snd.snd.snd.snd.snd.snd.snd.snd.snd.snd.snd.fst, 
  y.snd.snd.snd.snd.snd.snd.fst.fst.snd.snd.snd.snd.snd.snd.snd.snd.snd.snd.snd.snd.snd.fst, y.snd.snd.snd.snd.snd.snd.fst.fst.snd.snd.snd.snd.snd.snd.snd.snd.snd.snd.snd.snd.snd.snd.fst, 
  y.snd.snd.snd.snd.snd.snd.fst.fst.snd.snd.snd.snd.snd.snd.snd.snd.snd.snd.snd.snd.snd.snd.snd), y.snd.snd.snd.snd.snd.snd.fst.snd), y.snd.snd.snd.snd.snd.snd.snd.fst, y.snd.snd.snd.snd.snd.snd.snd.snd.fst, 
  y.snd.snd.snd.snd.snd.snd.snd.snd.snd.fst, y.snd.snd.snd.snd.snd.snd.snd.snd.snd.snd.fst, y.snd.snd.snd.snd.snd.snd.snd.snd.snd.snd.snd.fst, y.snd.snd.snd.snd.snd.snd.snd.snd.snd.snd.snd.snd.fst, 
  y.snd.snd.snd.snd.snd.snd.snd.snd.snd.snd.snd.snd.snd) ((y_1.fst.fst, y_1.fst.snd.fst, y_1.fst.snd.snd.fst, y_1.fst.snd.snd.snd.fst, y_1.fst.snd.snd.snd.snd.fst, y_1.fst.snd.snd.snd.snd.snd.fst, 
  y_1.fst.snd.snd.snd.snd.snd.snd), y_1.snd.fst, y_1.snd.snd.fst, y_1.snd.snd.snd.fst, (y_1.snd.snd.snd.snd.fst.fst, y_1.snd.snd.snd.snd.fst.snd), (y_1.snd.snd.snd.snd.snd.fst.fst, y_1.snd.snd.snd.snd.snd.fst.snd), 
  ((y_1.snd.snd.snd.snd.snd.snd.fst.fst.fst, y_1.snd.snd.snd.snd.snd.snd.fst.fst.snd.fst, y_1.snd.snd.snd.snd.snd.snd.fst.fst.snd.snd.fst, y_1.snd.snd.snd.snd.snd.snd.fst.fst.snd.snd.snd.fst, 
  y_1.snd.snd.snd.snd.snd.snd.fst.fst.snd.snd.snd.snd.fst, y_1.snd.snd.snd.snd.snd.snd.fst.fst.snd.snd.snd.snd.snd.fst, y_1.snd.snd.snd.snd.snd.snd.fst.fst.snd.snd.snd.snd.snd.snd.fst, 
  y_1.snd.snd.snd.snd.snd.snd.fst.fst.snd.snd.snd.snd.snd.snd.snd.fst, y_1.snd.snd.snd.snd.snd.snd.fst.fst.snd.snd.snd.snd.snd.snd.snd.snd.fst, y_1.snd.snd.snd.snd.snd.snd.fst.fst.snd.snd.snd.snd.snd.snd.snd.snd.snd.fst, 
  y_1.snd.snd.snd.snd.snd.snd.fst.fst.snd.snd.snd.snd.snd.snd.snd.snd.snd.snd.fst, y_1.snd.snd.snd.snd.snd.snd.fst.fst.snd.snd.snd.snd.snd.snd.snd.snd.snd.snd.snd.fst, 
  y_1.snd.snd.snd.snd.snd.snd.fst.fst.snd.snd.snd.snd.snd.snd.snd.snd.snd.snd.snd.snd.fst, y_1.snd.snd.snd.snd.snd.snd.fst.fst.snd.snd.snd.snd.snd.snd.snd.snd.snd.snd.snd.snd.snd.fst, 
  y_1.snd.snd.snd.snd.snd.snd.fst.fst.snd.snd.snd.snd.snd.snd.snd.snd.snd.snd.snd.snd.snd.snd.fst, y_1.snd.snd.snd.snd.snd.snd.fst.fst.snd.snd.snd.snd.snd.snd.snd.snd.snd.snd.snd.snd.snd.snd.snd), 
  y_1.snd.snd.snd.snd.snd.snd.fst.snd), y_1.snd.snd.snd.snd.snd.snd.snd.fst, y_1.snd.snd.snd.snd.snd.snd.snd.snd.fst, y_1.snd.snd.snd.snd.snd.snd.snd.snd.snd.fst, y_1.snd.snd.snd.snd.snd.snd.snd.snd.snd.snd.fst, 
  y_1.snd.snd.snd.snd.snd.snd.snd.snd.snd.snd.snd.fst, y_1.snd.snd.snd.snd.snd.snd.snd.snd.snd.snd.snd.snd.fst, y_1.snd.snd.snd.snd.snd.snd.snd.snd.snd.snd.snd.snd.snd)) = false → ∃ (x' : Nat), (x' ≤ a.length ∧ List.take 
  x' a = List.take x' b) ∧ a.length - x' < a.length - x ∧ ((b = b ∧ a = a ∧ false = false ∧ a = a ∧ b = b ∧ True) ∧ True ∧ True) ∧ (IntKind.i64.wrap ((↑x : Int) + (1 : Int)) = (↑x' : Int) ∧ (↑a.length : Int) = (↑a.length 
  : Int) ∧ a = a ∧ false = false ∧ a = a ∧ b = b ∧ True ∧ True) ∧ True)) ∧ (decide ((↑x : Int) < (↑a.length : Int)) = false → true = sameX a b ∧ True))) := by kernel_rfl
theorem all_vc (a b : List Obj) : fvc PP (env PP [p25] [] [] [] (eqLoop 4 13 a b)) Try.f22 c22 (ofArgs [.slice objT, .slice objT] (a, b, ())) St0 (gives [.bool] (sameX a b, ())) = (
  a.length ≤ maxLen → b.length ≤ maxLen → (((↑a.length : Int) != (↑b.length : Int)) = true → false = sameX a b ∧ True) ∧ (((↑a.length : Int) != (↑b.length : Int)) = false → a.length ≤ maxLen → ∃ (x0 : Nat), (x0 ≤ 
  a.length ∧ List.take x0 a = List.take x0 b) ∧ ((True ∧ True) ∧ ((0 : Int) = (↑x0 : Int) ∧ (↑a.length : Int) = (↑a.length : Int) ∧ false = false ∧ a = a ∧ b = b ∧ True) ∧ True) ∧ ∀ (x : Nat), x ≤ a.length ∧ List.take x 
  a = List.take x b → (decide ((↑x : Int) < (↑a.length : Int)) = true → ((0 : Int) ≤ (↑x : Int) ∧ (↑x : Int) < (↑a.length : Int)) ∧ ∀ (y : (Int × Int × Int × Int × Int × Int × List (Int × Int)) × List Int × ByteArray × 
  List (Int × Int × Int × Int × Int × Bool × Bool) × (Int × List (Int × Int)) × (Int × Int) × ((Int × Int × Int × Int × Int × Int × Int × Int × Int × Int × Int × Int × Int × Int × Int × Int) × Int) × Int × Int × Int × 
  Int × List Int × ByteArray × ByteArray), a[(↑x : Int).toNat]? = some y → ((0 : Int) ≤ (↑x : Int) ∧ (↑x : Int) < (↑b.length : Int)) ∧ ∀ (y_1 : (Int × Int × Int × Int × Int × Int × List (Int × Int)) × List Int × 
  ByteArray × List (Int × Int × Int × Int × Int × Bool × Bool) × (Int × List (Int × Int)) × (Int × Int) × ((Int × Int × Int × Int × Int × Int × Int × Int × Int × Int × Int × Int × Int × Int × Int × Int) × Int) × Int × 
  Int × Int × Int × List Int × ByteArray × ByteArray), b[(↑x : Int).toNat]? = some y_1 → true = true ∧ ((!sameX ((y.fst.fst, y.fst.snd.fst, y.fst.snd.snd.fst, y.fst.snd.snd.snd.fst, y.fst.snd.snd.snd.snd.fst, 
  y.fst.snd.snd.snd.snd.snd.fst, y.fst.snd.snd.snd.snd.snd.snd), y.snd.fst, y.snd.snd.fst, y.snd.snd.snd.fst, (y.snd.snd.snd.snd.fst.fst, y.snd.snd.snd.snd.fst.snd), (y.snd.snd.snd.snd.snd.fst.fst, 
  y.snd.snd.snd.snd.snd.fst.snd), ((y.snd.snd.snd.snd.snd.snd.fst.fst.fst, y.snd.snd.snd.snd.snd.snd.fst.fst.snd.fst, y.snd.snd.snd.snd.snd.snd.fst.fst.snd.snd.fst, y.snd.snd.snd.snd.snd.snd.fst.fst.snd.snd.snd.fst, 
  y.snd.snd.snd.snd.snd.snd.fst.fst.snd.snd.snd.snd.fst, y.snd.snd.snd.snd.snd.snd.fst.fst.snd.snd.snd.snd.snd.fst, y.snd.snd.snd.snd.snd.snd.fst.fst.snd.snd.snd.snd.snd.snd.fst, 
  y.snd.snd.snd.snd.snd.snd.fst.fst.snd.snd.snd.snd.snd.snd.snd.fst, y.snd.snd.snd.snd.snd.snd.fst.fst.snd.snd.snd.snd.snd.snd.snd.snd.fst, y.snd.snd.snd.snd.snd.snd.fst.fst.snd.snd.snd.snd.snd.snd.snd.snd.snd.fst, 
  y.snd.snd.snd.snd.snd.snd.fst.fst.snd.snd.snd.snd.snd.snd.snd.snd.snd.snd.fst, y.snd.snd.snd.snd.snd.snd.fst.fst.snd.snd.snd.snd.snd.snd.snd.snd.snd.snd.snd.fst, 
  y.snd.snd.snd.snd.snd.snd.fst.fst.snd.snd.snd.snd.snd.snd.snd.snd.snd.snd.snd.snd.fst, y.snd.snd.snd.snd.snd.snd.fst.fst.snd.snd.snd.snd.snd.snd.snd.snd.snd.snd.snd.snd.snd.fst, 
  y.snd.snd.snd.snd.snd.snd.fst.fst.snd.snd.snd.snd.snd.snd.snd.snd.snd.snd.snd.snd.snd.snd.fst, y.snd.snd.snd.snd.snd.snd.fst.fst.snd.snd.snd.snd.snd.snd.snd.snd.snd.snd.snd.snd.snd.snd.snd), 
  y.snd.snd.snd.snd.snd.snd.fst.snd), y.snd.snd.snd.snd.snd.snd.snd.fst, y.snd.snd.snd.snd.snd.snd.snd.snd.fst, y.snd.snd.snd.snd.snd.snd.snd.snd.snd.fst, y.snd.snd.snd.snd.snd.snd.snd.snd.snd.snd.fst, 
  y.snd.snd.snd.snd.snd.snd.snd.snd.snd.snd.snd.fst, y.snd.snd.snd.snd.snd.snd.snd.snd.snd.snd.snd.snd.fst, y.snd.snd.snd.snd.snd.snd.snd.snd.snd.snd.snd.snd.snd) ((y_1.fst.fst, y_1.fst.snd.fst, y_1.fst.snd.snd.fst, 
  y_1.fst.snd.snd.snd.fst, y_1.fst.snd.snd.snd.snd.fst, y_1.fst.snd.snd.snd.snd.snd.fst, y_1.fst.snd.snd.snd.snd.snd.snd), y_1.snd.fst, y_1.snd.snd.fst, y_1.snd.snd.snd.fst, (y_1.snd.snd.snd.snd.fst.fst, 
  y_1.snd.snd.snd.snd.fst.snd), (y_1.snd.snd.snd.snd.snd.fst.fst, y_1.snd.snd.snd.snd.snd.fst.snd), ((y_1.snd.snd.snd.snd.snd.snd.fst.fst.fst, y_1.snd.snd.snd.snd.snd.snd.fst.fst.snd.fst, 
  y_1.snd.snd.snd.snd.snd.snd.fst.fst.snd.snd.fst, y_1.snd.snd.snd.snd.snd.snd.fst.fst.snd.snd.snd.fst, y_1.snd.snd.snd.snd.snd.snd.fst.fst.snd.snd.snd.snd.fst, 
  y_1.snd.snd.snd.snd.snd.snd.fst.fst.snd.snd.snd.snd.snd.fst, y_1.snd.snd.snd.snd.snd.snd.fst.fst.snd.snd.snd.snd.snd.snd.fst, y_1.snd.snd.snd.snd.snd.snd.fst.fst.snd.snd.snd.snd.snd.snd.snd.fst, 
  y_1.snd.snd.snd.snd.snd.snd.fst.fst.snd.snd.snd.snd.snd.snd.snd.snd.fst, y_1.snd.snd.snd.snd.snd.snd.fst.fst.snd.snd.snd.snd.snd.snd.snd.snd.snd.fst, 
  y_1.snd.snd.snd.snd.snd.snd.fst.fst.snd.snd.snd.snd.snd.snd.snd.snd.snd.snd.fst, y_1.snd.snd.snd.snd.snd.snd.fst.fst.snd.snd.snd.snd.snd.snd.snd.snd.snd.snd.snd.fst, 
  y_1.snd.snd.snd.snd.snd.snd.fst.fst.snd.snd.snd.snd.snd.snd.snd.snd.snd.snd.snd.snd.fst, y_1.snd.snd.snd.snd.snd.snd.fst.fst.snd.snd.snd.snd.snd.snd.snd.snd.snd.snd.snd.snd.snd.fst, 
  y_1.snd.snd.snd.snd.snd.snd.fst.fst.snd.snd.snd.snd.snd.snd.snd.snd.snd.snd.snd.snd.snd.snd.fst, y_1.snd.snd.snd.snd.snd.snd.fst.fst.snd.snd.snd.snd.snd.snd.snd.snd.snd.snd.snd.snd.snd.snd.snd), 
  y_1.snd.snd.snd.snd.snd.snd.fst.snd), y_1.snd.snd.snd.snd.snd.snd.snd.fst, y_1.snd.snd.snd.snd.snd.snd.snd.snd.fst, y_1.snd.snd.snd.snd.snd.snd.snd.snd.snd.fst, y_1.snd.snd.snd.snd.snd.snd.snd.snd.snd.snd.fst, 
  y_1.snd.snd.snd.snd.snd.snd.snd.snd.snd.snd.snd.fst, y_1.snd.snd.snd.snd.snd.snd.snd.snd.snd.snd.snd.snd.fst, y_1.snd.snd.snd.snd.snd.snd.snd.snd.snd.snd.snd.snd.snd)) = true → false = sameX a b ∧ True) ∧ ((!sameX 
  ((y.fst.fst, y.fst.snd.fst, y.fst.snd.snd.fst, y.fst.snd.snd.snd.fst, y.fst.snd.snd.snd.snd.fst, y.fst.snd.snd.snd.snd.snd.fst, y.fst.snd.snd.snd.snd.snd.snd), y.snd.fst, y.snd.snd.fst, y.snd.snd.snd.fst, 
  (y.snd.snd.snd.snd.fst.fst, y.snd.snd.snd.snd.fst.snd), (y.snd.snd.snd.snd.snd.fst.fst, y.snd.snd.snd.snd.snd.fst.snd), ((y.snd.snd.snd.snd.snd.snd.fst.fst.fst, y.snd.snd.snd.snd.snd.snd.fst.fst.snd.fst, 
  y.snd.snd.snd.snd.snd.snd.fst.fst.snd.snd.fst, y.snd.snd.snd.snd.snd.snd.fst.fst.snd.snd.snd.fst, y.snd.snd.snd.snd.snd.snd.fst.fst.snd.snd.snd.snd.fst, y.snd.snd.snd.snd.snd.snd.fst.fst.snd.snd.snd.snd.snd.fst, 
  y.snd.snd.snd.snd.snd.snd.fst.fst.snd.snd.snd.snd.snd.snd.fst, y.snd.snd.snd.snd.snd.snd.fst.fst.snd.snd.snd.snd.snd.snd.snd.fst, y.snd.snd.snd.snd.snd.snd.fst.fst.snd.snd.snd.snd.snd.snd.snd.snd.fst, 
  y.snd.snd.snd.snd.snd.snd.fst.fst.snd.snd.snd.snd.snd.snd.snd.snd.snd.fst, y.snd.snd.snd.snd.snd.snd.fst.fst.snd.snd.snd.snd.snd.snd.snd.snd.snd.snd.fst, 
  y.snd.snd.snd.snd.snd.snd.fst.fst.snd.snd.snd.snd.snd.snd.snd.snd.snd.snd.snd.fst, y.snd.snd.snd.snd.snd.snd.fst.fst.snd.snd.snd.snd.snd.snd.snd.snd.snd.snd.snd.snd.fst, 
  y.snd.snd.snd.snd.snd.snd.fst.fst.snd.snd.snd.snd.snd.snd.snd.snd.snd.snd.snd.snd.snd.fst, y.snd.snd.snd.snd.snd.snd.fst.fst.snd.snd.snd.snd.snd.snd.snd.snd.snd.snd.snd.snd.snd.snd.fst, 
  y.snd.snd.snd.snd.snd.snd.fst.fst.snd.snd.snd.snd.snd.snd.snd.snd.snd.snd.snd.snd.snd.snd.snd), y.snd.snd.snd.snd.snd.snd.fst.snd), y.snd.snd.snd.snd.snd.snd.snd.fst, y.snd.snd.snd.snd.snd.snd.snd.snd.fst, 
  y.snd.snd.snd.snd.snd.snd.snd.snd.snd.fst, y.snd.snd.snd.snd.snd.snd.snd.snd.snd.snd.fst, y.snd.snd.snd.snd.snd.snd.snd.snd.snd.snd.snd.fst, y.snd.snd.snd.snd.snd.snd.snd.snd.snd.snd.snd.snd.fst, 
  y.snd.snd.snd.snd.snd.snd.snd.snd.snd.snd.snd.snd.snd) ((y_1.fst.fst, y_1.fst.snd.fst, y_1.fst.snd.snd.fst, y_1.fst.snd.snd.snd.fst, y_1.fst.snd.snd.snd.snd.fst, y_1.fst.snd.snd.snd.snd.snd.fst, 
  y_1.fst.snd.snd.snd.snd.snd.snd), y_1.snd.fst, y_1.snd.snd.fst, y_1.snd.snd.snd.fst, (y_1.snd.snd.snd.snd.fst.fst, y_1.snd.snd.snd.snd.fst.snd), (y_1.snd.snd.snd.snd.snd.fst.fst, y_1.snd.snd.snd.snd.snd.fst.snd), 
  ((y_1.snd.snd.snd.snd.snd.snd.fst.fst.fst, y_1.snd.snd.snd.snd.snd.snd.fst.fst.snd.fst, y_1.snd.snd.snd.snd.snd.snd.fst.fst.snd.snd.fst, y_1.snd.snd.snd.snd.snd.snd.fst.fst.snd.snd.snd.fst, 
  y_1.snd.snd.snd.snd.snd.snd.fst.fst.snd.snd.snd.snd.fst, y_1.snd.snd.snd.snd.snd.snd.fst.fst.snd.snd.snd.snd.snd.fst, y_1.snd.snd.snd.snd.snd.snd.fst.fst.snd.snd.snd.snd.snd.snd.fst, 
  y_1.snd.snd.snd.snd.snd.snd.fst.fst.snd.snd.snd.snd.snd.snd.snd.fst, y_1.snd.snd.snd.snd.snd.snd.fst.fst.snd.snd.snd.snd.snd.snd.snd.snd.fst, y_1.snd.snd.snd.snd.snd.snd.fst.fst.snd.snd.snd.snd.snd.snd.snd.snd.snd.fst, 
  y_1.snd.snd.snd.snd.snd.snd.fst.fst.snd.snd.snd.snd.snd.snd.snd.snd.snd.snd.fst, y_1.snd.snd.snd.snd.snd.snd.fst.fst.snd.snd.snd.snd.snd.snd.snd.snd.snd.snd.snd.fst, 
  y_1.snd.snd.snd.snd.snd.snd.fst.fst.snd.snd.snd.snd.snd.snd.snd.snd.snd.snd.snd.snd.fst, y_1.snd.snd.snd.snd.snd.snd.fst.fst.snd.snd.snd.snd.snd.snd.snd.snd.snd.snd.snd.snd.snd.fst, 
  y_1.snd.snd.snd.snd.snd.snd.fst.fst.snd.snd.snd.snd.snd.snd.snd.snd.snd.snd.snd.snd.snd.snd.fst, y_1.snd.snd.snd.snd.snd.snd.fst.fst.snd.snd.snd.snd.snd.snd.snd.snd.snd.snd.snd.snd.snd.snd.snd), 
  y_1.snd.snd.snd.snd.snd.snd.fst.snd), y_1.snd.snd.snd.snd.snd.snd.snd.fst, y_1.snd.snd.snd.snd.snd.snd.snd.snd.fst, y_1.snd.snd.snd.snd.snd.snd.snd.snd.snd.fst, y_1.snd.snd.snd.snd.snd.snd.snd.snd.snd.snd.fst, 
  y_1.snd.snd.snd.snd.snd.snd.snd.snd.snd.snd.snd.fst, y_1.snd.snd.snd.snd.snd.snd.snd.snd.snd.snd.snd.snd.fst, y_1.snd.snd.snd.snd.snd.snd.snd.snd.snd.snd.snd.snd.snd)) = false → ∃ (x' : Nat), (x' ≤ a.length ∧ List.take 
  x' a = List.take x' b) ∧ a.length - x' < a.length - x ∧ (True ∧ True) ∧ (IntKind.i64.wrap ((↑x : Int) + (1 : Int)) = (↑x' : Int) ∧ (↑a.length : Int) = (↑a.length : Int) ∧ false = false ∧ a = a ∧ b = b ∧ True) ∧ True)) 
  ∧ (decide ((↑x : Int) < (↑a.length : Int)) = false → true = sameX a b ∧ True))) := by kernel_rfl
end Go.Proofs.Ytlnclaggmjhbfaa
namespace Go.Proofs.Ytlnclaggmjhbfaa
open Go.Proofs.Ytlnclaggmjhbfaa.Gx
set_option maxRecDepth 100000
set_option maxHeartbeats 4000000
set_option linter.unusedSimpArgs false
set_option linter.unusedVariables false
theorem neO (x y : Obj) : (!sameX x y) = true ↔ x ≠ y := by
  rw [Bool.not_eq_true', sameX_no]
theorem sameL_ok : PSpecOk PP 26 (Q [.slice objT, .slice objT] [.bool] (fun _ => true) (fun x => (sameX x.1 x.2.1, ()))) := by
  refine pspec_Q mixed (fn := Try.f26) (c := c26) rfl rfl _ _ rfl ?_
  rintro ⟨a, b, ⟨⟩⟩ - -
  refine ⟨env PP [] [s43 a b] [] [] [], env_ok .., rfl, hold (sameL_vc a b) ?_⟩
  simp only [true_and, and_true, Prod.eta, eq_self_iff_true, toNat_cast]
  exact eq_law (α := Obj) a b (fun x y => !sameX x y) neO
theorem allL_ok : PSpecOk PP 22 (Q [.slice objT, .slice objT] [.bool] (fun _ => true) (fun x => (sameX x.1 x.2.1, ()))) := by
  refine pspec_Q mixed (fn := Try.f22) (c := c22) rfl rfl _ _ rfl ?_
  rintro ⟨a, b, ⟨⟩⟩ - -
  refine ⟨env PP [p25] [] [] [] (eqLoop 4 13 a b), env_ok .., rfl, hold (all_vc a b) ?_⟩
  simp only [true_and, and_true, Prod.eta, eq_self_iff_true, toNat_cast]
  exact eq_law (α := Obj) a b (fun x y => !sameX x y) neO
noncomputable def p26 : Pv PP := ⟨26, _, ⟨rfl, sameL_ok⟩⟩
noncomputable def p22 : Pv PP := ⟨22, _, ⟨rfl, allL_ok⟩⟩
end Go.Proofs.Ytlnclaggmjhbfaa
namespace Go.Proofs.Ytlnclaggmjhbfaa
open Go.Proofs.Ytlnclaggmjhbfaa.Gx
set_option maxRecDepth 100000
set_option linter.unusedVariables false
set_option maxHeartbeats 0
theorem same_vc (a b : List Obj) : fvc PP (eP [p8, p26, p22]) Try.f7 c7 (ofArgs [.slice objT, .slice objT] (a, b, ())) St0 (gives [.bool] (true, ())) = (
  true = true ∧ ((!true) = true → false = true ∧ True) ∧ ((!true) = false → true = true ∧ true = true ∧ ((sameX a b == sameX a b) = true → true = true ∧ sameX a a = true ∧ True) ∧ ((sameX a b == sameX a b) = !true → 
  false = true ∧ True))) := by kernel_rfl
end Go.Proofs.Ytlnclaggmjhbfaa
namespace Go.Proofs.Ytlnclaggmjhbfaa
open Go.Proofs.Ytlnclaggmjhbfaa.Gx
set_option maxRecDepth 100000
set_option maxHeartbeats 4000000
set_option linter.unusedSimpArgs false
set_option linter.unusedVariables false
theorem sameLaw_ok : PSpecOk PP 7 (Q [.slice objT, .slice objT] [.bool] (fun _ => true) (fun _ => (true, ()))) := by
  refine pspec_Q mixed (fn := Try.f7) (c := c7) rfl rfl _ _ rfl ?_
  rintro ⟨a, b, ⟨⟩⟩ - -
  refine ⟨_, env_ok .., rfl, hold (same_vc a b) ?_⟩
  simp only [true_and, and_true, Prod.eta, eq_self_iff_true, toNat_cast]
  simp [sameX]
end Go.Proofs.Ytlnclaggmjhbfaa
