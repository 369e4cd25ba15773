/- What the functions of the program give, one by one, and the law. -/
import Derived.Test.YtfdcmbaoekjkgaaGePlay
import Derived.Test.YtfdcmbaoekjkgaaProg
import Derived.Test.YtfdcmbaoekjkgaaGdPlay
import Derived.Shelf.SlSortCmp.Whole1
import Derived.Shelf.SlSortCmp.NoneTotal
import Derived.Shelf.SlMaps.Clone
import Derived.Shelf.SlicesG.Cmp
namespace Go.Proofs.Ytfdcmbaoekjkgaa
open Go.Proofs.Ytfdcmbaoekjkgaa.Gx
set_option linter.unusedSimpArgs false
set_option linter.unusedVariables false
abbrev i64 : Ty := .int .i64
abbrev ints : Ty := .slice i64
abbrev tkT : Ty := .pair (.pair i64 i64) i64
abbrev rmT : Ty := .pair i64 (.pair (.slice (.pair i64 tkT)) (.slice (.pair i64 ints)))
noncomputable abbrev PP : Program := Try.prog
theorem mixed : PP.follows .mixedOrders = true := by rfl
noncomputable def e0 : Env := env PP [] [] [] [] []
noncomputable def eL (l : List (Nat × (St → Option LoopSpec))) : Env := env PP [] [] [] [] l
noncomputable def eP (l : List (Pv PP)) : Env := env PP l [] [] [] []
noncomputable def c3 : Code := Try.f3.body.getD .skip
noncomputable def c4 : Code := Try.f4.body.getD .skip
noncomputable def c5 : Code := Try.f5.body.getD .skip
noncomputable def c6 : Code := Try.f6.body.getD .skip
noncomputable def c7 : Code := Try.f7.body.getD .skip
noncomputable def c8 : Code := Try.f8.body.getD .skip
noncomputable def c9 : Code := Try.f9.body.getD .skip
noncomputable def c10 : Code := Try.f10.body.getD .skip
noncomputable def c11 : Code := Try.f11.body.getD .skip
noncomputable def c12 : Code := Try.f12.body.getD .skip
noncomputable def c13 : Code := Try.f13.body.getD .skip
noncomputable def c14 : Code := Try.f14.body.getD .skip
noncomputable def c15 : Code := Try.f15.body.getD .skip
noncomputable def c16 : Code := Try.f16.body.getD .skip
noncomputable def c17 : Code := Try.f17.body.getD .skip
noncomputable def c18 : Code := Try.f18.body.getD .skip
noncomputable def c19 : Code := Try.f19.body.getD .skip
noncomputable def c20 : Code := Try.f20.body.getD .skip
noncomputable def c21 : Code := Try.f21.body.getD .skip
noncomputable def c22 : Code := Try.f22.body.getD .skip
noncomputable def c23 : Code := Try.f23.body.getD .skip
noncomputable def c24 : Code := Try.f24.body.getD .skip
noncomputable def c25 : Code := Try.f25.body.getD .skip
noncomputable def c26 : Code := Try.f26.body.getD .skip
noncomputable def c27 : Code := Try.f27.body.getD .skip
noncomputable def c28 : Code := Try.f28.body.getD .skip
noncomputable def c29 : Code := Try.f29.body.getD .skip
noncomputable def c30 : Code := Try.f30.body.getD .skip
noncomputable def c31 : Code := Try.f31.body.getD .skip
noncomputable def c32 : Code := Try.f32.body.getD .skip
noncomputable def c33 : Code := Try.f33.body.getD .skip
noncomputable def c34 : Code := Try.f34.body.getD .skip
noncomputable def c35 : Code := Try.f35.body.getD .skip
noncomputable def c36 : Code := Try.f36.body.getD .skip
noncomputable def c37 : Code := Try.f37.body.getD .skip
noncomputable def c38 : Code := Try.f38.body.getD .skip
noncomputable def c39 : Code := Try.f39.body.getD .skip
noncomputable def c40 : Code := Try.f40.body.getD .skip
noncomputable def c41 : Code := Try.f41.body.getD .skip
noncomputable def c42 : Code := Try.f42.body.getD .skip
noncomputable def c43 : Code := Try.f43.body.getD .skip
noncomputable def c44 : Code := Try.f44.body.getD .skip
noncomputable def c45 : Code := Try.f45.body.getD .skip
noncomputable def c46 : Code := Try.f46.body.getD .skip
noncomputable def c48 : Code := Try.f48.body.getD .skip
noncomputable def c49 : Code := Try.f49.body.getD .skip
noncomputable def c52 : Code := Try.f52.body.getD .skip
/-! ### Rooms -/
abbrev Tk := (Int × Int) × Int
abbrev Rm := Int × List (Int × Tk) × List (Int × List Int)
def last (R : Rm) : Int := R.1
def tks (R : Rm) : List (Int × Tk) := R.2.1
def als (R : Rm) : List (Int × List Int) := R.2.2
def alOf (R : Rm) (t : Int) : List Int := (lookL (als R) t).getD []
def idB (n : Int) : Bool := decide (n ≥ 1) && decide (n ≤ 2305843009213693951)
def sameI (a b : List Int) : Bool := decide (a = b)
def inL (l : List Int) (x : Int) : Bool := l.any fun y => y == x
def cmpI (a b : Int) : Int := if a < b then -1 else if a > b then 1 else 0
/-- How rooms lie in memory. -/
structure RmIn where
  la : Int
  ts : List (Int × Tk)
  hs : List (Int × Hd)
  os : List (Nat × (Nat × List Int))
def blks (hs : List (Int × Hd)) : List Nat := hs.filterMap fun x => x.2.b
structure RmRel (R : rmT.den) (y : RmIn) : Prop where
  la : last R = y.la
  ts : tks R = y.ts
  als : als R = y.hs.map fun x => (x.1, rdH y.os x.2)
  keys : (y.hs.map (·.1)).Nodup
  tkeys : (y.ts.map (·.1)).Nodup
  hin : ∀ x ∈ y.hs, hdIn y.os x.2
  apart : (blks y.hs).Nodup
def rmRs (y : RmIn) : List Res := [.blk 59 [.int .i64 y.la, .mp 1, .mp 2], .mapr .i64 true tkT y.ts none, .mapr .i64 true (.hd 3) y.hs none, .fam 3 i64 y.os]
def KR : Pk rmT where
  β := RmIn
  rel := RmRel
  n := 4
  Rs := rmRs
  hn := by decide
  hl := fun _ => rfl
  hp := fun _ => rfl
  h0 := fun _ r h => by cases h; rfl
end Go.Proofs.Ytfdcmbaoekjkgaa
namespace Go.Proofs.Ytfdcmbaoekjkgaa
open Go.Proofs.Ytfdcmbaoekjkgaa.Gx
set_option maxRecDepth 100000
set_option linter.unusedVariables false
set_option maxHeartbeats 0
theorem id_vc (n : Int) : (fvc PP e0 Try.f26 c26 (ofArgs [i64] (n, ())) St0 (gives [.bool] (idB n, ()))) = (
  ∃ (v : Bool), ((decide (n ≥ (1 : Int)) = true → decide (n ≤ (2305843009213693951 : Int)) = v) ∧ (decide (n ≥ (1 : Int)) = !true → false = v)) ∧ v = idB n ∧ True) := by kernel_rfl
theorem rid_vc (n : Int) : (fvc PP e0 Try.f48 c48 (ofArgs [i64] (n, ())) St0 (gives [.bool] (idB n, ()))) = (
  ∃ (v : Bool), ((decide (n ≥ (1 : Int)) = true → decide (n ≤ (2305843009213693951 : Int)) = v) ∧ (decide (n ≥ (1 : Int)) = !true → false = v)) ∧ v = idB n ∧ True) := by kernel_rfl
theorem nan_vc (n : Int) : (fvc PP e0 Try.f52 c52 (ofArgs [i64] (n, ())) St0 (gives [.bool] (false, ()))) = (
  (n != n) = false ∧ True) := by kernel_rfl
noncomputable def s52 : Sv PP := ⟨52, inl PP e0 Try.f52 c52, ⟨rfl, inl_ok (env_ok ..) rfl mixed rfl rfl⟩⟩
theorem cmp_vc (a b : Int) : (fvc PP (env PP [] [s52] [] [] []) Try.f46 c46 (ofArgs [i64, i64] (a, b, ())) St0 (gives [i64] (cmpI a b, ()))) = (
  ((a != a) = true → ((b != b) = true → (0 : Int) = cmpI a b ∧ True) ∧ ((b != b) = false → (-1 : Int) = cmpI a b ∧ True)) ∧ ((a != a) = false → ((b != b) = true → (1 : Int) = cmpI a b ∧ True) ∧ ((b != b) = false → 
  (decide (a < b) = true → (-1 : Int) = cmpI a b ∧ True) ∧ (decide (a < b) = false → (decide (a > b) = true → (1 : Int) = cmpI a b ∧ True) ∧ (decide (a > b) = false → (0 : Int) = cmpI a b ∧ True))))) := by kernel_rfl
def sameLoop (a b : List Int) : List (Nat × (St → Option LoopSpec)) :=
  [(4, fun _ => some { α := Nat, inv := fun i => i ≤ a.length ∧ a.take i = b.take i, ov := fun i => [(13, .int .i64 (i : Int))], rov := fun _ => [], meas := fun i => a.length - i })]
theorem sameI_vc (a b : List Int) : (fvc PP (eL (sameLoop a b)) Try.f15 c15 (ofArgs [ints, ints] (a, b, ())) St0 (gives [.bool] (sameI a b, ()))) = (
  a.length ≤ maxLen → b.length ≤ maxLen → (((↑a.length : Int) != (↑b.length : Int)) = true → false = sameI a b ∧ True) ∧ (((↑a.length : Int) != (↑b.length : Int)) = false → a.length ≤ maxLen → ∃ (x0 : Nat), (x0 ≤ 
  a.length ∧ List.take x0 a = List.take x0 b) ∧ ((True ∧ True) ∧ ((0 : Int) = (↑x0 : Int) ∧ (↑a.length : Int) = (↑a.length : Int) ∧ false = false ∧ a = a ∧ b = b ∧ True) ∧ True) ∧ ∀ (x : Nat), x ≤ a.length ∧ List.take x 
  a = List.take x b → (decide ((↑x : Int) < (↑a.length : Int)) = true → ((0 : Int) ≤ (↑x : Int) ∧ (↑x : Int) < (↑a.length : Int)) ∧ ∀ (y : Int), a[(↑x : Int).toNat]? = some y → ((0 : Int) ≤ (↑x : Int) ∧ (↑x : Int) < 
  (↑b.length : Int)) ∧ ∀ (y_1 : Int), b[(↑x : Int).toNat]? = some y_1 → ((y != y_1) = true → false = sameI a b ∧ True) ∧ ((y != y_1) = false → ∃ (x' : Nat), (x' ≤ a.length ∧ List.take x' a = List.take x' b) ∧ a.length - 
  x' < a.length - x ∧ (True ∧ True) ∧ (IntKind.i64.wrap ((↑x : Int) + (1 : Int)) = (↑x' : Int) ∧ (↑a.length : Int) = (↑a.length : Int) ∧ false = false ∧ a = a ∧ b = b ∧ True) ∧ True)) ∧ (decide ((↑x : Int) < (↑a.length : 
  Int)) = false → true = sameI a b ∧ True))) := by kernel_rfl
def inLoop (l : List Int) (x : Int) : List (Nat × (St → Option LoopSpec)) :=
  [(2, fun _ => some { α := Nat, inv := fun i => i ≤ l.length ∧ inL (l.drop i) x = inL l x, ov := fun i => [(9, .int .i64 (i : Int))], rov := fun _ => [], meas := fun i => l.length - i })]
theorem inL_vc (l : List Int) (x : Int) : (fvc PP (eL (inLoop l x)) Try.f19 c19 (ofArgs [ints, i64] (l, x, ())) St0 (gives [.bool] (inL l x, ()))) = (
  l.length ≤ maxLen → ∃ (x0 : Nat), (x0 ≤ l.length ∧ inL (List.drop x0 l) x = inL l x) ∧ ((True ∧ True) ∧ ((0 : Int) = (↑x0 : Int) ∧ (↑l.length : Int) = (↑l.length : Int) ∧ l = l ∧ l = l ∧ x = x ∧ True) ∧ True) ∧ ∀ (x_1 
  : Nat), x_1 ≤ l.length ∧ inL (List.drop x_1 l) x = inL l x → (decide ((↑x_1 : Int) < (↑l.length : Int)) = true → ((0 : Int) ≤ (↑x_1 : Int) ∧ (↑x_1 : Int) < (↑l.length : Int)) ∧ ∀ (y : Int), l[(↑x_1 : Int).toNat]? = 
  some y → ((y == x) = true → true = inL l x ∧ True) ∧ ((y == x) = false → ∃ (x' : Nat), (x' ≤ l.length ∧ inL (List.drop x' l) x = inL l x) ∧ l.length - x' < l.length - x_1 ∧ (True ∧ True) ∧ (IntKind.i64.wrap ((↑x_1 : 
  Int) + (1 : Int)) = (↑x' : Int) ∧ (↑l.length : Int) = (↑l.length : Int) ∧ l = l ∧ l = l ∧ x = x ∧ True) ∧ True)) ∧ (decide ((↑x_1 : Int) < (↑l.length : Int)) = false → false = inL l x ∧ True)) := by kernel_rfl
theorem clone_vc (l : List Int) : (fvc PP e0 Try.f32 c32 (ofArgs [ints] (l, ())) St0 (givesRow 3 i64 l)) = (
  ∀ (b : Bool), (b = true → l = []) → (b = true → l = []) ∧ (b = false → ((0 : Nat) + l.length) * (8 : Nat) ≤ (140737488355328 : Nat) ∧ [] ++ l = l)) := by kernel_rfl
end Go.Proofs.Ytfdcmbaoekjkgaa
namespace Go.Proofs.Ytfdcmbaoekjkgaa
open Go.Proofs.Ytfdcmbaoekjkgaa.Gx
set_option maxRecDepth 100000
set_option maxHeartbeats 4000000
set_option linter.unusedSimpArgs false
set_option linter.unusedVariables false
theorem toNat_cast (i : Nat) : (i : Int).toNat = i := rfl
theorem take_snoc {α : Type} {l : List α} {i : Nat} {y : α} (h : l[i]? = some y) : l.take (i + 1) = l.take i ++ [y] := by
  obtain ⟨h1, rfl⟩ := List.getElem?_eq_some_iff.1 h
  exact List.take_succ_eq_append_getElem h1
theorem id_ok : PSpecOk PP 26 (Q [i64] [.bool] (fun _ => true) (fun x => (idB x.1, ()))) := by
  refine pspec_Q mixed (fn := Try.f26) (c := c26) rfl rfl _ _ rfl ?_
  rintro ⟨n, ⟨⟩⟩ - -
  refine ⟨e0, env_ok .., rfl, hold (id_vc n) ?_⟩
  simp only [true_and, and_true]
  refine ⟨idB n, ⟨fun h => ?_, fun h => ?_⟩, rfl⟩
  · simp only [idB, h, Bool.true_and]
  · simp only [idB, h]; rfl
theorem rid_ok : PSpecOk PP 48 (Q [i64] [.bool] (fun _ => true) (fun x => (idB x.1, ()))) := by
  refine pspec_Q mixed (fn := Try.f48) (c := c48) rfl rfl _ _ rfl ?_
  rintro ⟨n, ⟨⟩⟩ - -
  refine ⟨e0, env_ok .., rfl, hold (rid_vc n) ?_⟩
  simp only [true_and, and_true]
  refine ⟨idB n, ⟨fun h => ?_, fun h => ?_⟩, rfl⟩
  · simp only [idB, h, Bool.true_and]
  · simp only [idB, h]; rfl
theorem cmp_ok : PSpecOk PP 46 (Q [i64, i64] [i64] (fun _ => true) (fun x => (cmpI x.1 x.2.1, ()))) := by
  refine pspec_Q mixed (fn := Try.f46) (c := c46) rfl rfl _ _ rfl ?_
  rintro ⟨a, b, ⟨⟩⟩ - -
  refine ⟨env PP [] [s52] [] [] [], env_ok .., rfl, hold (cmp_vc a b) ?_⟩
  simp only [true_and, and_true, bne_self_eq_false, Bool.false_eq_true, false_implies, implies_true, forall_const]
  refine ⟨fun h => ?_, fun h => ⟨fun h2 => ?_, fun h2 => ?_⟩⟩
  · simp at h; simp [cmpI, h]
  · simp at h h2; simp [cmpI, h2, Int.not_lt.2 h]
  · simp at h h2; simp [cmpI, Int.not_lt.2 h, Int.not_lt.2 h2]
theorem sameI_ok : PSpecOk PP 15 (Q [ints, ints] [.bool] (fun _ => true) (fun x => (sameI x.1 x.2.1, ()))) := by
  refine pspec_Q mixed (fn := Try.f15) (c := c15) rfl rfl _ _ rfl ?_
  rintro ⟨a, b, ⟨⟩⟩ - -
  refine ⟨eL (sameLoop a b), env_ok .., rfl, hold (sameI_vc a b) ?_⟩
  simp only [true_and, and_true, Prod.eta, eq_self_iff_true, toNat_cast]
  intro hA hB
  refine ⟨fun h => ?_, fun h _ => ⟨0, ⟨Nat.zero_le _, rfl⟩, rfl, ?_⟩⟩
  · have h : (a.length : Int) ≠ b.length := by simpa using h
    have : a ≠ b := fun e => h (by rw [e])
    simp [sameI, this]
  have hl : a.length = b.length := by simp at h; omega
  rintro i ⟨hi, hinv⟩
  refine ⟨fun hlt => ?_, fun hge => ?_⟩
  · have hlt : i < a.length := by simp at hlt; omega
    refine ⟨⟨by omega, by omega⟩, fun y hy => ⟨⟨by omega, by omega⟩, fun z hz => ⟨fun hne => ?_, fun he => ?_⟩⟩⟩
    · have : a ≠ b := fun e => by subst e; rw [hy] at hz; cases hz; simp at hne
      simp [sameI, this]
    · have : y = z := by simpa using he
      subst this
      exact ⟨i + 1, ⟨by omega, by rw [take_snoc hy, take_snoc hz, hinv]⟩, by omega, wrap_succ hlt hA⟩
  · have hie : i = a.length := by simp at hge; omega
    subst hie
    rw [List.take_length, hl, List.take_length] at hinv
    simp [sameI, hinv]
theorem inL_ok : PSpecOk PP 19 (Q [ints, i64] [.bool] (fun _ => true) (fun x => (inL x.1 x.2.1, ()))) := by
  refine pspec_Q mixed (fn := Try.f19) (c := c19) rfl rfl _ _ rfl ?_
  rintro ⟨l, x, ⟨⟩⟩ - -
  refine ⟨eL (inLoop l x), env_ok .., rfl, hold (inL_vc l x) ?_⟩
  simp only [true_and, and_true, Prod.eta, eq_self_iff_true, toNat_cast]
  intro hA
  refine ⟨0, ⟨Nat.zero_le _, rfl⟩, rfl, ?_⟩
  rintro i ⟨hi, hinv⟩
  refine ⟨fun hlt => ?_, fun hge => ?_⟩
  · have hlt : i < l.length := by simp at hlt; omega
    refine ⟨⟨by omega, by omega⟩, fun y hy => ?_⟩
    obtain ⟨_, rfl⟩ := List.getElem?_eq_some_iff.1 hy
    rw [List.drop_eq_getElem_cons hlt] at hinv
    refine ⟨fun he => ?_, fun hne => ⟨i + 1, ⟨by omega, ?_⟩, by omega, wrap_succ hlt hA⟩⟩
    · rw [← hinv]; simp only [inL, List.any_cons, he, Bool.true_or]
    · rw [← hinv]; simp only [inL, List.any_cons, hne, Bool.false_or]
  · have hie : i = l.length := by simp at hge; omega
    rw [← hinv, hie, List.drop_length]; rfl
def shortB (l : List Int) : Bool := decide (l.length ≤ 1000000000000)
theorem clone_ok : OwnOk PP 32 [ints] 3 i64 (fun x => shortB x.1) (fun x => x.1) := by
  refine own_Q mixed (fn := Try.f32) (c := c32) rfl rfl [ints] 3 i64 rfl ?_
  rintro ⟨l, ⟨⟩⟩ - hp
  have hp : l.length ≤ 1000000000000 := by simpa [shortB] using hp
  refine ⟨e0, env_ok .., rfl, hold (clone_vc l) ?_⟩
  intro b hb
  exact ⟨hb, fun _ => ⟨by omega, by simp⟩⟩
noncomputable def p26 : Pv PP := ⟨26, _, ⟨rfl, id_ok⟩⟩
noncomputable def p48 : Pv PP := ⟨48, _, ⟨rfl, rid_ok⟩⟩
noncomputable def p46 : Pv PP := ⟨46, _, ⟨rfl, cmp_ok⟩⟩
noncomputable def p15 : Pv PP := ⟨15, _, ⟨rfl, sameI_ok⟩⟩
noncomputable def p19 : Pv PP := ⟨19, _, ⟨rfl, inL_ok⟩⟩
noncomputable def p32 : Pv PP := ⟨32, _, ⟨rfl, pspec_of_own clone_ok⟩⟩
noncomputable def b15 : Sv PP := ⟨15, specB _, ⟨rfl, specB_ok sameI_ok⟩⟩
noncomputable def b19 : Sv PP := ⟨19, specB _, ⟨rfl, specB_ok inL_ok⟩⟩
noncomputable def b32 : Sv PP := ⟨32, specOB [ints] 3 i64 (fun x => shortB x.1) (fun x => x.1), ⟨rfl, specOB_ok rfl clone_ok⟩⟩
end Go.Proofs.Ytfdcmbaoekjkgaa
namespace Go.Proofs.Ytfdcmbaoekjkgaa
open Go.Proofs.Ytfdcmbaoekjkgaa.Gx
set_option linter.unusedSimpArgs false
set_option linter.unusedVariables false
/-- A method that leaves the rooms as they are. -/
def looks (α : Type) (inn : α → rmT.den) (ss : α → List SV) (pre : α → Prop) (r : α → SV) : PC1 KR where
  α := α
  inn := inn
  ss := ss
  pre := pre
  alts := [{ β := Unit, k := 1, post := fun _ _ => True, r := fun x _ => r x, outs := fun x _ => [inn x] }]
/-- A method that gives something, and other rooms. -/
def turns (α : Type) (inn : α → rmT.den) (ss : α → List SV) (pre : α → Prop) (r : α → SV) (out : α → rmT.den) : PC1 KR where
  α := α
  inn := inn
  ss := ss
  pre := pre
  alts := [{ β := Unit, k := 1, post := fun _ _ => True, r := fun x _ => r x, outs := fun x _ => [out x] }]
def newC : PC0 KR where
  α := Unit
  ss := fun _ => []
  pre := fun _ => True
  alts := [{ β := Unit, k := 1, post := fun _ _ => True, r := fun _ _ => .ptr 0 0, outs := fun _ _ => [(0, [], [])] }]
def lenC : PC1 KR := looks Rm (fun R => R) (fun _ => [.ptr 0 0]) (fun _ => True) (fun R => .int .i64 (tks R).length)
def placeOf (R : Rm) (t : Int) : Int × Int := (((lookL (tks R) t).map (·.1)).getD (0, 0))
def whereC : PC1 KR := looks (Rm × Int) (fun x => x.1) (fun x => [.ptr 0 0, .int .i64 x.2]) (fun _ => True) (fun x => .tup [.int .i64 (placeOf x.1 x.2).1, .int .i64 (placeOf x.1 x.2).2, .bool (lookL (tks x.1) x.2).isSome])
def waitR (R : Rm) (t seg off : Int) : Int × Rm :=
  if !idB t || !idB seg || decide (off < 0) || decide (off ≥ 4096) then (1, R)
  else if (lookL (tks R) t).isSome then (8, R)
  else if alOf R t ≠ [] then (10, R)
  else (0, (IntKind.i64.wrap (last R + 1), insL (tks R) t ((seg, off), IntKind.i64.wrap (last R + 1)), als R))
def waitC : PC1 KR := turns (Rm × Int × Int × Int) (fun x => x.1) (fun x => [.ptr 0 0, .int .i64 x.2.1, .int .i64 x.2.2.1, .int .i64 x.2.2.2]) (fun _ => True)
  (fun x => .int .i64 (waitR x.1 x.2.1 x.2.2.1 x.2.2.2).1) (fun x => (waitR x.1 x.2.1 x.2.2.1 x.2.2.2).2)
def forgetR (R : Rm) (t : Int) : Rm := (last R, delL (tks R) t, delL (als R) t)
def forgetC : PC1 KR := turns (Rm × Int) (fun x => x.1) (fun x => [.ptr 0 0, .int .i64 x.2]) (fun _ => True) (fun x => .bool (lookL (tks x.1) x.2).isSome) (fun x => forgetR x.1 x.2)
def postR (R : Rm) (t c : Int) : Bool × Int × Rm :=
  if !idB t || decide (c < 0) || decide (c > 255) then (false, 1, R)
  else if (alOf R t).length ≥ 8 then (false, 7, R)
  else ((lookL (tks R) t).isSome, 0, (last R, delL (tks R) t, insL (als R) t (alOf R t ++ [c])))
def postC : PC1 KR := turns (Rm × Int × Int) (fun x => x.1) (fun x => [.ptr 0 0, .int .i64 x.2.1, .int .i64 x.2.2]) (fun _ => True)
  (fun x => .tup [.bool (postR x.1 x.2.1 x.2.2).1, .int .i64 (postR x.1 x.2.1 x.2.2).2.1]) (fun x => (postR x.1 x.2.1 x.2.2).2.2)
def takeR (R : Rm) (t : Int) : Int × Bool × Rm := match alOf R t with
  | [] => (0, false, (last R, tks R, delL (als R) t))
  | c :: l => (c, true, (last R, tks R, if l = [] then delL (als R) t else insL (als R) t l))
def takeC : PC1 KR := turns (Rm × Int) (fun x => x.1) (fun x => [.ptr 0 0, .int .i64 x.2]) (fun _ => True)
  (fun x => .tup [.int .i64 (takeR x.1 x.2).1, .bool (takeR x.1 x.2).2.1]) (fun x => (takeR x.1 x.2).2.2)
/-- No row of alerts is beyond bounds. -/
def shortA (R : Rm) : Prop := ∀ x ∈ als R, x.2.length ≤ 1000000000000
def alertsC : PC1 KR := looks (Rm × Int) (fun x => x.1) (fun x => [.ptr 0 0, .int .i64 x.2]) (fun x => shortA x.1) (fun x => .rs i64 (alOf x.1 x.2))
end Go.Proofs.Ytfdcmbaoekjkgaa
namespace Go.Proofs.Ytfdcmbaoekjkgaa
open Go.Proofs.Ytfdcmbaoekjkgaa.Gx
set_option maxRecDepth 100000
set_option linter.unusedVariables false
set_option maxHeartbeats 0
theorem new_vc : (fvc PP e0 Try.f9 c9 (newC.U.ss ()) (St1 (newC.U.Rs ())) (fun r S => (Fin.perm fun _ => [3, 0, 1, 2]).T r S fun r S => altsOk 0 () r S newC.U.alts)) = (
  ∃ (y : Unit × Tup KR (1 : Nat)), (True ∧ RmRel ((0 : Int), [], []) y.snd.fst ∧ True) ∧ True ∧ (((0 : Int) = y.snd.fst.la ∧ True ∧ True ∧ True) ∧ ([] = y.snd.fst.ts ∧ True) ∧ ([] = y.snd.fst.hs ∧ True) ∧ [] = 
  y.snd.fst.os ∧ True) ∧ True ∧ True) := by kernel_rfl
theorem len_vc (R : Rm) (y : RmIn) : (fvc PP e0 Try.f12 c12 (lenC.U.ss (R, y)) (St1 (lenC.U.Rs (R, y))) (fun r S => altsOk 4 (R, y) r S lenC.U.alts)) = (
  ∃ (y_1 : Unit × Tup KR (1 : Nat)), (True ∧ RmRel R y_1.snd.fst ∧ True) ∧ (↑y.ts.length : Int) = (↑(tks R).length : Int) ∧ ((y.la = y_1.snd.fst.la ∧ True ∧ True ∧ True) ∧ (y.ts = y_1.snd.fst.ts ∧ True) ∧ (y.hs = 
  y_1.snd.fst.hs ∧ True) ∧ y.os = y_1.snd.fst.os ∧ True) ∧ (True ∧ True ∧ True ∧ True ∧ True) ∧ True) := by kernel_rfl
theorem where_vc (R : Rm) (t : Int) (y : RmIn) : (fvc PP e0 Try.f21 c21 (whereC.U.ss ((R, t), y)) (St1 (whereC.U.Rs ((R, t), y))) (fun r S => altsOk 4 ((R, t), y) r S whereC.U.alts)) = (
  ∃ (y_1 : Unit × Tup KR (1 : Nat)), (True ∧ RmRel R y_1.snd.fst ∧ True) ∧ (((lookL y.ts t).getD (((0 : Int), (0 : Int)), (0 : Int))).fst.fst = (placeOf R t).fst ∧ ((lookL y.ts t).getD (((0 : Int), (0 : Int)), (0 : 
  Int))).fst.snd = (placeOf R t).snd ∧ (lookL y.ts t).isSome = (lookL (tks R) t).isSome ∧ True) ∧ ((y.la = y_1.snd.fst.la ∧ True ∧ True ∧ True) ∧ (y.ts = y_1.snd.fst.ts ∧ True) ∧ (y.hs = y_1.snd.fst.hs ∧ True) ∧ y.os = 
  y_1.snd.fst.os ∧ True) ∧ (True ∧ True ∧ True ∧ True ∧ True) ∧ True) := by kernel_rfl
theorem wait_vc (R : Rm) (t seg off : Int) (y : RmIn) : (fvc PP (eP [p26]) Try.f10 c10 (waitC.U.ss ((R, t, seg, off), y)) (St1 (waitC.U.Rs ((R, t, seg, off), y))) (fun r S => altsOk 4 ((R, t, seg, off), y) r S waitC.U.alts)) = (
  true = true ∧ ((!idB t) = false → true = true ∧ ((!idB seg) = false → (decide (off < (0 : Int)) = false → (decide (off ≥ (4096 : Int)) = true → ∃ (y_1 : Unit × Tup KR (1 : Nat)), (True ∧ RmRel (waitR R t seg off).snd 
  y_1.snd.fst ∧ True) ∧ (1 : Int) = (waitR R t seg off).fst ∧ ((y.la = y_1.snd.fst.la ∧ True ∧ True ∧ True) ∧ (y.ts = y_1.snd.fst.ts ∧ True) ∧ (y.hs = y_1.snd.fst.hs ∧ True) ∧ y.os = y_1.snd.fst.os ∧ True) ∧ (True ∧ True 
  ∧ True ∧ True ∧ True) ∧ True) ∧ (decide (off ≥ (4096 : Int)) = false → ((lookL y.ts t).isSome = true → ∃ (y_1 : Unit × Tup KR (1 : Nat)), (True ∧ RmRel (waitR R t seg off).snd y_1.snd.fst ∧ True) ∧ (8 : Int) = (waitR R 
  t seg off).fst ∧ ((y.la = y_1.snd.fst.la ∧ True ∧ True ∧ True) ∧ (y.ts = y_1.snd.fst.ts ∧ True) ∧ (y.hs = y_1.snd.fst.hs ∧ True) ∧ y.os = y_1.snd.fst.os ∧ True) ∧ (True ∧ True ∧ True ∧ True ∧ True) ∧ True) ∧ ((lookL 
  y.ts t).isSome = false → ((lookL y.hs t).getD nilHd).len ≤ maxLen → (decide ((↑((lookL y.hs t).getD nilHd).len : Int) > (0 : Int)) = true → ∃ (y_1 : Unit × Tup KR (1 : Nat)), (True ∧ RmRel (waitR R t seg off).snd 
  y_1.snd.fst ∧ True) ∧ (10 : Int) = (waitR R t seg off).fst ∧ ((y.la = y_1.snd.fst.la ∧ True ∧ True ∧ True) ∧ (y.ts = y_1.snd.fst.ts ∧ True) ∧ (y.hs = y_1.snd.fst.hs ∧ True) ∧ y.os = y_1.snd.fst.os ∧ True) ∧ (True ∧ 
  True ∧ True ∧ True ∧ True) ∧ True) ∧ (decide ((↑((lookL y.hs t).getD nilHd).len : Int) > (0 : Int)) = false → ∃ (y_1 : Unit × Tup KR (1 : Nat)), (True ∧ RmRel (waitR R t seg off).snd y_1.snd.fst ∧ True) ∧ (0 : Int) = 
  (waitR R t seg off).fst ∧ ((IntKind.i64.wrap (y.la + (1 : Int)) = y_1.snd.fst.la ∧ True ∧ True ∧ True) ∧ (insL y.ts t ((seg, off), IntKind.i64.wrap (y.la + (1 : Int))) = y_1.snd.fst.ts ∧ True) ∧ (y.hs = y_1.snd.fst.hs 
  ∧ True) ∧ y.os = y_1.snd.fst.os ∧ True) ∧ (True ∧ True ∧ True ∧ True ∧ True) ∧ True)))) ∧ (decide (off < (0 : Int)) = !false → ∃ (y_1 : Unit × Tup KR (1 : Nat)), (True ∧ RmRel (waitR R t seg off).snd y_1.snd.fst ∧ 
  True) ∧ (1 : Int) = (waitR R t seg off).fst ∧ ((y.la = y_1.snd.fst.la ∧ True ∧ True ∧ True) ∧ (y.ts = y_1.snd.fst.ts ∧ True) ∧ (y.hs = y_1.snd.fst.hs ∧ True) ∧ y.os = y_1.snd.fst.os ∧ True) ∧ (True ∧ True ∧ True ∧ True 
  ∧ True) ∧ True)) ∧ ((!idB seg) = !false → ∃ (y_1 : Unit × Tup KR (1 : Nat)), (True ∧ RmRel (waitR R t seg off).snd y_1.snd.fst ∧ True) ∧ (1 : Int) = (waitR R t seg off).fst ∧ ((y.la = y_1.snd.fst.la ∧ True ∧ True ∧ 
  True) ∧ (y.ts = y_1.snd.fst.ts ∧ True) ∧ (y.hs = y_1.snd.fst.hs ∧ True) ∧ y.os = y_1.snd.fst.os ∧ True) ∧ (True ∧ True ∧ True ∧ True ∧ True) ∧ True)) ∧ ((!idB t) = !false → ∃ (y_1 : Unit × Tup KR (1 : Nat)), (True ∧ 
  RmRel (waitR R t seg off).snd y_1.snd.fst ∧ True) ∧ (1 : Int) = (waitR R t seg off).fst ∧ ((y.la = y_1.snd.fst.la ∧ True ∧ True ∧ True) ∧ (y.ts = y_1.snd.fst.ts ∧ True) ∧ (y.hs = y_1.snd.fst.hs ∧ True) ∧ y.os = 
  y_1.snd.fst.os ∧ True) ∧ (True ∧ True ∧ True ∧ True ∧ True) ∧ True)) := by kernel_rfl
theorem forget_vc (R : Rm) (t : Int) (y : RmIn) : (fvc PP e0 Try.f11 c11 (forgetC.U.ss ((R, t), y)) (St1 (forgetC.U.Rs ((R, t), y))) (fun r S => altsOk 4 ((R, t), y) r S forgetC.U.alts)) = (
  ∃ (y_1 : Unit × Tup KR (1 : Nat)), (True ∧ RmRel (forgetR R t) y_1.snd.fst ∧ True) ∧ (lookL y.ts t).isSome = (lookL (tks R) t).isSome ∧ ((y.la = y_1.snd.fst.la ∧ True ∧ True ∧ True) ∧ (delL y.ts t = y_1.snd.fst.ts ∧ 
  True) ∧ (delL y.hs t = y_1.snd.fst.hs ∧ True) ∧ y.os = y_1.snd.fst.os ∧ True) ∧ (True ∧ True ∧ True ∧ True ∧ True) ∧ True) := by kernel_rfl
noncomputable def s30 : Sv PP := ⟨30, inl PP e0 Try.f30 c30, ⟨rfl, inl_ok (env_ok ..) rfl mixed rfl rfl⟩⟩
noncomputable def s31 : Sv PP := ⟨31, inl PP e0 Try.f31 c31, ⟨rfl, inl_ok (env_ok ..) rfl mixed rfl rfl⟩⟩
theorem post_vc (R : Rm) (t c : Int) (y : RmIn) : (fvc PP (env PP [p26] [s30] [] [] []) Try.f16 c16 (postC.U.ss ((R, t, c), y)) (St1 (postC.U.Rs ((R, t, c), y))) (fun r S => altsOk 4 ((R, t, c), y) r S postC.U.alts)) = (
  true = true ∧ ((!idB t) = false → (decide (c < (0 : Int)) = false → (decide (c > (255 : Int)) = true → ∃ (y_1 : Unit × Tup KR (1 : Nat)), (True ∧ RmRel (postR R t c).snd.snd y_1.snd.fst ∧ True) ∧ (false = (postR R t 
  c).fst ∧ (1 : Int) = (postR R t c).snd.fst ∧ True) ∧ ((y.la = y_1.snd.fst.la ∧ True ∧ True ∧ True) ∧ (y.ts = y_1.snd.fst.ts ∧ True) ∧ (y.hs = y_1.snd.fst.hs ∧ True) ∧ y.os = y_1.snd.fst.os ∧ True) ∧ (True ∧ True ∧ True 
  ∧ True ∧ True) ∧ True) ∧ (decide (c > (255 : Int)) = false → ((lookL y.hs t).getD nilHd).len ≤ maxLen → (decide ((↑((lookL y.hs t).getD nilHd).len : Int) ≥ (8 : Int)) = true → ∃ (y_1 : Unit × Tup KR (1 : Nat)), (True ∧ 
  RmRel (postR R t c).snd.snd y_1.snd.fst ∧ True) ∧ (false = (postR R t c).fst ∧ (7 : Int) = (postR R t c).snd.fst ∧ True) ∧ ((y.la = y_1.snd.fst.la ∧ True ∧ True ∧ True) ∧ (y.ts = y_1.snd.fst.ts ∧ True) ∧ (y.hs = 
  y_1.snd.fst.hs ∧ True) ∧ y.os = y_1.snd.fst.os ∧ True) ∧ (True ∧ True ∧ True ∧ True ∧ True) ∧ True) ∧ (decide ((↑((lookL y.hs t).getD nilHd).len : Int) ≥ (8 : Int)) = false → HdIn y.os ((lookL y.hs t).getD nilHd) ∧ 
  (((lookL y.hs t).getD nilHd).len + [c].length) * (8 : Nat) ≤ (140737488355328 : Nat) ∧ ∀ (h' : Hd) (os' : List (Nat × Nat × List Int)), AppPost y.os ((lookL y.hs t).getD nilHd) [c] h' os' → ∃ (y_1 : Unit × Tup KR (1 : 
  Nat)), (True ∧ RmRel (postR R t c).snd.snd y_1.snd.fst ∧ True) ∧ ((lookL y.ts t).isSome = (postR R t c).fst ∧ (0 : Int) = (postR R t c).snd.fst ∧ True) ∧ ((y.la = y_1.snd.fst.la ∧ True ∧ True ∧ True) ∧ (delL y.ts t = 
  y_1.snd.fst.ts ∧ True) ∧ (insL y.hs t h' = y_1.snd.fst.hs ∧ True) ∧ os' = y_1.snd.fst.os ∧ True) ∧ (True ∧ True ∧ True ∧ True ∧ True) ∧ True))) ∧ (decide (c < (0 : Int)) = !false → ∃ (y_1 : Unit × Tup KR (1 : Nat)), 
  (True ∧ RmRel (postR R t c).snd.snd y_1.snd.fst ∧ True) ∧ (false = (postR R t c).fst ∧ (1 : Int) = (postR R t c).snd.fst ∧ True) ∧ ((y.la = y_1.snd.fst.la ∧ True ∧ True ∧ True) ∧ (y.ts = y_1.snd.fst.ts ∧ True) ∧ (y.hs 
  = y_1.snd.fst.hs ∧ True) ∧ y.os = y_1.snd.fst.os ∧ True) ∧ (True ∧ True ∧ True ∧ True ∧ True) ∧ True)) ∧ ((!idB t) = !false → ∃ (y_1 : Unit × Tup KR (1 : Nat)), (True ∧ RmRel (postR R t c).snd.snd y_1.snd.fst ∧ True) ∧ 
  (false = (postR R t c).fst ∧ (1 : Int) = (postR R t c).snd.fst ∧ True) ∧ ((y.la = y_1.snd.fst.la ∧ True ∧ True ∧ True) ∧ (y.ts = y_1.snd.fst.ts ∧ True) ∧ (y.hs = y_1.snd.fst.hs ∧ True) ∧ y.os = y_1.snd.fst.os ∧ True) ∧ 
  (True ∧ True ∧ True ∧ True ∧ True) ∧ True)) := by kernel_rfl
theorem take_vc (R : Rm) (t : Int) (y : RmIn) : (fvc PP (env PP [] [s31] [] [] []) Try.f17 c17 (takeC.U.ss ((R, t), y)) (St1 (takeC.U.Rs ((R, t), y))) (fun r S => altsOk 4 ((R, t), y) r S takeC.U.alts)) = (
  ((lookL y.hs t).getD nilHd).len ≤ maxLen → (((↑((lookL y.hs t).getD nilHd).len : Int) == (0 : Int)) = true → ((lookL y.hs t).getD nilHd).len ≤ maxLen → (((↑((lookL y.hs t).getD nilHd).len : Int) == (0 : Int)) = true → 
  ∃ (y_1 : Unit × Tup KR (1 : Nat)), (True ∧ RmRel (takeR R t).snd.snd y_1.snd.fst ∧ True) ∧ ((0 : Int) = (takeR R t).fst ∧ false = (takeR R t).snd.fst ∧ True) ∧ ((y.la = y_1.snd.fst.la ∧ True ∧ True ∧ True) ∧ (y.ts = 
  y_1.snd.fst.ts ∧ True) ∧ (delL (insL y.hs t ((lookL y.hs t).getD nilHd)) t = y_1.snd.fst.hs ∧ True) ∧ y.os = y_1.snd.fst.os ∧ True) ∧ (True ∧ True ∧ True ∧ True ∧ True) ∧ True) ∧ (((↑((lookL y.hs t).getD nilHd).len : 
  Int) == (0 : Int)) = false → ∃ (y_1 : Unit × Tup KR (1 : Nat)), (True ∧ RmRel (takeR R t).snd.snd y_1.snd.fst ∧ True) ∧ ((0 : Int) = (takeR R t).fst ∧ false = (takeR R t).snd.fst ∧ True) ∧ ((y.la = y_1.snd.fst.la ∧ 
  True ∧ True ∧ True) ∧ (y.ts = y_1.snd.fst.ts ∧ True) ∧ (insL y.hs t ((lookL y.hs t).getD nilHd) = y_1.snd.fst.hs ∧ True) ∧ y.os = y_1.snd.fst.os ∧ True) ∧ (True ∧ True ∧ True ∧ True ∧ True) ∧ True)) ∧ (((↑((lookL y.hs 
  t).getD nilHd).len : Int) == (0 : Int)) = false → ((0 : Int) ≤ (0 : Int) ∧ (0 : Int) < (↑((lookL y.hs t).getD nilHd).len : Int)) ∧ (∃ (y_1 : Int), famGet y.os (((lookL y.hs t).getD nilHd).b.getD (0 : Nat)) (((lookL 
  y.hs t).getD nilHd).off + (0 : Nat)) = some y_1) ∧ ∀ (y_1 : Int), famGet y.os (((lookL y.hs t).getD nilHd).b.getD (0 : Nat)) (((lookL y.hs t).getD nilHd).off + (0 : Nat)) = some y_1 → ((0 : Int) ≤ none.getD (↑((lookL 
  y.hs t).getD nilHd).len : Int) ∧ none.getD (↑((lookL y.hs t).getD nilHd).len : Int) ≤ (↑((lookL y.hs t).getD nilHd).len : Int) ∧ (0 : Int) ≤ (some (1 : Int)).getD (0 : Int) ∧ (some (1 : Int)).getD (0 : Int) ≤ none.getD 
  (↑((lookL y.hs t).getD nilHd).len : Int)) ∧ ((subH ((lookL y.hs t).getD nilHd) (1 : Nat) (none.getD (↑((lookL y.hs t).getD nilHd).len : Int)).toNat).len ≤ maxLen → (((↑(subH ((lookL y.hs t).getD nilHd) (1 : Nat) 
  (none.getD (↑((lookL y.hs t).getD nilHd).len : Int)).toNat).len : Int) == (0 : Int)) = true → ∃ (y_2 : Unit × Tup KR (1 : Nat)), (True ∧ RmRel (takeR R t).snd.snd y_2.snd.fst ∧ True) ∧ (y_1 = (takeR R t).fst ∧ true = 
  (takeR R t).snd.fst ∧ True) ∧ ((y.la = y_2.snd.fst.la ∧ True ∧ True ∧ True) ∧ (y.ts = y_2.snd.fst.ts ∧ True) ∧ (delL (insL y.hs t (subH ((lookL y.hs t).getD nilHd) (1 : Nat) (none.getD (↑((lookL y.hs t).getD nilHd).len 
  : Int)).toNat)) t = y_2.snd.fst.hs ∧ True) ∧ y.os = y_2.snd.fst.os ∧ True) ∧ (True ∧ True ∧ True ∧ True ∧ True) ∧ True) ∧ (((↑(subH ((lookL y.hs t).getD nilHd) (1 : Nat) (none.getD (↑((lookL y.hs t).getD nilHd).len : 
  Int)).toNat).len : Int) == (0 : Int)) = false → ∃ (y_2 : Unit × Tup KR (1 : Nat)), (True ∧ RmRel (takeR R t).snd.snd y_2.snd.fst ∧ True) ∧ (y_1 = (takeR R t).fst ∧ true = (takeR R t).snd.fst ∧ True) ∧ ((y.la = 
  y_2.snd.fst.la ∧ True ∧ True ∧ True) ∧ (y.ts = y_2.snd.fst.ts ∧ True) ∧ (insL y.hs t (subH ((lookL y.hs t).getD nilHd) (1 : Nat) (none.getD (↑((lookL y.hs t).getD nilHd).len : Int)).toNat) = y_2.snd.fst.hs ∧ True) ∧ 
  y.os = y_2.snd.fst.os ∧ True) ∧ (True ∧ True ∧ True ∧ True ∧ True) ∧ True)))) := by kernel_rfl
theorem alerts_vc (R : Rm) (t : Int) (y : RmIn) : (fvc PP (env PP [] [b32] [] [] []) Try.f18 c18 (alertsC.U.ss ((R, t), y)) (St1 (alertsC.U.Rs ((R, t), y))) (fun r S => Fin.frz.T r S fun r S => altsOk 4 ((R, t), y) r S alertsC.U.alts)) = (
  HdIn y.os ((lookL y.hs t).getD nilHd) ∧ shortB (rdH y.os ((lookL y.hs t).getD nilHd)) = true ∧ ∃ (y_1 : Unit × Tup KR (1 : Nat)), (True ∧ RmRel R y_1.snd.fst ∧ True) ∧ rdH y.os ((lookL y.hs t).getD nilHd) = alOf R t ∧ 
  ((y.la = y_1.snd.fst.la ∧ True ∧ True ∧ True) ∧ (y.ts = y_1.snd.fst.ts ∧ True) ∧ (y.hs = y_1.snd.fst.hs ∧ True) ∧ y.os = y_1.snd.fst.os ∧ True) ∧ (True ∧ True ∧ True ∧ True ∧ True) ∧ True) := by kernel_rfl
end Go.Proofs.Ytfdcmbaoekjkgaa
namespace Go.Proofs.Ytfdcmbaoekjkgaa
open Go.Proofs.Ytfdcmbaoekjkgaa.Gx
set_option linter.unusedSimpArgs false
set_option linter.unusedVariables false
section
variable {α β : Type}
theorem lookL_map (f : α → β) : (l : List (Int × α)) → (k : Int) → lookL (l.map fun x => (x.1, f x.2)) k = (lookL l k).map f
  | [], _ => rfl
  | x :: l, k => by
    simp only [List.map_cons, lookL]
    split
    · rfl
    · exact lookL_map f l k
theorem insL_map (f : α → β) : (l : List (Int × α)) → (k : Int) → (v : α) → insL (l.map fun x => (x.1, f x.2)) k (f v) = (insL l k v).map fun x => (x.1, f x.2)
  | [], _, _ => rfl
  | x :: l, k, v => by
    simp only [List.map_cons, insL]
    split
    · rfl
    · simp only [List.map_cons, insL_map f l k v]
theorem delL_map (f : α → β) : (l : List (Int × α)) → (k : Int) → delL (l.map fun x => (x.1, f x.2)) k = (delL l k).map fun x => (x.1, f x.2)
  | [], _ => rfl
  | x :: l, k => by
    simp only [List.map_cons, delL]
    split
    · rfl
    · simp only [List.map_cons, delL_map f l k]
theorem delL_insL : (l : List (Int × α)) → (k : Int) → (v : α) → delL (insL l k v) k = delL l k
  | [], k, v => by simp [insL, delL]
  | x :: l, k, v => by
    simp only [insL]
    split
    · rename_i e; simp [delL, e]
    · rename_i e; simp only [delL, e, if_false, delL_insL l k v]
theorem mem_insL : (l : List (Int × α)) → (k : Int) → (v : α) → (l.map (·.1)).Nodup → ∀ x ∈ insL l k v, x = (k, v) ∨ (x ∈ l ∧ x.1 ≠ k)
  | [], k, v, _, x, h => by simp [insL] at h; exact .inl h
  | y :: l, k, v, hn, x, h => by
    simp only [List.map_cons, List.nodup_cons] at hn
    simp only [insL] at h
    split at h
    · rename_i e
      rcases List.mem_cons.1 h with rfl | h
      · exact .inl rfl
      · refine .inr ⟨by simp [h], fun e2 => hn.1 (List.mem_map.2 ⟨x, h, by rw [e, e2]⟩)⟩
    · rename_i e
      rcases List.mem_cons.1 h with rfl | h
      · exact .inr ⟨by simp, e⟩
      · rcases mem_insL l k v hn.2 x h with h | ⟨h1, h2⟩
        · exact .inl h
        · exact .inr ⟨by simp [h1], h2⟩
theorem mem_delL : (l : List (Int × α)) → (k : Int) → ∀ x ∈ delL l k, x ∈ l
  | [], _, x, h => by simp [delL] at h
  | y :: l, k, x, h => by
    simp only [delL] at h
    split at h
    · simp [h]
    · rcases List.mem_cons.1 h with rfl | h
      · simp
      · simp [mem_delL l k x h]
theorem delL_sub (l : List (Int × α)) (k : Int) : (delL l k).Sublist l := by
  induction l with
  | nil => exact List.Sublist.refl _
  | cons x l ih =>
    simp only [delL]
    split
    · exact List.sublist_cons_self x l
    · exact ih.cons_cons x
theorem delL_none : (l : List (Int × α)) → (k : Int) → (l.map (·.1)).Nodup → k ∉ (delL l k).map (·.1)
  | [], _, _ => by simp [delL]
  | x :: l, k, hn => by
    simp only [List.map_cons, List.nodup_cons] at hn
    simp only [delL]
    split
    · rename_i e; rw [← e]; exact hn.1
    · rename_i e
      simp only [List.map_cons, List.mem_cons, not_or]
      exact ⟨fun h => e h.symm, delL_none l k hn.2⟩
theorem keys_insL : (l : List (Int × α)) → (k : Int) → (v : α) → ∀ j, j ∈ (insL l k v).map (·.1) ↔ j = k ∨ j ∈ l.map (·.1)
  | [], k, v, j => by simp [insL]
  | x :: l, k, v, j => by
    simp only [insL]
    split
    · rename_i e
      simp only [List.map_cons, List.mem_cons, e, or_self_left]
    · have ih := keys_insL l k v j
      simp only [List.map_cons, List.mem_cons, ih]
      constructor
      · rintro (h | h | h) <;> simp [h]
      · rintro (h | h | h) <;> simp [h]
theorem nodup_insL : (l : List (Int × α)) → (k : Int) → (v : α) → (l.map (·.1)).Nodup → ((insL l k v).map (·.1)).Nodup
  | [], k, v, _ => by simp [insL]
  | x :: l, k, v, hn => by
    simp only [List.map_cons, List.nodup_cons] at hn
    simp only [insL]
    split
    · rename_i e
      simp only [List.map_cons, List.nodup_cons]
      exact ⟨by rw [← e]; exact hn.1, hn.2⟩
    · rename_i e
      simp only [List.map_cons, List.nodup_cons]
      refine ⟨fun h => ?_, nodup_insL l k v hn.2⟩
      rcases (keys_insL l k v x.1).1 h with h | h
      · exact e h
      · exact hn.1 h
theorem lookL_mem : {l : List (Int × α)} → {k : Int} → {v : α} → lookL l k = some v → (k, v) ∈ l
  | x :: l, k, v, h => by
    simp only [lookL] at h
    split at h
    · rename_i e; cases h; subst e; simp
    · exact List.mem_cons_of_mem _ (lookL_mem h)
theorem lookL_some {l : List (Int × α)} {k : Int} (hn : (l.map (·.1)).Nodup) {v : α} (h : (k, v) ∈ l) : lookL l k = some v := by
  induction l with
  | nil => simp at h
  | cons x l ih =>
    simp only [List.map_cons, List.nodup_cons] at hn
    simp only [lookL]
    rcases List.mem_cons.1 h with rfl | h
    · simp
    · rw [if_neg (fun e => hn.1 (List.mem_map.2 ⟨_, h, e.symm⟩))]; exact ih hn.2 h
theorem lookL_insL : (l : List (Int × α)) → (k : Int) → (v : α) → (j : Int) → lookL (insL l k v) j = if j = k then some v else lookL l j
  | [], k, v, j => by
    simp only [insL, lookL]
    by_cases e : k = j
    · simp [e]
    · rw [if_neg e, if_neg (fun h => e h.symm)]
  | x :: l, k, v, j => by
    simp only [insL]
    split
    · rename_i e
      simp only [lookL]
      by_cases e2 : k = j
      · simp [e2]
      · rw [if_neg e2, if_neg (fun h => e2 h.symm), if_neg (by rw [e]; exact e2)]
    · rename_i e
      simp only [lookL]
      by_cases e2 : x.1 = j
      · have e3 : ¬ j = k := fun h => e (e2.trans h)
        simp [e2, e3]
      · rw [if_neg e2, if_neg e2, lookL_insL l k v j]
theorem lookL_delL : (l : List (Int × α)) → (k : Int) → (l.map (·.1)).Nodup → (j : Int) → lookL (delL l k) j = if j = k then none else lookL l j
  | [], k, _, j => by simp [delL, lookL]
  | x :: l, k, hn, j => by
    simp only [List.map_cons, List.nodup_cons] at hn
    simp only [delL]
    split
    · rename_i e
      by_cases e2 : j = k
      · rw [if_pos e2]
        cases hl : lookL l j with
        | none => rfl
        | some v => exact absurd (List.mem_map.2 ⟨_, lookL_mem hl, by rw [e, e2]⟩) hn.1
      · rw [if_neg e2]
        simp only [lookL]
        rw [if_neg (fun h => e2 (h.symm.trans e))]
    · rename_i e
      simp only [lookL]
      by_cases e2 : x.1 = j
      · have e3 : ¬ j = k := fun h => e (e2.trans h)
        simp [e2, e3]
      · rw [if_neg e2, if_neg e2, lookL_delL l k hn.2 j]
end
/-! ### Heads -/
theorem rd_nil (os : List (Nat × (Nat × List Int))) : rdH os nilHd = [] := rfl
theorem rd_len {os : List (Nat × (Nat × List Int))} {h : Hd} (hin : hdIn os h) : (rdH os h).length = h.len := by
  obtain ⟨b, off, len, cap⟩ := h
  cases b with
  | none => have : len = 0 := hin; simp [rdH, this]
  | some g =>
    obtain ⟨n, xs, hl, h1, h2, h3⟩ := hin
    simp only at h1 h2 h3
    simp only [rdH, hl, Option.map_some, Option.getD_some, List.length_take, List.length_drop]
    omega
theorem in_nil (os : List (Nat × (Nat × List Int))) : hdIn os nilHd := rfl
/-- What another block's slice reads, behind an appending. -/
theorem app_other {os os' : List (Nat × (Nat × List Int))} {h h' x : Hd} {ys : List Int} (ha : AppPost os h ys h' os') (hin : hdIn os x) (hne : ∀ g, x.b = some g → h.b ≠ some g) : hdIn os' x ∧ rdH os' x = rdH os x := by
  obtain ⟨b, off, len, cap⟩ := x
  cases b with
  | none => exact ⟨hin, rfl⟩
  | some g =>
    obtain ⟨n, xs, hl, h1⟩ := hin
    have hk := ha.keep g (hne g rfl) (by rw [hl]; simp)
    exact ⟨⟨n, xs, hk.trans hl, h1⟩, by simp [rdH, hk]⟩
theorem sub_rd {os : List (Nat × (Nat × List Int))} {h : Hd} (hin : hdIn os h) (hpos : 0 < h.len) (hok : h.len ≤ h.cap) : hdIn os (subH h 1 h.len) ∧ rdH os (subH h 1 h.len) = (rdH os h).drop 1 := by
  obtain ⟨b, off, len, cap⟩ := h
  simp only at hpos hok
  cases b with
  | none => have : len = 0 := hin; omega
  | some g =>
    obtain ⟨n, xs, hl, h1, h2, h3⟩ := hin
    simp only at h1 h2 h3
    by_cases e : cap = 1
    · have e1 : len = 1 := by omega
      subst e; subst e1
      refine ⟨⟨n, xs, hl, ?_, ?_, ?_⟩, ?_⟩
      · simp [subH]; omega
      · simp [subH]; omega
      · simp [subH]
      · simp only [subH, rdH, hl, Option.map_some, Option.getD_some]
        rw [show 1 - 1 = 0 by omega, List.take_zero, List.drop_take]; simp
    · refine ⟨⟨n, xs, hl, ?_, ?_, ?_⟩, ?_⟩
      · simp only [subH, e, if_false]; omega
      · simp only [subH, e, if_false]; omega
      · simp only [subH]; omega
      · simp only [subH, e, if_false, rdH, hl, Option.map_some, Option.getD_some]
        rw [List.drop_take, List.drop_drop]
/-! ### Rooms -/
section
variable {R : Rm} {y : RmIn} {t : Int}
theorem rel_al (h : RmRel R y) (t : Int) : alOf R t = rdH y.os ((lookL y.hs t).getD nilHd) := by
  unfold alOf
  rw [h.als, lookL_map]
  cases lookL y.hs t <;> rfl
theorem rel_in (h : RmRel R y) (t : Int) : hdIn y.os ((lookL y.hs t).getD nilHd) := by
  cases hl : lookL y.hs t with
  | none => exact in_nil _
  | some x => exact h.hin _ (lookL_mem hl)
theorem rel_len (h : RmRel R y) (t : Int) : (alOf R t).length = ((lookL y.hs t).getD nilHd).len := by rw [rel_al h, rd_len (rel_in h t)]
theorem blks_cons (x : Int × Hd) (l : List (Int × Hd)) : blks (x :: l) = (match x.2.b with | some g => g :: blks l | none => blks l) := by
  simp only [blks, List.filterMap_cons]
  cases x.2.b <;> rfl
theorem mem_blks {l : List (Int × Hd)} {g : Nat} : g ∈ blks l ↔ ∃ x ∈ l, x.2.b = some g := by simp [blks, List.mem_filterMap]
/-- Two entries have no block in common. -/
theorem blks_apart : {l : List (Int × Hd)} → (l.map (·.1)).Nodup → (blks l).Nodup → ∀ x ∈ l, ∀ z ∈ l, x.1 ≠ z.1 → ∀ g, x.2.b = some g → z.2.b ≠ some g
  | [], _, _, x, hx, _, _, _, _, _ => by simp at hx
  | a :: l, hn, hb, x, hx, z, hz, hne, g, hg => by
    simp only [List.map_cons, List.nodup_cons] at hn
    rw [blks_cons] at hb
    intro hg2
    have hl : (blks l).Nodup := by cases ha : a.2.b with
      | none => rw [ha] at hb; exact hb
      | some u => rw [ha] at hb; exact (List.nodup_cons.1 hb).2
    have hno : ∀ u, a.2.b = some u → u ∉ blks l := fun u ha => by rw [ha] at hb; exact (List.nodup_cons.1 hb).1
    rcases List.mem_cons.1 hx with e1 | hx1 <;> rcases List.mem_cons.1 hz with e2 | hz1
    · exact hne (by rw [e1, e2])
    · exact hno g (by rw [← e1]; exact hg) (mem_blks.2 ⟨z, hz1, hg2⟩)
    · exact hno g (by rw [← e2]; exact hg2) (mem_blks.2 ⟨x, hx1, hg⟩)
    · exact blks_apart hn.2 hl x hx1 z hz1 hne g hg hg2
theorem blks_ins : (l : List (Int × Hd)) → (k : Int) → (h : Hd) → (l.map (·.1)).Nodup → (blks l).Nodup → (∀ g, h.b = some g → ∀ x ∈ l, x.1 ≠ k → x.2.b ≠ some g) → (blks (insL l k h)).Nodup
  | [], k, h, _, _, _ => by
    simp only [insL, blks_cons]
    cases h.b <;> simp [blks]
  | a :: l, k, h, hn, hb, hf => by
    simp only [List.map_cons, List.nodup_cons] at hn
    rw [blks_cons] at hb
    have hl : (blks l).Nodup := by cases ha : a.2.b with
      | none => rw [ha] at hb; exact hb
      | some u => rw [ha] at hb; exact (List.nodup_cons.1 hb).2
    have hno : ∀ u, a.2.b = some u → u ∉ blks l := fun u ha => by rw [ha] at hb; exact (List.nodup_cons.1 hb).1
    simp only [insL]
    split
    · rename_i e
      rw [blks_cons]
      cases hh : h.b with
      | none => exact hl
      | some g =>
        refine List.nodup_cons.2 ⟨fun hm => ?_, hl⟩
        obtain ⟨x, hx, hg⟩ := mem_blks.1 hm
        exact hf g hh x (by simp [hx]) (fun e2 => hn.1 (List.mem_map.2 ⟨x, hx, by rw [e, e2]⟩)) hg
    · rename_i e
      rw [blks_cons]
      have ih := blks_ins l k h hn.2 hl (fun g hg x hx => hf g hg x (by simp [hx]))
      cases ha : a.2.b with
      | none => exact ih
      | some u =>
        refine List.nodup_cons.2 ⟨fun hm => ?_, ih⟩
        obtain ⟨x, hx, hg⟩ := mem_blks.1 hm
        rcases mem_insL l k h hn.2 x hx with rfl | ⟨hx, _⟩
        · exact hf u hg a (by simp) e ha
        · exact hno u ha (mem_blks.2 ⟨x, hx, hg⟩)
theorem blks_sub {l l' : List (Int × Hd)} (h : l'.Sublist l) (hb : (blks l).Nodup) : (blks l').Nodup := List.Nodup.sublist (h.filterMap _) hb
/-- Another head for one of them, other blocks as they are. -/
theorem rel_put (h : RmRel R y) {h' : Hd} {os' : List (Nat × (Nat × List Int))} (hin : hdIn os' h') (hoth : ∀ x ∈ y.hs, x.1 ≠ t → hdIn os' x.2 ∧ rdH os' x.2 = rdH y.os x.2) (hb : ∀ g, h'.b = some g → ∀ x ∈ y.hs, x.1 ≠ t → x.2.b ≠ some g) :
    RmRel (last R, tks R, insL (als R) t (rdH os' h')) ⟨y.la, y.ts, insL y.hs t h', os'⟩ where
  la := h.la
  ts := h.ts
  als := by
    show insL (als R) t (rdH os' h') = (insL y.hs t h').map fun x => (x.1, rdH os' x.2)
    rw [← insL_map (rdH os'), h.als]
    have key : ∀ (l : List (Int × Hd)), (l.map (·.1)).Nodup → (∀ x ∈ l, x.1 ≠ t → rdH os' x.2 = rdH y.os x.2) → insL (l.map fun x => (x.1, rdH y.os x.2)) t (rdH os' h') = insL (l.map fun x => (x.1, rdH os' x.2)) t (rdH os' h') := by
      intro l
      induction l with
      | nil => intro _ _; rfl
      | cons a l ih =>
        intro hn hl
        simp only [List.map_cons, List.nodup_cons] at hn
        simp only [List.map_cons, insL]
        split
        · rename_i e
          congr 1
          apply List.map_congr_left
          intro x hx
          rw [hl x (by simp [hx]) (fun e2 => hn.1 (List.mem_map.2 ⟨x, hx, by rw [e, e2]⟩))]
        · rename_i e
          rw [hl a (by simp) e, ih hn.2 (fun x hx => hl x (by simp [hx]))]
    exact key y.hs h.keys (fun x hx hne => (hoth x hx hne).2)
  keys := nodup_insL _ _ _ h.keys
  tkeys := h.tkeys
  hin := fun x hx => by
    rcases mem_insL _ _ _ h.keys x hx with rfl | ⟨h1, h2⟩
    · exact hin
    · exact (hoth x h1 h2).1
  apart := blks_ins _ _ _ h.keys h.apart hb
theorem rel_app (h : RmRel R y) {ys : List Int} {h' : Hd} {os' : List (Nat × (Nat × List Int))} (ha : AppPost y.os ((lookL y.hs t).getD nilHd) ys h' os') :
    RmRel (last R, tks R, insL (als R) t (alOf R t ++ ys)) ⟨y.la, y.ts, insL y.hs t h', os'⟩ := by
  rw [rel_al h, ← ha.rd]
  have hap : ∀ x ∈ y.hs, x.1 ≠ t → ∀ g, x.2.b = some g → ((lookL y.hs t).getD nilHd).b ≠ some g := by
    intro x hx hne g hg hg2
    cases hl : lookL y.hs t with
    | none => rw [hl] at hg2; cases hg2
    | some u =>
      rw [hl] at hg2
      exact blks_apart h.keys h.apart x hx _ (lookL_mem hl) hne g hg hg2
  refine rel_put h ha.hin (fun x hx hne => app_other ha (h.hin x hx) (hap x hx hne)) (fun g hg x hx hne hx2 => ?_)
  rcases ha.blk with e | ⟨g2, e, hn⟩
  · exact hap x hx hne g hx2 (by rw [← e]; exact hg)
  · rw [hg] at e
    cases e
    have := h.hin x hx
    unfold hdIn at this
    rw [hx2] at this
    obtain ⟨n, xs, hl, _⟩ := this
    rw [hn] at hl; cases hl
theorem rel_cut (h : RmRel R y) (hpos : 0 < ((lookL y.hs t).getD nilHd).len) (hok : ((lookL y.hs t).getD nilHd).len ≤ ((lookL y.hs t).getD nilHd).cap) :
    RmRel (last R, tks R, insL (als R) t ((alOf R t).drop 1)) ⟨y.la, y.ts, insL y.hs t (subH ((lookL y.hs t).getD nilHd) 1 ((lookL y.hs t).getD nilHd).len), y.os⟩ := by
  obtain ⟨h1, h2⟩ := sub_rd (rel_in h t) hpos hok
  rw [rel_al h, ← h2]
  refine rel_put h h1 (fun x hx _ => ⟨h.hin x hx, rfl⟩) (fun g hg x hx hne hx2 => ?_)
  have hg : ((lookL y.hs t).getD nilHd).b = some g := hg
  cases hl : lookL y.hs t with
  | none => rw [hl] at hg; cases hg
  | some u =>
    rw [hl] at hg
    exact blks_apart h.keys h.apart x hx _ (lookL_mem hl) hne g hx2 hg
theorem rel_del (h : RmRel R y) : RmRel (last R, tks R, delL (als R) t) ⟨y.la, y.ts, delL y.hs t, y.os⟩ where
  la := h.la
  ts := h.ts
  als := by
    show delL (als R) t = _
    rw [h.als, delL_map]
  keys := List.Nodup.sublist ((delL_sub _ _).map _) h.keys
  tkeys := h.tkeys
  hin := fun x hx => h.hin x (mem_delL _ _ x hx)
  apart := blks_sub (delL_sub _ _) h.apart
theorem rel_tk (h : RmRel R y) {la : Int} {ts : List (Int × Tk)} (hn : (ts.map (·.1)).Nodup) : RmRel (la, ts, als R) ⟨la, ts, y.hs, y.os⟩ :=
  ⟨rfl, rfl, h.als, h.keys, hn, h.hin, h.apart⟩
end
end Go.Proofs.Ytfdcmbaoekjkgaa
namespace Go.Proofs.Ytfdcmbaoekjkgaa
open Go.Proofs.Ytfdcmbaoekjkgaa.Gx
set_option maxRecDepth 100000
set_option maxHeartbeats 4000000
set_option linter.unusedSimpArgs false
set_option linter.unusedVariables false
theorem one_wf {α : Type} {inn : α → rmT.den} {ss : α → List SV} {pre : α → Prop} {r : α → SV} {out : α → rmT.den} (hr : ∀ x, SV.wf 1 (r x) = true) : ∀ A ∈ (turns α inn ss pre r out).alts, ∀ x y, SV.wf (A.outs x y).length (A.r x y) = true ∧ 1 ≤ (A.outs x y).length := by
  intro A hA
  obtain rfl := List.mem_singleton.1 hA
  exact fun x y => ⟨hr x, Nat.le_refl 1⟩
theorem one_wfl {α : Type} {inn : α → rmT.den} {ss : α → List SV} {pre : α → Prop} {r : α → SV} (hr : ∀ x, SV.wf 1 (r x) = true) : ∀ A ∈ (looks α inn ss pre r).alts, ∀ x y, SV.wf (A.outs x y).length (A.r x y) = true ∧ 1 ≤ (A.outs x y).length := by
  intro A hA
  obtain rfl := List.mem_singleton.1 hA
  exact fun x y => ⟨hr x, Nat.le_refl 1⟩
theorem new_ok : newC.H.ok PP 9 := by
  refine newC.ok_of (fun A hA => by obtain rfl := List.mem_singleton.1 hA; exact fun x y => rfl) ?_
  refine hc_ofP (Fin.perm fun _ => [3, 0, 1, 2]) mixed (fn := Try.f9) (c := c9) rfl rfl newC.U (fun x => rfl) ?_
  rintro ⟨⟩ -
  refine ⟨e0, env_ok .., rfl, hold new_vc ?_⟩
  simp only [true_and, and_true]
  exact ⟨((), ⟨0, [], [], []⟩, ()), ⟨rfl, rfl, rfl, by simp, by simp, fun x hx => by simp at hx, by simp [blks]⟩, rfl, rfl, rfl, rfl⟩
theorem len_ok : lenC.H.ok PP 12 := by
  refine lenC.ok_of (one_wfl fun _ => rfl) ?_
  refine hc_of mixed (fn := Try.f12) (c := c12) rfl rfl lenC.U (fun x => rfl) ?_
  rintro ⟨R, (y : RmIn)⟩ ⟨-, hrel⟩
  have hrel : RmRel R y := hrel
  refine ⟨e0, env_ok .., rfl, hold (len_vc R y) ?_⟩
  simp only [true_and, and_true]
  exact ⟨((), y, ()), hrel, by rw [hrel.ts], rfl, rfl, rfl, rfl⟩
theorem where_ok : whereC.H.ok PP 21 := by
  refine whereC.ok_of (one_wfl fun _ => rfl) ?_
  refine hc_of mixed (fn := Try.f21) (c := c21) rfl rfl whereC.U (fun x => rfl) ?_
  rintro ⟨⟨R, t⟩, (y : RmIn)⟩ ⟨-, hrel⟩
  have hrel : RmRel R y := hrel
  refine ⟨e0, env_ok .., rfl, hold (where_vc R t y) ?_⟩
  simp only [true_and, and_true]
  refine ⟨((), y, ()), hrel, ⟨?_, ?_, by rw [hrel.ts]⟩, rfl, rfl, rfl, rfl⟩ <;>
  · unfold placeOf
    rw [hrel.ts]
    cases lookL y.ts t <;> rfl
theorem forget_ok : forgetC.H.ok PP 11 := by
  refine forgetC.ok_of (one_wf fun _ => rfl) ?_
  refine hc_of mixed (fn := Try.f11) (c := c11) rfl rfl forgetC.U (fun x => rfl) ?_
  rintro ⟨⟨R, t⟩, (y : RmIn)⟩ ⟨-, hrel⟩
  have hrel : RmRel R y := hrel
  refine ⟨e0, env_ok .., rfl, hold (forget_vc R t y) ?_⟩
  simp only [true_and, and_true]
  refine ⟨((), ⟨y.la, delL y.ts t, delL y.hs t, y.os⟩, ()), ?_, by rw [hrel.ts], rfl, rfl, rfl, rfl⟩
  have h1 := rel_del (t := t) hrel
  have h2 := rel_tk h1 (la := y.la) (ts := delL y.ts t) (List.Nodup.sublist ((delL_sub _ _).map _) hrel.tkeys)
  have : forgetR R t = (y.la, delL y.ts t, als (last R, tks R, delL (als R) t)) := by
    unfold forgetR
    rw [hrel.la, hrel.ts]; rfl
  rw [this]; exact h2
theorem wait_ok : waitC.H.ok PP 10 := by
  refine waitC.ok_of (one_wf fun _ => rfl) ?_
  refine hc_of mixed (fn := Try.f10) (c := c10) rfl rfl waitC.U (fun x => rfl) ?_
  rintro ⟨⟨R, t, seg, off⟩, (y : RmIn)⟩ ⟨-, hrel⟩
  have hrel : RmRel R y := hrel
  refine ⟨eP [p26], env_ok .., rfl, hold (wait_vc R t seg off y) ?_⟩
  simp only [true_and, and_true]
  have bad : waitR R t seg off = (1, R) → ∃ (y_1 : Unit × Tup KR (1 : Nat)), RmRel (waitR R t seg off).snd y_1.snd.fst ∧ (1 : Int) = (waitR R t seg off).fst ∧ y.la = y_1.snd.fst.la ∧ y.ts = y_1.snd.fst.ts ∧ y.hs = y_1.snd.fst.hs ∧ y.os = y_1.snd.fst.os := by
    intro e; rw [e]; exact ⟨((), y, ()), hrel, rfl, rfl, rfl, rfl, rfl⟩
  refine ⟨fun h1 => ⟨fun h2 => ⟨fun h3 => ⟨fun h4 => bad ?_, fun h4 => ⟨fun h5 => ?_, fun h5 hl => ⟨fun h6 => ?_, fun h6 => ?_⟩⟩⟩, fun h3 => bad ?_⟩, fun h2 => bad ?_⟩, fun h1 => bad ?_⟩
  · simp [waitR, h4]
  · have hc : (!idB t || !idB seg || decide (off < 0) || decide (off ≥ 4096)) = false := by simp only [h1, h2, h3, h4]; rfl
    have h5' : (lookL (tks R) t).isSome = true := by rw [hrel.ts]; exact h5
    have : waitR R t seg off = (8, R) := by simp only [waitR, hc, h5']; rfl
    rw [this]; exact ⟨((), y, ()), hrel, rfl, rfl, rfl, rfl, rfl⟩
  · have hc : (!idB t || !idB seg || decide (off < 0) || decide (off ≥ 4096)) = false := by simp only [h1, h2, h3, h4]; rfl
    have h5' : (lookL (tks R) t).isSome = false := by rw [hrel.ts]; exact h5
    have h6' : alOf R t ≠ [] := fun e => by have := rel_len hrel t; rw [e] at this; simp at h6 this; omega
    have : waitR R t seg off = (10, R) := by simp only [waitR, hc, h5', h6']; simp [h6']
    rw [this]; exact ⟨((), y, ()), hrel, rfl, rfl, rfl, rfl, rfl⟩
  · have hc : (!idB t || !idB seg || decide (off < 0) || decide (off ≥ 4096)) = false := by simp only [h1, h2, h3, h4]; rfl
    have h5' : (lookL (tks R) t).isSome = false := by rw [hrel.ts]; exact h5
    have h6' : alOf R t = [] := List.eq_nil_of_length_eq_zero (by rw [rel_len hrel t]; simp at h6; omega)
    have : waitR R t seg off = (0, (IntKind.i64.wrap (y.la + 1), insL y.ts t ((seg, off), IntKind.i64.wrap (y.la + 1)), als R)) := by
      unfold waitR
      rw [hc, h5', h6', hrel.la, hrel.ts]; simp
    rw [this]
    exact ⟨((), ⟨IntKind.i64.wrap (y.la + 1), insL y.ts t ((seg, off), IntKind.i64.wrap (y.la + 1)), y.hs, y.os⟩, ()), rel_tk hrel (nodup_insL _ _ _ hrel.tkeys), rfl, rfl, rfl, rfl, rfl⟩
  · have h3' : decide (off < 0) = true := by simpa using h3
    simp [waitR, h3']
  · have h2' : (!idB seg) = true := by simpa using h2
    simp only [waitR, h2']; simp
  · have h1' : (!idB t) = true := by simpa using h1
    simp only [waitR, h1']; simp
theorem post_ok : postC.H.ok PP 16 := by
  refine postC.ok_of (one_wf fun _ => rfl) ?_
  refine hc_of mixed (fn := Try.f16) (c := c16) rfl rfl postC.U (fun x => rfl) ?_
  rintro ⟨⟨R, t, c⟩, (y : RmIn)⟩ ⟨-, hrel⟩
  have hrel : RmRel R y := hrel
  refine ⟨env PP [p26] [s30] [] [] [], env_ok .., rfl, hold (post_vc R t c y) ?_⟩
  simp only [true_and, and_true]
  have bad : ∀ e : Int, postR R t c = (false, e, R) → ∃ (y_1 : Unit × Tup KR (1 : Nat)), RmRel (postR R t c).snd.snd y_1.snd.fst ∧ (false = (postR R t c).fst ∧ e = (postR R t c).snd.fst) ∧ y.la = y_1.snd.fst.la ∧ y.ts = y_1.snd.fst.ts ∧ y.hs = y_1.snd.fst.hs ∧ y.os = y_1.snd.fst.os := by
    intro e he; rw [he]; exact ⟨((), y, ()), hrel, ⟨rfl, rfl⟩, rfl, rfl, rfl, rfl⟩
  refine ⟨fun h1 => ⟨fun h2 => ⟨fun h3 => bad 1 ?_, fun h3 hl => ⟨fun h4 => bad 7 ?_, fun h4 => ⟨⟨rel_in hrel t⟩, ?_, fun h' os' ha => ?_⟩⟩⟩, fun h2 => bad 1 ?_⟩, fun h1 => bad 1 ?_⟩
  · simp [postR, h3]
  · have hc : (!idB t || decide (c < 0) || decide (c > 255)) = false := by simp only [h1, h2, h3]; rfl
    have h4' : (alOf R t).length ≥ 8 := by rw [rel_len hrel t]; simp at h4; omega
    unfold postR
    rw [hc, if_neg (by simp), if_pos h4']
  · simp at h4
    simp only [List.length_singleton]; omega
  · have hc : (!idB t || decide (c < 0) || decide (c > 255)) = false := by simp only [h1, h2, h3]; rfl
    have h4' : ¬ (alOf R t).length ≥ 8 := by rw [rel_len hrel t]; simp at h4; omega
    have hp : postR R t c = ((lookL (tks R) t).isSome, 0, (y.la, delL y.ts t, insL (als R) t (alOf R t ++ [c]))) := by
      unfold postR
      rw [hc, if_neg (by simp), if_neg h4', hrel.la, hrel.ts]
    rw [hp]
    refine ⟨((), ⟨y.la, delL y.ts t, insL y.hs t h', os'⟩, ()), ?_, ⟨by rw [hrel.ts], rfl⟩, rfl, rfl, rfl, rfl⟩
    exact rel_tk (rel_app hrel ha) (la := y.la) (ts := delL y.ts t) (List.Nodup.sublist ((delL_sub _ _).map _) hrel.tkeys)
  · have h2' : decide (c < 0) = true := by simpa using h2
    simp [postR, h2']
  · have h1' : (!idB t) = true := by simpa using h1
    simp only [postR, h1']; simp
theorem take_ok : takeC.H.ok PP 17 := by
  refine takeC.ok_of (one_wf fun _ => rfl) ?_
  refine hc_of mixed (fn := Try.f17) (c := c17) rfl rfl takeC.U (fun x => rfl) ?_
  rintro ⟨⟨R, t⟩, (y : RmIn)⟩ ⟨-, hrel⟩
  have hrel : RmRel R y := hrel
  refine ⟨env PP [] [s31] [] [] [], env_ok .., rfl, hold (take_vc R t y) ?_⟩
  simp only [true_and, and_true, Option.getD_none, Option.getD_some, Int.toNat_natCast]
  have hlen := rel_len hrel t
  intro hl
  refine ⟨fun h1 _ => ⟨fun _ => ?_, fun h2 => by rw [h1] at h2; cases h2⟩, fun h1 => ⟨⟨by omega, by simp at h1; omega⟩, ?_, ?_⟩⟩
  · have hz : alOf R t = [] := List.eq_nil_of_length_eq_zero (by rw [hlen]; simp at h1; omega)
    have hT : takeR R t = (0, false, (y.la, y.ts, delL (als R) t)) := by unfold takeR; rw [hz, hrel.la, hrel.ts]
    rw [hT]
    refine ⟨((), ⟨y.la, y.ts, delL y.hs t, y.os⟩, ()), ?_, ⟨rfl, rfl⟩, rfl, rfl, by rw [delL_insL], rfl⟩
    exact rel_tk (rel_del hrel) hrel.tkeys
  all_goals
    have hpos : 0 < ((lookL y.hs t).getD nilHd).len := by simp at h1; omega
    have hfirst : famGet y.os (((lookL y.hs t).getD nilHd).b.getD 0) (((lookL y.hs t).getD nilHd).off + 0) = (alOf R t).head? := by
      rw [rel_al hrel]
      have hin := rel_in hrel t
      generalize (lookL y.hs t).getD nilHd = hh at hin hpos ⊢
      obtain ⟨b, off, len, cap⟩ := hh
      simp only at hpos
      cases b with
      | none => have : len = 0 := hin; omega
      | some g =>
        obtain ⟨n, xs, hl2, i1, i2, i3⟩ := hin
        simp only at i1 i2 i3
        simp only [famGet, Option.getD_some, hl2, Option.bind_some, rdH, Option.map_some, Nat.add_zero]
        rw [List.head?_eq_getElem?, List.getElem?_take_of_lt hpos, List.getElem?_drop, Nat.add_zero]
  · cases ha : alOf R t with
    | nil => rw [ha] at hlen; simp at hlen; omega
    | cons c l => exact ⟨c, by rw [hfirst, ha]; rfl⟩
  · intro c hc
    rw [hfirst] at hc
    cases ha : alOf R t with
    | nil => rw [ha] at hc; cases hc
    | cons c' l =>
      rw [ha] at hc
      obtain rfl : c' = c := by simpa using hc
      have hll : l.length + 1 = ((lookL y.hs t).getD nilHd).len := by rw [← hlen, ha]; rfl
      refine ⟨⟨by omega, by omega, by omega, by omega⟩, fun _ => ⟨fun h2 => ?_, fun h2 => ?_⟩⟩
      · have hz : l = [] := List.eq_nil_of_length_eq_zero (by simp [subH] at h2; omega)
        have hT : takeR R t = (c', true, (y.la, y.ts, delL (als R) t)) := by unfold takeR; rw [ha, hrel.la, hrel.ts]; simp [hz]
        rw [hT]
        refine ⟨((), ⟨y.la, y.ts, delL y.hs t, y.os⟩, ()), ?_, ⟨rfl, rfl⟩, rfl, rfl, by rw [delL_insL], rfl⟩
        exact rel_tk (rel_del hrel) hrel.tkeys
      · have hz : l ≠ [] := fun e => by subst e; simp [subH] at h2 hll; omega
        have hT : takeR R t = (c', true, (y.la, y.ts, insL (als R) t l)) := by unfold takeR; rw [ha, hrel.la, hrel.ts]; simp [hz]
        rw [hT]
        refine ⟨((), ⟨y.la, y.ts, insL y.hs t (subH ((lookL y.hs t).getD nilHd) 1 ((lookL y.hs t).getD nilHd).len), y.os⟩, ()), ?_, ⟨rfl, rfl⟩, rfl, rfl, rfl, rfl⟩
        have hin := rel_in hrel t
        have hcap : ((lookL y.hs t).getD nilHd).len ≤ ((lookL y.hs t).getD nilHd).cap := by
          unfold hdIn at hin
          split at hin
          · obtain ⟨_, _, _, _, _, h⟩ := hin; exact h
          · omega
        have := rel_cut hrel hpos hcap
        rw [ha] at this
        exact rel_tk this hrel.tkeys
theorem alerts_ok : alertsC.H.ok PP 18 := by
  refine alertsC.ok_of (one_wfl fun _ => rfl) ?_
  refine hc_ofP Fin.frz mixed (fn := Try.f18) (c := c18) rfl rfl alertsC.U (fun x => rfl) ?_
  rintro ⟨⟨R, t⟩, (y : RmIn)⟩ ⟨hsh, hrel⟩
  have hrel : RmRel R y := hrel
  have hsh : shortA R := hsh
  refine ⟨env PP [] [b32] [] [] [], env_ok .., rfl, hold (alerts_vc R t y) ?_⟩
  simp only [true_and, and_true]
  refine ⟨⟨rel_in hrel t⟩, ?_, ((), y, ()), hrel, (rel_al hrel t).symm, rfl, rfl, rfl, rfl⟩
  rw [← rel_al hrel]
  simp only [shortB, decide_eq_true_eq]
  unfold alOf
  cases hl : lookL (als R) t with
  | none => simp
  | some x => exact hsh _ (lookL_mem hl)
end Go.Proofs.Ytfdcmbaoekjkgaa
namespace Go.Proofs.Ytfdcmbaoekjkgaa
open Go.Proofs.Ytfdcmbaoekjkgaa.Gx
set_option linter.unusedSimpArgs false
set_option linter.unusedVariables false
def tkOf (ts : List (Int × Tk)) (k : Int) : Tk := (lookL ts k).getD ((0, 0), 0)
def noOf (ts : List (Int × Tk)) (k : Int) : Int := (tkOf ts k).2
/-- In the order in which they came. -/
structure Row (ts : List (Int × Tk)) (xs ys : List Int) : Prop where
  perm : ys.Perm xs
  sorted : ys.Pairwise fun a b => noOf ts a ≤ noOf ts b
def sortS : Gx.Spec := fun ss S K => match ss with
  | [.row j, .fn f [.ptr q 0]] => match Nat.beq f 45, S.res[j]?, S.res[q]? with
    | true, some (.row e t xs), some (.blk _ [.ptr r 0]) => match Nat.beq e 3, decEq t i64, S.res[r]? with
      | true, .isTrue h, some (.blk _ [_, .mp m, _]) => match S.res[m]? with
        | some (.mapr kk ag vt ts none) => match decEq kk .i64, ag, decEq vt tkT with
          | .isTrue _, true, .isTrue h2 => xs.length < 4611686018427387904 ∧ ∀ ys : List Int, Row (Eq.rec (motive := fun u _ => List (Int × u.den)) ts h2) (Eq.rec (motive := fun u _ => List u.den) xs h) ys → K (.tup []) { S with res := S.res.set j (.row 3 i64 ys) }
          | _, _, _ => False
        | _ => False
      | _, _, _ => False
    | _, _, _ => False
  | _ => False
def keysAt (ts : List (Int × Tk)) (p : Int × Int → Bool) : List Int := (ts.map (·.1)).filter fun k => p (tkOf ts k).1
def fewT (R : Rm) : Prop := (tks R).length ≤ 1000000000000
/-- A method that gives some of those that wait. -/
def those (α : Type) (inn : α → rmT.den) (ss : α → List SV) (p : α → Int × Int → Bool) : PC1 KR where
  α := α
  inn := inn
  ss := ss
  pre := fun x => fewT (inn x)
  alts := [{ β := List Int, k := 1, post := fun x ys => Row (tks (inn x)) (keysAt (tks (inn x)) (p x)) ys, r := fun _ ys => .rs i64 ys, outs := fun x _ => [inn x] }]
def atP (seg off : Int) (q : Int × Int) : Bool := q.1 == seg && q.2 == off
def inP (seg : Int) (q : Int × Int) : Bool := q.1 == seg
def listC : PC1 KR := those (Rm × Int × Int) (fun x => x.1) (fun x => [.ptr 0 0, .int .i64 x.2.1, .int .i64 x.2.2]) (fun x => atP x.2.1 x.2.2)
def delAll (ts : List (Int × Tk)) (l : List Int) : List (Int × Tk) := l.foldl delL ts
def freeC : PC1 KR := turns (Rm × List Int) (fun x => x.1) (fun x => [.ptr 0 0, .rs i64 x.2]) (fun _ => True) (fun x => .rs i64 x.2) (fun x => (last x.1, delAll (tks x.1) x.2, als x.1))
/-- The same, and they wait no more. -/
def wakes (α : Type) (inn : α → rmT.den) (ss : α → List SV) (p : α → Int × Int → Bool) : PC1 KR where
  α := α
  inn := inn
  ss := ss
  pre := fun x => fewT (inn x)
  alts := [{ β := List Int, k := 1, post := fun x ys => Row (tks (inn x)) (keysAt (tks (inn x)) (p x)) ys, r := fun _ ys => .rs i64 ys, outs := fun x ys => [(last (inn x), delAll (tks (inn x)) ys, als (inn x))] }]
def wakeC : PC1 KR := wakes (Rm × Int × Int) (fun x => x.1) (fun x => [.ptr 0 0, .int .i64 x.2.1, .int .i64 x.2.2]) (fun x => atP x.2.1 x.2.2)
def closeC : PC1 KR := wakes (Rm × Int) (fun x => x.1) (fun x => [.ptr 0 0, .int .i64 x.2]) (fun x => inP x.2)
def useRm (C : PC1 KR) (rs : List Nat) (mk : rmT.den → List SV → Option C.α) : Gx.Spec := hspec C.H rs fun ss S => match ss with
  | .ptr j 0 :: rest => match S.res[j]? with
    | some (.cust t _ x) => match decEq t rmT with
      | .isTrue h => match mk (h ▸ x) rest with
        | some a => some ([j], a)
        | none => none
      | _ => none
    | _ => none
  | _ => none
end Go.Proofs.Ytfdcmbaoekjkgaa
namespace Go.Proofs.Ytfdcmbaoekjkgaa
open Go.Proofs.Ytfdcmbaoekjkgaa.Gx
set_option maxRecDepth 100000
set_option linter.unusedVariables false
set_option maxHeartbeats 0
def cmpQ : PSpecs := fun f => match Nat.beq f 46 with
  | true => some (Q [i64, i64] [i64] (fun _ => true) (fun x => (cmpI x.1 x.2.1, ())))
  | false => none
def cmpS (ty1 ty2 : TypeId) (x0 x2 : SV) (ts : List (Int × Tk)) : St := { fr := { n := 0, tm := [] }, stk := [], res := [.blk ty1 [.ptr 1 0], .blk ty2 [x0, .mp 2, x2], .mapr .i64 true tkT ts none] }
theorem less_vc (x y : Int) (ty1 ty2 : TypeId) (x0 x2 : SV) (ts : List (Int × Tk)) : (rvc PP cmpQ c45 (enterS 21 [.int .i64 x, .int .i64 y, .ptr 0 0] (cmpS ty1 ty2 x0 x2 ts)) fun S' => retS PP S' Try.f45.results.toList fun rs => resSV rs = .int .i64 (cmpI (noOf ts x) (noOf ts y))) = (
  true = true ∧ SV.int IntKind.i64 (cmpI ((lookL ts x).getD (((0 : Int), (0 : Int)), (0 : Int))).snd ((lookL ts y).getD (((0 : Int), (0 : Int)), (0 : Int))).snd) = SV.int IntKind.i64 (cmpI (noOf ts x) (noOf ts y))) := by kernel_rfl
end Go.Proofs.Ytfdcmbaoekjkgaa
namespace Go.Proofs.Ytfdcmbaoekjkgaa
open Go.Shelf
def Try.sort44_ren : Go.Shelf.Ren := ⟨fun | 6 => 44 | 15 => 51 | 14 => 50 | 28 => 61 | 29 => 62 | 20 => 53 | 21 => 54 | 22 => 55 | 23 => 56 | 24 => 57 | 25 => 58 | 26 => 59 | 27 => 60 | 46 => 63 | 47 => 64 | 48 => 65 | 49 => 66 | 50 => 67 | 57 => 68 | n => n, fun | 22 => 22 | 24 => 3 | 25 => 77 | 3 => 3 | 39 => 83 | 0 => 0 | 53 => 92 | 55 => 94 | 4 => 4 | 46 => 86 | 45 => 85 | 50 => 36 | 5 => 5 | 9 => 9 | 66 => 95 | 70 => 99 | 76 => 101 | 77 => 102 | n => n, fun | n => n⟩
theorem Try.sort44 : Go.Proofs.SlLaysF.n6 Try.prog Try.sort44_ren := {
  mixed := by kernel_rfl
  f6 := ⟨Try.f44.name, by decide, Try.func44.trans (congrArg some (by kernel_rfl))⟩
  f14 := ⟨Try.f50.name, by decide, Try.func50.trans (congrArg some (by kernel_rfl))⟩
  f15 := Try.func51.trans (congrArg some (by kernel_rfl))
  f20 := ⟨Try.f53.name, by decide, Try.func53.trans (congrArg some (by kernel_rfl))⟩
  f21 := ⟨Try.f54.name, by decide, Try.func54.trans (congrArg some (by kernel_rfl))⟩
  f22 := ⟨Try.f55.name, by decide, Try.func55.trans (congrArg some (by kernel_rfl))⟩
  f23 := ⟨Try.f56.name, by decide, Try.func56.trans (congrArg some (by kernel_rfl))⟩
  f24 := ⟨Try.f57.name, by decide, Try.func57.trans (congrArg some (by kernel_rfl))⟩
  f25 := ⟨Try.f58.name, by decide, Try.func58.trans (congrArg some (by kernel_rfl))⟩
  f26 := ⟨Try.f59.name, by decide, Try.func59.trans (congrArg some (by kernel_rfl))⟩
  f27 := ⟨Try.f60.name, by decide, Try.func60.trans (congrArg some (by kernel_rfl))⟩
  f28 := Try.func61.trans (congrArg some (by kernel_rfl))
  f29 := Try.func62.trans (congrArg some (by kernel_rfl))
  f46 := ⟨Try.f63.name, by decide, Try.func63.trans (congrArg some (by kernel_rfl))⟩
  f47 := Try.func64.trans (congrArg some (by kernel_rfl))
  f48 := Try.func65.trans (congrArg some (by kernel_rfl))
  f49 := ⟨Try.f66.name, by decide, Try.func66.trans (congrArg some (by kernel_rfl))⟩
  f50 := ⟨Try.f67.name, by decide, Try.func67.trans (congrArg some (by kernel_rfl))⟩
  f57 := ⟨Try.f68.name, by decide, Try.func68.trans (congrArg some (by kernel_rfl))⟩
  t0 := Try.underlying0
  a0 := Try.isAgg0
  z0 := Try.sizeOf0
  v0 := Try.zeroValue0
  t3 := Try.underlying3
  a3 := Try.isAgg3
  z3 := Try.sizeOf3
  v3 := Try.zeroValue3
  t4 := Try.underlying4
  a4 := Try.isAgg4
  z4 := Try.sizeOf4
  v4 := Try.zeroValue4
  t5 := Try.underlying5
  a5 := Try.isAgg5
  z5 := Try.sizeOf5
  v5 := Try.zeroValue5
  t9 := Try.underlying9
  a9 := Try.isAgg9
  z9 := Try.sizeOf9
  v9 := Try.zeroValue9
  t22 := Try.underlying22
  a22 := Try.isAgg22
  z22 := Try.sizeOf22
  v22 := Try.zeroValue22
  a24 := Try.isAgg3
  z24 := Try.sizeOf3
  t25 := Try.underlying77
  a25 := Try.isAgg77
  z25 := Try.sizeOf77
  v25 := Try.zeroValue77
  t39 := Try.underlying83
  a39 := Try.isAgg83
  z39 := Try.sizeOf83
  v39 := Try.zeroValue83
  t45 := Try.underlying85
  a45 := Try.isAgg85
  z45 := Try.sizeOf85
  v45 := Try.zeroValue85
  t46 := Try.underlying86
  a46 := Try.isAgg86
  z46 := Try.sizeOf86
  v46 := Try.zeroValue86
  t50 := Try.underlying36
  a50 := Try.isAgg36
  z50 := Try.sizeOf36
  v50 := Try.zeroValue36
  t53 := Try.underlying92
  a53 := Try.isAgg92
  z53 := Try.sizeOf92
  v53 := Try.zeroValue92
  t55 := Try.underlying94
  a55 := Try.isAgg94
  z55 := Try.sizeOf94
  v55 := Try.zeroValue94
  t66 := Try.underlying95
  a66 := Try.isAgg95
  z66 := Try.sizeOf95
  v66 := Try.zeroValue95
  t70 := Try.underlying99
  a70 := Try.isAgg99
  z70 := Try.sizeOf99
  v70 := Try.zeroValue99
  t76 := Try.underlying101
  a76 := Try.isAgg101
  z76 := Try.sizeOf101
  v76 := Try.zeroValue101
  t77 := Try.underlying102
  a77 := Try.isAgg102
  z77 := Try.sizeOf102
  v77 := Try.zeroValue102 }
def Try.clone34_ren : Go.Shelf.Ren := ⟨fun | 5 => 34 | 7 => 47 | n => n, fun | 23 => 56 | 25 => 3 | 3 => 63 | 4 => 4 | 20 => 20 | n => n, fun | n => n⟩
theorem Try.clone34 : Go.Proofs.SlLaysW.n5 Try.prog Try.clone34_ren := {
  mixed := by kernel_rfl
  f5 := ⟨Try.f34.name, by decide, Try.func34.trans (congrArg some (by kernel_rfl))⟩
  f7 := Try.func47.trans (congrArg some (by kernel_rfl))
  t4 := Try.underlying4
  a4 := Try.isAgg4
  z4 := Try.sizeOf4
  v4 := Try.zeroValue4
  t20 := Try.underlying20
  a20 := Try.isAgg20
  z20 := Try.sizeOf20
  v20 := Try.zeroValue20
  t23 := Try.underlying56
  a23 := Try.isAgg56
  z23 := Try.sizeOf56
  v23 := Try.zeroValue56 }
def Try.cmp46_ren : Go.Shelf.Ren := ⟨fun | 5 => 46 | 7 => 52 | n => n, fun | 22 => 3 | 3 => 3 | 4 => 4 | n => n, fun | n => n⟩
theorem Try.cmp46 : Go.Proofs.SlLaysC2.n5 Try.prog Try.cmp46_ren := {
  mixed := by kernel_rfl
  f5 := ⟨Try.f46.name, by decide, Try.func46.trans (congrArg some (by kernel_rfl))⟩
  f7 := ⟨Try.f52.name, by decide, Try.func52.trans (congrArg some (by kernel_rfl))⟩
  t3 := Try.underlying3
  a3 := Try.isAgg3
  z3 := Try.sizeOf3
  v3 := Try.zeroValue3
  t4 := Try.underlying4
  a4 := Try.isAgg4
  z4 := Try.sizeOf4
  v4 := Try.zeroValue4
  t22 := Try.underlying3
  a22 := Try.isAgg3
  z22 := Try.sizeOf3
  v22 := Try.zeroValue3 }
end Go.Proofs.Ytfdcmbaoekjkgaa
namespace Go.Proofs.Ytfdcmbaoekjkgaa
open Go.Proofs.Ytfdcmbaoekjkgaa.Gx Go.RowKit Go.Sort Go.Shelf
set_option maxRecDepth 100000
set_option maxHeartbeats 4000000
set_option linter.unusedSimpArgs false
set_option linter.unusedVariables false
theorem cmpI_eq (a b : Int) : Lib.compareInt a b = cmpI a b := by
  unfold Lib.compareInt cmpI
  by_cases h1 : a < b
  · simp [h1]
  · by_cases h2 : b < a <;> simp [h1, h2]
theorem cmp_exact : PSpecs.exact PP cmpQ := by
  intro f q hq
  unfold cmpQ at hq
  split at hq
  · rename_i e
    obtain rfl : f = 46 := Nat.eq_of_beq_eq_true e
    cases hq
    refine ⟨rfl, ?_⟩
    intro ρ I w ss vs pre s hd hqs hpre
    unfold Q at hqs
    split at hqs
    · rename_i x hx
      simp only [Option.some.injEq, Prod.mk.injEq] at hqs
      obtain ⟨_, rfl⟩ := hqs
      have hd' := asArgs_den _ hd hx
      obtain ⟨a, b, ⟨⟩⟩ := x
      have hvs : vs = [.int .i64 a, .int .i64 b] := by
        have hd'' : SV.denL ρ I w [.int .i64 a, .int .i64 b] vs := hd'
        simp only [SV.denL, SV.den] at hd''
        obtain ⟨v, vs', rfl, rfl, v2, vs2, rfl, rfl, rfl⟩ := hd''
        rfl
      subst hvs
      refine (AnyG.cmp_Compare_int Try.cmp46 a b w).mono ?_
      rintro e w' ⟨rfl, rfl⟩
      refine ⟨_, rfl, rfl, ?_⟩
      show SV.den [] I w' (.int .i64 (cmpI a b)) _
      unfold SV.den
      rw [cmpI_eq]
    · cases hqs
  · cases hq
def lessOf (ts : List (Int × Tk)) (x y : Int) : Int := cmpI (noOf ts x) (noOf ts y)
theorem less_iff (ts : List (Int × Tk)) (x y : Int) : ltOf (lessOf ts) x y = decide (noOf ts x < noOf ts y) := by
  unfold ltOf lessOf cmpI
  by_cases h1 : noOf ts x < noOf ts y
  · simp [h1]
  · by_cases h2 : noOf ts x > noOf ts y <;> simp [h1, h2]
theorem less_swo (ts : List (Int × Tk)) : SWO (ltOf (lessOf ts)) where
  irrefl x := by rw [less_iff]; simp
  trans x y z h1 h2 := by rw [less_iff] at *; simp at *; omega
  ntrans x y z h1 h2 := by rw [less_iff] at *; simp at *; omega
theorem ints_of {I : Nat → Prop} {w : World} : (xs : List Int) → {cs : List Value} → RdL I w i64 xs cs → cs = xs.map (Value.int .i64)
  | [], _, h => h
  | x :: xs, _, h => by
    obtain ⟨c1, c2, rfl, h1, h2⟩ := h
    rw [ints_of xs h2, show c1 = [Value.int .i64 x] from h1]; rfl
theorem of_ints {I : Nat → Prop} {w : World} : (xs : List Int) → RdL I w i64 xs (xs.map (Value.int .i64))
  | [] => rfl
  | x :: xs => ⟨[.int .i64 x], _, rfl, rfl, of_ints xs⟩
theorem row_of {ts : List (Int × Tk)} {d d' : Array Int} (hp : PermIn 0 d.size d d') (hs : SortedIn (ltOf (lessOf ts)) 0 d.size d') : Row ts d.toList d'.toList := by
  obtain ⟨h1, _, h3⟩ := hp
  refine ⟨?_, ?_⟩
  · have e1 : d'.extract 0 d.size = d' := by rw [← h1]; simp
    rw [e1] at h3
    simpa using h3
  · rw [List.pairwise_iff_getElem]
    intro i j hi hj hij
    have := hs i j (Nat.zero_le _) hij (by simp at hj; omega)
    rw [less_iff] at this
    simp only [decide_eq_false_iff_not, Int.not_lt] at this
    have hi' : i < d'.size := by simpa using hi
    have hj' : j < d'.size := by simpa using hj
    rw [getElem!_pos d' i hi', getElem!_pos d' j hj'] at this
    simpa using this
theorem sort_ok : hasBody PP 44 = true ∧ SpecOk PP 44 sortS := by
  refine ⟨rfl, ?_⟩
  intro cx S a w sv ss vs K h hk
  unfold sortS at hk
  split at hk
  rotate_left
  · exact hk.elim
  rename_i j f q
  split at hk
  rotate_left
  · exact hk.elim
  rename_i e t xs tyq r hf45 hj hq
  obtain rfl : f = 45 := Nat.eq_of_beq_eq_true hf45
  split at hk
  rotate_left
  · exact hk.elim
  rename_i ht tyr x0 m x2 he3 hteq hr
  obtain rfl : e = 3 := Nat.eq_of_beq_eq_true he3
  subst ht
  split at hk
  rotate_left
  · exact hk.elim
  rename_i kk ag vt ts hm
  split at hk
  rotate_left
  · exact hk.elim
  rename_i _ hkk hvt _ _
  subst hkk
  subst hvt
  obtain ⟨hlen, hk⟩ := hk
  simp only at hlen hk
  obtain ⟨ρ, I, F, hM, hfr, hs, hd⟩ := h
  have hjl := (List.getElem?_eq_some_iff.1 hj).1
  obtain ⟨v, cells, hv, ho, hrd, hF⟩ := hM.holds _ _ hj
  obtain ⟨bq, vq, hbq, hhq, hdq, hFq⟩ := hM.holds _ _ hq
  have hvs : vs = [v, .func (.func 45) #[] #[.pointer (some ⟨bq, 0, none⟩)]] := by
    simp only [SV.denL, SV.den] at hd
    obtain ⟨v1, vs1, rfl, ⟨h1, _⟩, v2, vs2, rfl, ⟨us, rfl, v3, vs3, rfl, ⟨b3, h3, rfl⟩, rfl⟩, rfl⟩ := hd
    rw [hv] at h1; cases h1
    rw [hbq] at h3; cases h3
    rfl
  subst hvs
  have hcs := ints_of xs hrd
  have stay : ∀ (w' : World) (ys : List Int), Row ts xs ys → w.heap.size ≤ w'.heap.size → w'.os = w.os → w'.tape = w.tape → w'.output = w.output → (∀ k, k < w.heap.size → v.ownBlock ≠ some k → w'.heap[k]? = w.heap[k]?) → w'.ownsRow 0 3 i64.sz v ys.length (ys.map (Value.int .i64)) → ∃ v' s S', Ending.returned (Value.tuple #[]) = Ending.returned v' ∧ Ok cx S' a w' sv [s] [v'] ∧ K s S' := by
    intro w' ys hrow hsize hos htape hout hsame hown
    have hsameI : ∀ k, I k → w'.heap[k]? = w.heap[k]? := fun k hk => hsame k (hM.Ilt k hk) (fun e => hM.notI j k hjl ((hF k).2 e) hk)
    have hM' := Mem.change (w' := w') (ρ' := ρ) hM hjl (.row 3 i64 ys) (F j) id rfl hM.ones (fun k hk hnf => hsame k hk (fun e => hnf ((hF k).2 e))) hsize hos htape hout
      (fun k hk => ⟨.inl hk, by have := hM.lt j k hjl hk; omega⟩)
      (fun j' y' hji hy hh => Res.keep (fun _ _ h => h) (fun _ h => h) hsameI (fun k hk => hsame k (hM.lt j' k (List.getElem?_eq_some_iff.1 hy).1 hk) (fun e => hM.apart j' j k (List.getElem?_eq_some_iff.1 hy).1 hjl hji hk ((hF k).2 e))) y' hh)
      ⟨v, _, hv, hown, of_ints ys, hF⟩
    rw [List.map_id] at hM'
    refine ⟨_, .tup [], { S with res := S.res.set j (.row 3 i64 ys) }, rfl, ⟨ρ, I, _, hM', hfr.keep (fun _ _ h => h) (fun _ h => h) hsameI, StkOk.keep (fun _ _ h => h) (fun _ h => h) hsameI _ hs, ?_⟩, hk ys hrow⟩
    unfold SV.denL SV.den
    exact ⟨_, [], rfl, ⟨[], rfl, by simp [SV.denL]⟩, by simp [SV.denL]⟩
  rcases ho.2 with ⟨rfl, hn⟩ | ⟨g, cap, cur, rfl, -, hh, hnc, hcap, hsz, htk⟩
  · have hx : xs = [] := List.eq_nil_of_length_eq_zero hn
    subst hx
    refine (AnyF.slices_SortFunc_none (P := PP) (ρ := Try.sort44_ren) { Try.sort44 with } none 0 _ w).mono ?_
    rintro e w' ⟨rfl, rfl⟩
    exact stay w' [] ⟨List.Perm.refl _, List.Pairwise.nil⟩ (Nat.le_refl _) rfl rfl rfl (fun _ _ _ => rfl) (by have hc : cells = [] := hcs; rw [hc] at ho; exact ho)
  · have hgl : g < w.heap.size := (Array.getElem?_eq_some_iff.1 hh).1
    have hs1 : Ty.sz i64 = 1 := rfl
    rw [hs1, Nat.mul_one] at hsz htk
    have hget : ∀ i, i < xs.length → cur[i]? = some (.int .i64 (xs.toArray[i]!)) := by
      intro i hi
      have h1 : (cur.toList.take xs.length)[i]? = some (.int .i64 xs[i]) := by
        rw [htk, hcs, List.getElem?_map, List.getElem?_eq_getElem hi]; rfl
      rw [List.getElem?_take_of_lt hi] at h1
      rw [← Array.getElem?_toList, h1]
      simp [hi]
    have hH : Sort.Holds (Value.int .i64) w g 0 xs.toArray := by
      intro i hi
      have hi : i < xs.length := by simpa using hi
      refine ⟨?_, ?_⟩
      · simp only [World.cell?, hh, Nat.zero_add]
        exact hget i hi
      · simp [World.frozen?, hh]
    have hheap : ∀ (n : Nat) (dk : Array Int) (os : Array Obj) k, k < w.heap.size → (sortWorld (Value.int .i64) w g 0 n dk os).heap[k]? = if k = g then some (.cells (putCells (Value.int .i64) 0 dk cur) 3 (0, 0)) else w.heap[k]? := by
      intro n dk os k hk
      simp only [sortWorld, grow, putRow, mapBlock, Sort.ahead]
      rw [Array.getElem?_append_left (by simpa using hk), Array.getElem?_modify]
      by_cases e : g = k
      · subst e; rw [if_pos rfl, if_pos rfl, hh]; rfl
      · rw [if_neg e, if_neg (fun h => e h.symm)]
    have hsize : ∀ (n : Nat) (dk : Array Int) (os : Array Obj), w.heap.size ≤ (sortWorld (Value.int .i64) w g 0 n dk os).heap.size := by
      intro n dk os
      simp [sortWorld, grow, putRow, mapBlock, Sort.ahead]
    have hFg : ∀ k, F j k ↔ g = k := fun k => by rw [hF k]; simp [Value.ownBlock]
    have hcmp : CmpLays1 PP 45 #[.pointer (some ⟨bq, 0, none⟩)] (Value.int .i64) (lessOf ts) g 0 xs.toArray.size w := by
      intro n os dk hdk x y
      -- what is read, in that world
      have hsame : ∀ k, k < w.heap.size → ¬ F j k → (sortWorld (Value.int .i64) w g 0 n dk os).heap[k]? = w.heap[k]? := fun k hk hnf => by
        rw [hheap n dk os k hk, if_neg (fun e => hnf ((hFg k).2 e.symm))]
      have hsameI : ∀ k, I k → (sortWorld (Value.int .i64) w g 0 n dk os).heap[k]? = w.heap[k]? := fun k hk => hsame k (hM.Ilt k hk) (fun e => hM.notI j k hjl e hk)
      have hM' := Mem.change (w' := sortWorld (Value.int .i64) w g 0 n dk os) (ρ' := ρ) hM hjl .gone (fun _ => False) id rfl hM.ones hsame (hsize n dk os) rfl rfl rfl (fun k hk => hk.elim)
        (fun j' y' hji hy hh => Res.keep (fun _ _ h => h) (fun _ h => h) hsameI (fun k hk => hsame k (hM.lt j' k (List.getElem?_eq_some_iff.1 hy).1 hk) (fun e => hM.apart j' j k (List.getElem?_eq_some_iff.1 hy).1 hjl hji hk e)) y' hh) (fun k hk => hk)
      rw [List.map_id] at hM'
      have hne : ∀ (i : Nat) (x : Res), S.res[i]? = some x → (∀ e t ys, x ≠ .row e t ys) → (S.res.set j .gone)[i]? = some x := fun i x hi hx => by
        rw [List.getElem?_set_ne (fun e => by subst e; rw [hj] at hi; cases hi; exact hx _ _ _ rfl)]; exact hi
      have g1 := hne q _ hq (fun _ _ _ h => by cases h)
      have g2 := hne r _ hr (fun _ _ _ h => by cases h)
      have g3 := hne m _ hm (fun _ _ _ h => by cases h)
      have n1 : q ≠ r := fun e => by subst e; rw [hq] at hr; cases hr
      have n2 : q ≠ m := fun e => by subst e; rw [hq] at hm; cases hm
      have n3 : r ≠ m := fun e => by subst e; rw [hr] at hm; cases hm
      have hnd : [q, r, m].Nodup := by simp [n1, n2, n3]
      obtain ⟨hM2, hto⟩ := Mem.perm (S := { S with res := S.res.set j .gone }) (js := [q, r, m]) hnd (by
        intro k hk
        simp only [List.mem_cons, List.not_mem_nil, or_false] at hk
        rcases hk with rfl | rfl | rfl
        · exact ⟨_, g1, rfl⟩
        · exact ⟨_, g2, rfl⟩
        · exact ⟨_, g3, rfl⟩) hM'
      have p1 : permG [q, r, m] r = some 1 := posOf_at hnd (i := 1) rfl
      have p2 : permG [q, r, m] m = some 2 := posOf_at hnd (i := 2) rfl
      have p0 : permG [q, r, m] q = some 0 := posOf_at hnd (i := 0) rfl
      simp only [List.map_cons, List.map_nil, g1, g2, g3, Option.getD_some, Res.tr, SV.trL, SV.tr, p1, p2] at hM2
      have h0 : Ok cx (cmpS tyq tyr (SV.tr (permG [q, r, m]) x0) (SV.tr (permG [q, r, m]) x2) ts) ⟨#[], []⟩ (sortWorld (Value.int .i64) w g 0 n dk os) [] [.int .i64 x, .int .i64 y, .ptr 0 0] [.int .i64 x, .int .i64 y, .pointer (some ⟨bq, 0, none⟩)] := by
        refine ⟨_, I, _, hM2, ⟨rfl, fun t => by simp [cmpS, getT, SV.den], rfl⟩, rfl, ?_⟩
        simp only [SV.denL, SV.den]
        refine ⟨_, _, rfl, rfl, _, _, rfl, rfl, _, _, rfl, ⟨bq, ?_, rfl⟩, rfl⟩
        rw [hbq]; rfl
      refine (read_fn (P := PP) cmp_exact mixed (fn := Try.f45) (c := c45) rfl rfl h0 (show (3 : Nat) ≤ 21 by decide) (s := .int .i64 (lessOf ts x y)) (cast (less_vc x y tyq tyr _ _ ts).symm ⟨rfl, rfl⟩)).mono ?_
      rintro e w' ⟨u, rfl, ⟨k, rfl⟩, ρ2, I2, hu⟩
      unfold SV.den at hu
      exact ⟨by rw [hu], k, #[], by rw [grow_empty]⟩
    refine (Any.slices_SortFunc Try.sort44 (Value.int .i64) (fun _ => rfl) (lessOf ts) (less_swo ts) 45 #[.pointer (some ⟨bq, 0, none⟩)] g 0 cap xs.toArray w (enters_of Try.func45 (by kernel_rfl) rfl) hcmp hH hgl (by simpa using hlen)).mono ?_
    rintro e w' ⟨rfl, d', n, os, hp, hso, rfl⟩
    have hd' : d'.toList.length = xs.length := by have := hp.1; simpa using this
    refine stay _ d'.toList (by have := row_of hp hso; simpa using this) (hsize n d' os) rfl rfl rfl (fun k hk hne => by rw [hheap n d' os k hk, if_neg (fun e => hne (by rw [e]; rfl))]) ⟨by rw [List.length_map, hs1, Nat.mul_one], .inr ⟨g, cap, putCells (Value.int .i64) 0 d' cur, by rw [hd'], Nat.zero_le _, ?_, by rw [hd']; exact hnc, hcap, ?_, ?_⟩⟩
    · rw [hheap n d' os g hgl, if_pos rfl]
    · rw [hs1, Nat.mul_one]; simp [putCells, hsz]
    · rw [hs1, Nat.mul_one, hd']
      apply List.ext_getElem?
      intro i
      have hd2 : d'.size = xs.length := by simpa using hd'
      by_cases hi : i < xs.length
      · rw [List.getElem?_take_of_lt hi, Array.getElem?_toList]
        simp only [putCells, Array.getElem?_mapIdx, hget i hi, Option.map_some]
        rw [if_pos ⟨Nat.zero_le _, by omega⟩, List.getElem?_map, List.getElem?_eq_getElem (by omega)]
        simp [hd2, hi]
      · rw [List.getElem?_eq_none (by simp; omega), List.getElem?_eq_none (by simp; omega)]
end Go.Proofs.Ytfdcmbaoekjkgaa
namespace Go.Proofs.Ytfdcmbaoekjkgaa
open Go.Proofs.Ytfdcmbaoekjkgaa.Gx
set_option maxRecDepth 100000
set_option linter.unusedVariables false
set_option maxHeartbeats 0
def thoseLoop (p : Int × Int → Bool) : List (Nat × (St → Option LoopSpec)) :=
  [(5, fun (S : St) => match getT S.fr.tm 14 with
      | .ptr jt _ => match S.res[jt]? with
        | some (.mit mi) => match S.res[mi]? with
          | some (.mapr .i64 true (.pair (.pair (.int .i64) (.int .i64)) (.int .i64)) ts (some _)) => some { α := Option Int × List Int × List Int, inv := fun x => List.Perm (x.2.2 ++ x.2.1.filter fun k => p (tkOf ts k).1) (keysAt ts p) ∧ ∀ k ∈ x.2.1, k ∈ ts.map (·.1), ov := fun _ => [(5, .row S.res.length)], rov := fun x => [(mi, .mapr .i64 true tkT ts (some (jt, x.1, x.2.1))), (S.res.length, .row 0 i64 x.2.2)], meas := fun x => x.2.1.length, nil := [(.slot 5, 3, i64)] }
          | _ => none
        | _ => none
      | _ => none)]
noncomputable def s44 : Sv PP := ⟨44, sortS, sort_ok⟩
noncomputable def s28 : Sv PP := ⟨28, inl PP e0 Try.f28 c28, ⟨rfl, inl_ok (env_ok ..) rfl mixed rfl rfl⟩⟩
noncomputable def s33 : Sv PP := ⟨33, inl PP e0 Try.f33 c33, ⟨rfl, inl_ok (env_ok ..) rfl mixed rfl rfl⟩⟩
noncomputable def s27 (p : Int × Int → Bool) : Sv PP := ⟨27, inl PP (env PP [] [s28, s33, s44] [] [] (thoseLoop p)) Try.f27 c27, ⟨rfl, inl_ok (env_ok ..) rfl mixed rfl rfl⟩⟩
theorem list_vc (R : Rm) (seg off : Int) (y : RmIn) : (fvc PP (env PP [] [s27 (atP seg off)] [] [] []) Try.f13 c13 (listC.U.ss ((R, seg, off), y)) (St1 (listC.U.Rs ((R, seg, off), y))) (fun r S => Fin.frz.T r S fun r S => altsOk 4 ((R, seg, off), y) r S listC.U.alts)) = (
  ∃ (x0 : Option Int × List Int × List Int), ((x0.snd.snd ++ List.filter (fun (k : Int) => atP seg off (tkOf y.ts k).fst) x0.snd.fst).Perm (keysAt y.ts (atP seg off)) ∧ ∀ (k : Int), List.Mem k x0.snd.fst → List.Mem k 
  (List.map (fun (x : Int × (Int × Int) × Int) => x.fst) y.ts)) ∧ ((((True ∧ True ∧ True) ∧ True ∧ SV.val (Value.slice none (0 : Nat) (0 : Nat)) = SV.val (Value.slice none (0 : Nat) (0 : Nat)) ∧ True ∧ True ∧ True ∧ seg 
  = seg ∧ off = off ∧ True) ∧ (True ∧ True ∧ True ∧ True ∧ True) ∧ True) ∧ (True ∧ True ∧ false = false ∧ SV.val (Value.slice none (0 : Nat) (0 : Nat)) = SV.val (Value.slice none (0 : Nat) (0 : Nat)) ∧ True ∧ True ∧ 
  (True ∧ True ∧ True) ∧ True) ∧ (y.la = y.la ∧ True ∧ True ∧ True) ∧ (y.ts = y.ts ∧ none = x0.fst ∧ List.map (fun (x : Int × (Int × Int) × Int) => x.fst) y.ts = x0.snd.fst) ∧ (y.hs = y.hs ∧ True) ∧ y.os = y.os ∧ (seg = 
  seg ∧ True) ∧ (off = off ∧ True) ∧ (True ∧ True) ∧ True ∧ [] = x0.snd.snd ∧ True) ∧ ∀ (x : Option Int × List Int × List Int), ((x.snd.snd ++ List.filter (fun (k : Int) => atP seg off (tkOf y.ts k).fst) x.snd.fst).Perm 
  (keysAt y.ts (atP seg off)) ∧ ∀ (k : Int), List.Mem k x.snd.fst → List.Mem k (List.map (fun (x : Int × (Int × Int) × Int) => x.fst) y.ts)) → (x.snd.fst = [] → x.snd.snd.length < (4611686018427387904 : Nat) ∧ ∀ (ys : 
  List Int), Row y.ts x.snd.snd ys → ∃ (y_1 : List Int × Tup KR (1 : Nat)), (Row (tks R) (keysAt (tks R) (atP seg off)) y_1.fst ∧ RmRel R y_1.snd.fst ∧ True) ∧ ys = y_1.fst ∧ ((y.la = y_1.snd.fst.la ∧ True ∧ True ∧ True) 
  ∧ (y.ts = y_1.snd.fst.ts ∧ True) ∧ (y.hs = y_1.snd.fst.hs ∧ True) ∧ y.os = y_1.snd.fst.os ∧ True) ∧ (True ∧ True ∧ True ∧ True ∧ True) ∧ True) ∧ ∀ (n : Nat) (key : Int), x.snd.fst[n]? = some key → ∀ (y_1 : (Int × Int) 
  × Int), lookL y.ts key = some y_1 → ((y_1.fst.fst == seg && (y_1.fst.snd == off && true)) = true → (x.snd.snd.length + [key].length) * (8 : Nat) ≤ (140737488355328 : Nat) ∧ ∃ (x' : Option Int × List Int × List Int), 
  ((x'.snd.snd ++ List.filter (fun (k : Int) => atP seg off (tkOf y.ts k).fst) x'.snd.fst).Perm (keysAt y.ts (atP seg off)) ∧ ∀ (k : Int), List.Mem k x'.snd.fst → List.Mem k (List.map (fun (x : Int × (Int × Int) × Int) 
  => x.fst) y.ts)) ∧ x'.snd.fst.length < x.snd.fst.length ∧ (((True ∧ True ∧ True) ∧ True ∧ SV.val (Value.slice none (0 : Nat) (0 : Nat)) = SV.val (Value.slice none (0 : Nat) (0 : Nat)) ∧ True ∧ True ∧ True ∧ seg = seg ∧ 
  off = off ∧ True) ∧ (True ∧ True ∧ True ∧ True ∧ True) ∧ True) ∧ (True ∧ True ∧ false = false ∧ SV.val (Value.slice none (0 : Nat) (0 : Nat)) = SV.val (Value.slice none (0 : Nat) (0 : Nat)) ∧ True ∧ True ∧ (True ∧ True 
  ∧ True) ∧ True) ∧ (y.la = y.la ∧ True ∧ True ∧ True) ∧ (y.ts = y.ts ∧ some key = x'.fst ∧ x.snd.fst.eraseIdx n = x'.snd.fst) ∧ (y.hs = y.hs ∧ True) ∧ y.os = y.os ∧ (seg = seg ∧ True) ∧ (off = off ∧ True) ∧ (True ∧ 
  True) ∧ True ∧ x.snd.snd ++ [key] = x'.snd.snd ∧ True) ∧ ((y_1.fst.fst == seg && (y_1.fst.snd == off && true)) = false → ∃ (x' : Option Int × List Int × List Int), ((x'.snd.snd ++ List.filter (fun (k : Int) => atP seg 
  off (tkOf y.ts k).fst) x'.snd.fst).Perm (keysAt y.ts (atP seg off)) ∧ ∀ (k : Int), List.Mem k x'.snd.fst → List.Mem k (List.map (fun (x : Int × (Int × Int) × Int) => x.fst) y.ts)) ∧ x'.snd.fst.length < x.snd.fst.length 
  ∧ (((True ∧ True ∧ True) ∧ True ∧ SV.val (Value.slice none (0 : Nat) (0 : Nat)) = SV.val (Value.slice none (0 : Nat) (0 : Nat)) ∧ True ∧ True ∧ True ∧ seg = seg ∧ off = off ∧ True) ∧ (True ∧ True ∧ True ∧ True ∧ True) 
  ∧ True) ∧ (True ∧ True ∧ false = false ∧ SV.val (Value.slice none (0 : Nat) (0 : Nat)) = SV.val (Value.slice none (0 : Nat) (0 : Nat)) ∧ True ∧ True ∧ (True ∧ True ∧ True) ∧ True) ∧ (y.la = y.la ∧ True ∧ True ∧ True) ∧ 
  (y.ts = y.ts ∧ some key = x'.fst ∧ x.snd.fst.eraseIdx n = x'.snd.fst) ∧ (y.hs = y.hs ∧ True) ∧ y.os = y.os ∧ (seg = seg ∧ True) ∧ (off = off ∧ True) ∧ (True ∧ True) ∧ True ∧ x.snd.snd = x'.snd.snd ∧ True)) := by kernel_rfl
def freeLoop (y : RmIn) (l : List Int) : List (Nat × (St → Option LoopSpec)) :=
  [(2, fun _ => some { α := Nat, inv := fun i => i ≤ l.length, ov := fun i => [(9, .int .i64 (i : Int))], rov := fun i => [(1, .mapr .i64 true tkT (delAll y.ts (l.take i)) none)], meas := fun i => l.length - i })]
theorem free_vc (R : Rm) (l : List Int) (y : RmIn) : (fvc PP (eL (freeLoop y l)) Try.f29 c29 (freeC.U.ss ((R, l), y)) (St1 (freeC.U.Rs ((R, l), y))) (fun r S => altsOk 4 ((R, l), y) r S freeC.U.alts)) = (
  l.length ≤ maxLen → ∃ (x0 : Nat), x0.le l.length ∧ (((True ∧ True ∧ True ∧ True ∧ True) ∧ True) ∧ ((0 : Int) = (↑x0 : Int) ∧ (↑l.length : Int) = (↑l.length : Int) ∧ l = l ∧ SV.val (Value.slice none (0 : Nat) (0 : Nat)) 
  = SV.val (Value.slice none (0 : Nat) (0 : Nat)) ∧ True ∧ l = l ∧ True) ∧ (y.la = y.la ∧ True ∧ True ∧ True) ∧ (y.ts = delAll y.ts (List.take x0 l) ∧ True) ∧ (y.hs = y.hs ∧ True) ∧ y.os = y.os ∧ True) ∧ ∀ (x : Nat), 
  x.le l.length → (decide ((↑x : Int) < (↑l.length : Int)) = true → ((0 : Int) ≤ (↑x : Int) ∧ (↑x : Int) < (↑l.length : Int)) ∧ ∀ (y_1 : Int), l[(↑x : Int).toNat]? = some y_1 → ∃ (x' : Nat), x'.le l.length ∧ l.length - 
  x' < l.length - x ∧ ((True ∧ True ∧ True ∧ True ∧ True) ∧ True) ∧ (IntKind.i64.wrap ((↑x : Int) + (1 : Int)) = (↑x' : Int) ∧ (↑l.length : Int) = (↑l.length : Int) ∧ l = l ∧ SV.val (Value.slice none (0 : Nat) (0 : Nat)) 
  = SV.val (Value.slice none (0 : Nat) (0 : Nat)) ∧ True ∧ l = l ∧ True) ∧ (y.la = y.la ∧ True ∧ True ∧ True) ∧ (delL (delAll y.ts (List.take x l)) y_1 = delAll y.ts (List.take x' l) ∧ True) ∧ (y.hs = y.hs ∧ True) ∧ y.os 
  = y.os ∧ True) ∧ (decide ((↑x : Int) < (↑l.length : Int)) = false → ∃ (y_1 : Unit × Tup KR (1 : Nat)), (True ∧ RmRel (last R, delAll (tks R) l, als R) y_1.snd.fst ∧ True) ∧ l = l ∧ ((y.la = y_1.snd.fst.la ∧ True ∧ True 
  ∧ True) ∧ (delAll y.ts (List.take x l) = y_1.snd.fst.ts ∧ True) ∧ (y.hs = y_1.snd.fst.hs ∧ True) ∧ y.os = y_1.snd.fst.os ∧ True) ∧ (True ∧ True ∧ True ∧ True ∧ True) ∧ True)) := by kernel_rfl
end Go.Proofs.Ytfdcmbaoekjkgaa
namespace Go.Proofs.Ytfdcmbaoekjkgaa
open Go.Proofs.Ytfdcmbaoekjkgaa.Gx
set_option maxRecDepth 100000
set_option maxHeartbeats 4000000
set_option linter.unusedSimpArgs false
set_option linter.unusedVariables false
theorem erase_perm : {l : List Int} → {n : Nat} → {k : Int} → l[n]? = some k → (k :: l.eraseIdx n).Perm l
  | [], _, _, h => by simp at h
  | x :: l, 0, k, h => by simp at h; subst h; exact List.Perm.refl _
  | x :: l, n + 1, k, h => by
    have := erase_perm (l := l) (n := n) (by simpa using h)
    simp only [List.eraseIdx_cons_succ]
    exact (List.Perm.swap x k _).trans (this.cons x)
/-- A key is gone over. -/
theorem perm_yes {P : Int → Bool} {got left ks : List Int} {n : Nat} {key : Int} (h : (got ++ left.filter P).Perm ks) (hk : left[n]? = some key) (hp : P key = true) : ((got ++ [key]) ++ (left.eraseIdx n).filter P).Perm ks := by
  refine List.Perm.trans ?_ h
  rw [List.append_assoc]
  refine List.Perm.append_left got ?_
  have := (erase_perm hk).filter P
  rw [List.filter_cons, if_pos hp] at this
  simpa using this
theorem perm_no {P : Int → Bool} {got left ks : List Int} {n : Nat} {key : Int} (h : (got ++ left.filter P).Perm ks) (hk : left[n]? = some key) (hp : P key = false) : (got ++ (left.eraseIdx n).filter P).Perm ks := by
  refine List.Perm.trans ?_ h
  refine List.Perm.append_left got ?_
  have := (erase_perm hk).filter P
  rw [List.filter_cons, if_neg (by simp [hp])] at this
  exact this
theorem one_wfp {α : Type} {inn : α → rmT.den} {ss : α → List SV} {p : α → Int × Int → Bool} : ∀ A ∈ (those α inn ss p).alts, ∀ x y, SV.wf (A.outs x y).length (A.r x y) = true ∧ 1 ≤ (A.outs x y).length := by
  intro A hA
  obtain rfl := List.mem_singleton.1 hA
  exact fun x y => ⟨rfl, Nat.le_refl 1⟩
/-- The round over all that wait. -/
theorem those_law {R : Rm} {y : RmIn} {p : Int × Int → Bool} (hrel : RmRel R y) (hfew : fewT R) {G : List Int → Prop} (hG : ∀ ys, Row y.ts (keysAt y.ts p) ys → G ys) :
    ∃ (x0 : Option Int × List Int × List Int),
      ((x0.2.2 ++ List.filter (fun (k : Int) => p (tkOf y.ts k).fst) x0.2.1).Perm (keysAt y.ts p) ∧ ∀ (k : Int), List.Mem k x0.2.1 → List.Mem k (List.map (fun (x : Int × (Int × Int) × Int) => x.fst) y.ts)) ∧
        ((none = x0.1 ∧ List.map (fun (x : Int × (Int × Int) × Int) => x.fst) y.ts = x0.2.1) ∧ [] = x0.2.2) ∧
        ∀ (x : Option Int × List Int × List Int),
          ((x.2.2 ++ List.filter (fun (k : Int) => p (tkOf y.ts k).fst) x.2.1).Perm (keysAt y.ts p) ∧ ∀ (k : Int), List.Mem k x.2.1 → List.Mem k (List.map (fun (x : Int × (Int × Int) × Int) => x.fst) y.ts)) →
            (x.2.1 = [] → x.2.2.length < 4611686018427387904 ∧ ∀ (ys : List Int), Row y.ts x.2.2 ys → G ys) ∧
              ∀ (n : Nat) (key : Int), x.2.1[n]? = some key → ∀ (z : (Int × Int) × Int), lookL y.ts key = some z →
                (p z.1 = true → (x.2.2.length + [key].length) * 8 ≤ 140737488355328 ∧ ∃ (x' : Option Int × List Int × List Int),
                  ((x'.2.2 ++ List.filter (fun (k : Int) => p (tkOf y.ts k).fst) x'.2.1).Perm (keysAt y.ts p) ∧ ∀ (k : Int), List.Mem k x'.2.1 → List.Mem k (List.map (fun (x : Int × (Int × Int) × Int) => x.fst) y.ts)) ∧
                    x'.2.1.length < x.2.1.length ∧ (some key = x'.1 ∧ x.2.1.eraseIdx n = x'.2.1) ∧ x.2.2 ++ [key] = x'.2.2) ∧
                (p z.1 = false → ∃ (x' : Option Int × List Int × List Int),
                  ((x'.2.2 ++ List.filter (fun (k : Int) => p (tkOf y.ts k).fst) x'.2.1).Perm (keysAt y.ts p) ∧ ∀ (k : Int), List.Mem k x'.2.1 → List.Mem k (List.map (fun (x : Int × (Int × Int) × Int) => x.fst) y.ts)) ∧
                    x'.2.1.length < x.2.1.length ∧ (some key = x'.1 ∧ x.2.1.eraseIdx n = x'.2.1) ∧ x.2.2 = x'.2.2) := by
  have hlen : (keysAt y.ts p).length ≤ 1000000000000 := by
    have h1 : (keysAt y.ts p).length ≤ y.ts.length := by
      unfold keysAt
      exact Nat.le_trans (List.length_filter_le _ _) (by simp)
    have h2 : (tks R).length ≤ 1000000000000 := hfew
    rw [hrel.ts] at h2
    omega
  refine ⟨(none, y.ts.map (·.1), []), ⟨by simp [keysAt], fun k hk => hk⟩, ⟨⟨rfl, rfl⟩, rfl⟩, ?_⟩
  rintro ⟨cur, left, got⟩ ⟨hperm, hsub⟩
  simp only at hperm hsub ⊢
  have hgl : got.length + (left.filter fun k => p (tkOf y.ts k).1).length = (keysAt y.ts p).length := by
    have := hperm.length_eq
    simpa using this
  refine ⟨fun hl => ⟨by omega, fun ys hy => ?_⟩, fun n key hk z hz => ?_⟩
  · subst hl
    rw [List.filter_nil, List.append_nil] at hperm
    exact hG ys ⟨hy.perm.trans hperm, hy.sorted⟩
  · have hn := (List.getElem?_eq_some_iff.1 hk).1
    have htk : tkOf y.ts key = z := by simp [tkOf, hz]
    have hless : (left.eraseIdx n).length < left.length := by rw [List.length_eraseIdx_of_lt hn]; omega
    have hsub' : ∀ k, List.Mem k (left.eraseIdx n) → List.Mem k (y.ts.map (·.1)) := fun k hm => hsub k ((List.eraseIdx_sublist left n).subset hm)
    refine ⟨fun hp => ?_, fun hp => ⟨(some key, left.eraseIdx n, got), ⟨perm_no hperm hk (by rw [htk]; exact hp), hsub'⟩, hless, ⟨rfl, rfl⟩, rfl⟩⟩
    have h1 := perm_yes hperm hk (P := fun k => p (tkOf y.ts k).1) (by show p (tkOf y.ts key).1 = true; rw [htk]; exact hp)
    have h2 := h1.length_eq
    refine ⟨?_, (some key, left.eraseIdx n, got ++ [key]), ⟨h1, hsub'⟩, hless, ⟨rfl, rfl⟩, rfl⟩
    simp only [List.length_append, List.length_cons, List.length_nil] at h2 ⊢
    omega
theorem list_ok : listC.H.ok PP 13 := by
  refine listC.ok_of one_wfp ?_
  refine hc_ofP Fin.frz mixed (fn := Try.f13) (c := c13) rfl rfl listC.U (fun x => rfl) ?_
  rintro ⟨⟨R, seg, off⟩, (y : RmIn)⟩ ⟨hfew, hrel⟩
  have hrel : RmRel R y := hrel
  have hfew : fewT R := hfew
  refine ⟨env PP [] [s27 (atP seg off)] [] [] [], env_ok .., rfl, hold (list_vc R seg off y) ?_⟩
  simp only [true_and, and_true, Bool.and_true]
  refine those_law (p := atP seg off) hrel hfew (fun ys hy => ⟨(ys, y, ()), ⟨by rw [hrel.ts]; exact hy, hrel⟩, rfl, rfl, rfl, rfl, rfl⟩)
theorem delAll_take {l : List Int} {i : Nat} {x : Int} (ts : List (Int × Tk)) (h : l[i]? = some x) : delL (delAll ts (l.take i)) x = delAll ts (l.take (i + 1)) := by
  rw [take_snoc h, delAll, delAll, List.foldl_append]; rfl
theorem delAll_sub (l : List Int) : ∀ ts, (delAll ts l).Sublist ts := by
  induction l with
  | nil => exact fun ts => List.Sublist.refl _
  | cons x l ih => exact fun ts => (ih (delL ts x)).trans (delL_sub ts x)
theorem free_ok : freeC.H.ok PP 29 := by
  refine freeC.ok_of (one_wf fun _ => rfl) ?_
  refine hc_of mixed (fn := Try.f29) (c := c29) rfl rfl freeC.U (fun x => rfl) ?_
  rintro ⟨⟨R, l⟩, (y : RmIn)⟩ ⟨-, hrel⟩
  have hrel : RmRel R y := hrel
  refine ⟨eL (freeLoop y l), env_ok .., rfl, hold (free_vc R l y) ?_⟩
  simp only [true_and, and_true, toNat_cast]
  intro hA
  refine ⟨0, Nat.zero_le _, ⟨rfl, by simp [delAll]⟩, fun i hi => ⟨fun hlt => ?_, fun hge => ?_⟩⟩
  · have hlt : i < l.length := by simp at hlt; omega
    exact ⟨⟨by omega, by omega⟩, fun x hx => ⟨i + 1, hlt, by omega, wrap_succ hlt hA, delAll_take _ hx⟩⟩
  · have hi : i ≤ l.length := hi
    have hie : i = l.length := by simp at hge; omega
    subst hie
    rw [List.take_length]
    refine ⟨((), ⟨y.la, delAll y.ts l, y.hs, y.os⟩, ()), ?_, rfl, rfl, rfl, rfl⟩
    have := rel_tk hrel (la := y.la) (ts := delAll y.ts l) (List.Nodup.sublist ((delAll_sub l y.ts).map _) hrel.tkeys)
    rw [hrel.la, hrel.ts]; exact this
end Go.Proofs.Ytfdcmbaoekjkgaa
namespace Go.Proofs.Ytfdcmbaoekjkgaa
open Go.Proofs.Ytfdcmbaoekjkgaa.Gx
set_option linter.unusedSimpArgs false
set_option linter.unusedVariables false
structure CopyInv (y : RmIn) (left : List Int) (hs : List (Int × Hd)) (os : List (Nat × (Nat × List Int))) : Prop where
  keys : (hs.map (·.1) ++ left).Perm (y.hs.map (·.1))
  same : ∀ p ∈ hs, hdIn os p.2 ∧ ∃ h, (p.1, h) ∈ y.hs ∧ rdH os p.2 = rdH y.os h
  apart : (blks hs).Nodup
def copyC : PC1 KR where
  α := Rm
  inn := fun R => R
  ss := fun _ => [.ptr 0 0]
  pre := fun R => shortA R
  alts := [{ β := List (Int × List Int), k := 2, post := fun R a => a.Perm (als R), r := fun _ _ => .ptr 1 0, outs := fun R a => [R, (last R, tks R, a)] }]
/-- maps.Clone, where it stands by itself. -/
def cloneS : Gx.Spec := fun ss S K => match ss with
  | [.mp i] => match S.res[i]? with
    | some (.mapr kk ag vt es none) => K (.mp S.res.length) (S.push (.mapr kk ag vt es none))
    | _ => False
  | _ => False
end Go.Proofs.Ytfdcmbaoekjkgaa
namespace Go.Proofs.Ytfdcmbaoekjkgaa
open Go.Proofs.Ytfdcmbaoekjkgaa.Gx Go.RowKit Go.Maps
set_option linter.unusedSimpArgs false
set_option linter.unusedVariables false
def cloneN : NSpec := fun ss S k => match ss with
  | [.mp i] => match S.res[i]? with
    | some (.mapr kk ag vt es none) => k (.mapr kk ag vt es none)
    | _ => False
  | _ => False
theorem clone_get {ss : List SV} {S : St} {k : Res → Prop} (h : cloneN ss S k) : ∃ i kk ag vt es, ss = [.mp i] ∧ S.res[i]? = some (.mapr kk ag vt es none) ∧ k (.mapr kk ag vt es none) := by
  unfold cloneN at h
  split at h
  · rename_i i
    split at h
    · rename_i kk ag vt es hr
      exact ⟨i, kk, ag, vt, es, rfl, hr, h⟩
    · exact h.elim
  · exact h.elim
theorem clone_run {cx : Cx} {res : List Res} {ρ : List Value} {I : Nat → Prop} {F : Nat → Nat → Prop} {w : World} {i : Nat} {kk : IntKind} {ag : Bool} {vt : Ty} {es : List (Int × vt.den)} {vs : List Value} (hM : Mem cx res ρ I F w) (hr : res[i]? = some (.mapr kk ag vt es none)) (hd : SV.denL ρ I w [.mp i] vs) :
    ∃ (ents : List MapEntry) (clock : Nat), (Calls PP 34 vs.toArray w fun e w' => e = .returned (.map (some w.heap.size)) ∧ w' = w.alloc (.map ents.toArray clock)) ∧ MapOk I (w.alloc (.map ents.toArray clock)) kk ag vt w.heap.size es ents clock := by
  obtain ⟨b, ents, clock, ro, h1, h2, h3, h4⟩ := hM.holds _ _ hr
  unfold SV.denL SV.denL SV.den at hd
  obtain ⟨v, vs', rfl, ⟨b', h5, rfl⟩, rfl⟩ := hd
  rw [h1] at h5
  cases h5
  refine ⟨ents, clock, (AnyW.maps_Clone Try.clone34 b ents.toArray clock w h2.heap), ?_⟩
  have hB : Below w.heap.size w (w.alloc (.map ents.toArray clock)) := (Below.refl _ w).alloc (Nat.le_refl _) _
  exact ⟨(MapKept.heap_alloc w _).1, EntsOk.keep (fun _ h => h) (fun k hk => Below.heap_alloc _ _ k (hM.Ilt k hk)) h2.rd, h2.nodup, h2.born, h2.clock⟩
theorem clone_new : NewOk PP 34 cloneN := by
  refine ⟨fun ss S k h => ?_, fun cx S ρ I F w ss vs r hM hd h => ?_⟩
  · obtain ⟨i, kk, ag, vt, es, rfl, hr, hk⟩ := clone_get h
    exact ⟨_, hk, rfl, by unfold cloneN; simp only [hr]⟩
  · obtain ⟨i, kk, ag, vt, es, rfl, hr, rfl⟩ := clone_get h
    obtain ⟨ents, clock, hc, hm⟩ := clone_run hM hr hd
    refine hc.mono ?_
    rintro e w' ⟨rfl, rfl⟩
    have hB : Below w.heap.size w (w.alloc (.map ents.toArray clock)) := (Below.refl _ w).alloc (Nat.le_refl _) _
    refine ⟨_, fun k => k = w.heap.size, rfl, hB, rfl, fun k hk => ?_, fun lp ρ' j hj => ⟨w.heap.size, ents, clock, none, hj, hm, fun k => by simp, rfl⟩⟩
    rw [hk]
    exact ⟨Nat.le_refl _, (Array.getElem?_eq_some_iff.1 (MapKept.heap_alloc w (.map ents.toArray clock)).1).1⟩
theorem clone_spec : SpecOk PP 34 cloneS := by
  intro cx S a w sv ss vs K hok hk
  unfold cloneS at hk
  split at hk
  · rename_i i
    split at hk
    · rename_i kk ag vt es hr
      obtain ⟨ρ, I, F, hM, hf, hs, hd⟩ := hok
      obtain ⟨ents, clock, hc, hm⟩ := clone_run hM hr hd
      refine hc.mono ?_
      rintro e w' ⟨rfl, rfl⟩
      have hB : Below w.heap.size w (w.alloc (.map ents.toArray clock)) := (Below.refl _ w).alloc (Nat.le_refl _) _
      have hlen : ρ.length = S.res.length := hM.len
      obtain ⟨F', hM'⟩ := hM.push (.map ents.toArray clock) (.mapr kk ag vt es none) (.map (some w.heap.size)) rfl ⟨w.heap.size, ents, clock, none, by rw [← hlen]; simp, hm, fun k => by simp, rfl⟩
      have hw : ∀ k, I k → (w.alloc (.map ents.toArray clock)).heap[k]? = w.heap[k]? := fun k hk => Below.heap_alloc _ _ k (hM.Ilt k hk)
      exact ⟨Value.map (some w.heap.size), .mp S.res.length, S.push (.mapr kk ag vt es none), rfl, ⟨ρ ++ [Value.map (some w.heap.size)], I, F', hM', hf.keep (fun _ _ h => rho_snoc h) (fun _ h => h) hw, StkOk.keep (fun _ _ h => rho_snoc h) (fun _ h => h) hw _ hs, by
        unfold SV.denL SV.den
        exact ⟨_, [], rfl, ⟨w.heap.size, by rw [← hlen]; simp, rfl⟩, by simp [SV.denL]⟩⟩, hk⟩
    · exact hk.elim
  · exact hk.elim
noncomputable def k34 : Kv PP := ⟨34, ⟨cloneS, fun _ _ => none, some cloneN, none⟩, ⟨rfl, clone_spec⟩, fun N h => by cases h; exact clone_new, fun R h => by cases h⟩
end Go.Proofs.Ytfdcmbaoekjkgaa
namespace Go.Proofs.Ytfdcmbaoekjkgaa
open Go.Proofs.Ytfdcmbaoekjkgaa.Gx
set_option maxRecDepth 100000
set_option linter.unusedVariables false
set_option maxHeartbeats 0
def copyLoop (y : RmIn) : List (Nat × (St → Option LoopSpec)) :=
  [(5, fun (S : St) => match getT S.fr.tm 24, getT S.fr.tm 3, lastFam 3 0 S.res none with
    | .ptr jt _, .ptr q _, some f => match S.res[q]? with
      | some (.blk _ [_, _, .mp b]) => some { α := Option Int × List Int × List (Int × Hd) × List (Nat × (Nat × List Int)), inv := fun x => CopyInv y x.2.1 x.2.2.1 x.2.2.2, ov := fun _ => [], rov := fun x => [(2, .mapr .i64 true (.hd 3) y.hs (some (jt, x.1, x.2.1))), (b, .mapr .i64 true (.hd 3) x.2.2.1 none), (f, .fam 3 i64 x.2.2.2)], meas := fun x => x.2.1.length }
      | _ => none
    | _, _, _ => none)]
theorem copy_vc (R : Rm) (y : RmIn) : (fvc PP (env PP [] [b32] [] [k34] (copyLoop y)) Try.f22 c22 (copyC.U.ss (R, y)) (St1 (copyC.U.Rs (R, y))) (fun r S => (Fin.perm fun _ => [0, 1, 2, 3, 15, 12, 13, 17]).T r S fun r S => altsOk 4 (R, y) r S copyC.U.alts)) = (
  ∃ (x0 : Option Int × List Int × List (Int × Hd) × List (Nat × Nat × List Int)), CopyInv y x0.snd.fst x0.snd.snd.fst x0.snd.snd.snd ∧ (((True ∧ True ∧ True ∧ True ∧ True) ∧ True) ∧ (True ∧ True ∧ false = false ∧ SV.val 
  (Value.pointer none) = SV.val (Value.pointer none) ∧ True ∧ True) ∧ (y.la = y.la ∧ True ∧ True ∧ True) ∧ (y.ts = y.ts ∧ True) ∧ (y.hs = y.hs ∧ none = x0.fst ∧ List.map (fun (x : Int × Hd) => x.fst) y.hs = x0.snd.fst) ∧ 
  y.os = y.os ∧ True ∧ True ∧ True ∧ True ∧ True ∧ True ∧ True ∧ True ∧ (y.ts = y.ts ∧ True) ∧ ([] = x0.snd.snd.fst ∧ True) ∧ True ∧ (y.la = y.la ∧ True ∧ True ∧ True) ∧ True ∧ [] = x0.snd.snd.snd ∧ True ∧ True) ∧ ∀ (x : 
  Option Int × List Int × List (Int × Hd) × List (Nat × Nat × List Int)), CopyInv y x.snd.fst x.snd.snd.fst x.snd.snd.snd → (x.snd.fst = [] → ∃ (y_1 : List (Int × List Int) × Tup KR (2 : Nat)), (y_1.fst.Perm (als R) ∧ 
  RmRel R y_1.snd.fst ∧ RmRel (last R, tks R, y_1.fst) y_1.snd.snd.fst ∧ True) ∧ True ∧ ((y.la = y_1.snd.fst.la ∧ True ∧ True ∧ True) ∧ (y.ts = y_1.snd.fst.ts ∧ True) ∧ (y.hs = y_1.snd.fst.hs ∧ True) ∧ y.os = 
  y_1.snd.fst.os ∧ (y.la = y_1.snd.snd.fst.la ∧ True ∧ True ∧ True) ∧ (y.ts = y_1.snd.snd.fst.ts ∧ True) ∧ (x.snd.snd.fst = y_1.snd.snd.fst.hs ∧ True) ∧ x.snd.snd.snd = y_1.snd.snd.fst.os ∧ True) ∧ (True ∧ True ∧ True ∧ 
  True ∧ True) ∧ True) ∧ ∀ (n : Nat) (key : Int), x.snd.fst[n]? = some key → ∀ (y_1 : Hd), lookL y.hs key = some y_1 → True ∧ HdIn y.os y_1 ∧ shortB (rdH y.os y_1) = true ∧ (True ∧ True ∧ True ∧ True ∧ key = key ∧ True) 
  ∧ ∀ (hd : Hd) (os' : List (Nat × Nat × List Int)), AppPost x.snd.snd.snd nilHd (rdH y.os y_1) hd os' → True ∧ ∃ (x' : Option Int × List Int × List (Int × Hd) × List (Nat × Nat × List Int)), CopyInv y x'.snd.fst 
  x'.snd.snd.fst x'.snd.snd.snd ∧ x'.snd.fst.length < x.snd.fst.length ∧ ((True ∧ True ∧ True ∧ True ∧ True) ∧ True) ∧ (True ∧ True ∧ false = false ∧ SV.val (Value.pointer none) = SV.val (Value.pointer none) ∧ True ∧ 
  True) ∧ (y.la = y.la ∧ True ∧ True ∧ True) ∧ (y.ts = y.ts ∧ True) ∧ (y.hs = y.hs ∧ some key = x'.fst ∧ x.snd.fst.eraseIdx n = x'.snd.fst) ∧ y.os = y.os ∧ True ∧ True ∧ True ∧ True ∧ True ∧ True ∧ True ∧ True ∧ (y.ts = 
  y.ts ∧ True) ∧ (insL x.snd.snd.fst key hd = x'.snd.snd.fst ∧ True) ∧ True ∧ (y.la = y.la ∧ True ∧ True ∧ True) ∧ True ∧ os' = x'.snd.snd.snd ∧ True ∧ True) := by kernel_rfl
end Go.Proofs.Ytfdcmbaoekjkgaa
namespace Go.Proofs.Ytfdcmbaoekjkgaa
open Go.Proofs.Ytfdcmbaoekjkgaa.Gx
set_option maxRecDepth 100000
set_option linter.unusedVariables false
set_option maxHeartbeats 0
def freeLp (ts : List (Int × Tk)) (l : List Int) : LoopSpec := { α := Nat, inv := fun i => i ≤ l.length, ov := fun i => [(9, .int .i64 (i : Int))], rov := fun i => [(1, .mapr .i64 true tkT (delAll ts (l.take i)) none)], meas := fun i => l.length - i }
def freeLoopS : List (Nat × (St → Option LoopSpec)) :=
  [(2, fun (S : St) => match getT S.fr.tm 7 with
    | .row j => match S.res[j]? with
      | some (.row _ (.int .i64) xs) => match S.res[(1 : Nat)]? with
        | some (.mapr .i64 true (.pair (.pair (.int .i64) (.int .i64)) (.int .i64)) ts none) => some (freeLp ts xs)
        | _ => none
      | _ => none
    | _ => none)]
noncomputable def s29 : Sv PP := ⟨29, inl PP (eL freeLoopS) Try.f29 c29, ⟨rfl, inl_ok (env_ok ..) rfl mixed rfl rfl⟩⟩
noncomputable def s13 (p : Int × Int → Bool) : Sv PP := ⟨13, inl PP (env PP [] [s27 p] [] [] []) Try.f13 c13, ⟨rfl, inl_ok (env_ok ..) rfl mixed rfl rfl⟩⟩
theorem wake_vc (R : Rm) (seg off : Int) (y : RmIn) : (fvc PP (env PP [] [s13 (atP seg off), s29] [] [] []) Try.f14 c14 (wakeC.U.ss ((R, seg, off), y)) (St1 (wakeC.U.Rs ((R, seg, off), y))) (fun r S => Fin.frz.T r S fun r S => altsOk 4 ((R, seg, off), y) r S wakeC.U.alts)) = (
  ∃ (x0 : Option Int × List Int × List Int), ((x0.snd.snd ++ List.filter (fun (k : Int) => atP seg off (tkOf y.ts k).fst) x0.snd.fst).Perm (keysAt y.ts (atP seg off)) ∧ ∀ (k : Int), List.Mem k x0.snd.fst → List.Mem k 
  (List.map (fun (x : Int × (Int × Int) × Int) => x.fst) y.ts)) ∧ ((((True ∧ True ∧ True) ∧ True ∧ SV.val (Value.slice none (0 : Nat) (0 : Nat)) = SV.val (Value.slice none (0 : Nat) (0 : Nat)) ∧ True ∧ True ∧ True ∧ seg 
  = seg ∧ off = off ∧ True) ∧ (off = off ∧ seg = seg ∧ True ∧ True ∧ SV.val (Value.slice none (0 : Nat) (0 : Nat)) = SV.val (Value.slice none (0 : Nat) (0 : Nat)) ∧ True ∧ seg = seg ∧ off = off ∧ True) ∧ (True ∧ True ∧ 
  True ∧ True ∧ True) ∧ True) ∧ (True ∧ True ∧ false = false ∧ SV.val (Value.slice none (0 : Nat) (0 : Nat)) = SV.val (Value.slice none (0 : Nat) (0 : Nat)) ∧ True ∧ True ∧ (True ∧ True ∧ True) ∧ True) ∧ (y.la = y.la ∧ 
  True ∧ True ∧ True) ∧ (y.ts = y.ts ∧ none = x0.fst ∧ List.map (fun (x : Int × (Int × Int) × Int) => x.fst) y.ts = x0.snd.fst) ∧ (y.hs = y.hs ∧ True) ∧ y.os = y.os ∧ (seg = seg ∧ True) ∧ (off = off ∧ True) ∧ (True ∧ 
  True) ∧ True ∧ [] = x0.snd.snd ∧ True) ∧ ∀ (x : Option Int × List Int × List Int), ((x.snd.snd ++ List.filter (fun (k : Int) => atP seg off (tkOf y.ts k).fst) x.snd.fst).Perm (keysAt y.ts (atP seg off)) ∧ ∀ (k : Int), 
  List.Mem k x.snd.fst → List.Mem k (List.map (fun (x : Int × (Int × Int) × Int) => x.fst) y.ts)) → (x.snd.fst = [] → x.snd.snd.length < (4611686018427387904 : Nat) ∧ ∀ (ys : List Int), Row y.ts x.snd.snd ys → ys.length 
  ≤ maxLen → ∃ (x0 : Nat), x0.le ys.length ∧ (((True ∧ off = off ∧ seg = seg ∧ True ∧ True ∧ SV.val (Value.slice none (0 : Nat) (0 : Nat)) = SV.val (Value.slice none (0 : Nat) (0 : Nat)) ∧ True ∧ seg = seg ∧ off = off ∧ 
  True) ∧ (True ∧ True ∧ True ∧ True ∧ True) ∧ True) ∧ ((0 : Int) = (↑x0 : Int) ∧ (↑ys.length : Int) = (↑ys.length : Int) ∧ True ∧ SV.val (Value.slice none (0 : Nat) (0 : Nat)) = SV.val (Value.slice none (0 : Nat) (0 : 
  Nat)) ∧ True ∧ True ∧ True) ∧ (y.la = y.la ∧ True ∧ True ∧ True) ∧ (y.ts = delAll y.ts (List.take x0 ys) ∧ True) ∧ (y.hs = y.hs ∧ True) ∧ y.os = y.os ∧ (seg = seg ∧ True) ∧ (off = off ∧ True) ∧ (True ∧ True) ∧ True ∧ 
  ys = ys ∧ True) ∧ ∀ (x : Nat), x.le ys.length → (decide ((↑x : Int) < (↑ys.length : Int)) = true → ((0 : Int) ≤ (↑x : Int) ∧ (↑x : Int) < (↑ys.length : Int)) ∧ (↑x : Int).toNat < ys.length ∧ ∀ (y_1 : Int), ys[(↑x : 
  Int).toNat]? = some y_1 → ∃ (x' : Nat), x'.le ys.length ∧ ys.length - x' < ys.length - x ∧ ((True ∧ off = off ∧ seg = seg ∧ True ∧ True ∧ SV.val (Value.slice none (0 : Nat) (0 : Nat)) = SV.val (Value.slice none (0 : 
  Nat) (0 : Nat)) ∧ True ∧ seg = seg ∧ off = off ∧ True) ∧ (True ∧ True ∧ True ∧ True ∧ True) ∧ True) ∧ (IntKind.i64.wrap ((↑x : Int) + (1 : Int)) = (↑x' : Int) ∧ (↑ys.length : Int) = (↑ys.length : Int) ∧ True ∧ SV.val 
  (Value.slice none (0 : Nat) (0 : Nat)) = SV.val (Value.slice none (0 : Nat) (0 : Nat)) ∧ True ∧ True ∧ True) ∧ (y.la = y.la ∧ True ∧ True ∧ True) ∧ (delL (delAll y.ts (List.take x ys)) y_1 = delAll y.ts (List.take x' 
  ys) ∧ True) ∧ (y.hs = y.hs ∧ True) ∧ y.os = y.os ∧ (seg = seg ∧ True) ∧ (off = off ∧ True) ∧ (True ∧ True) ∧ True ∧ ys = ys ∧ True) ∧ (decide ((↑x : Int) < (↑ys.length : Int)) = false → ∃ (y_1 : List Int × Tup KR (1 : 
  Nat)), (Row (tks R) (keysAt (tks R) (atP seg off)) y_1.fst ∧ RmRel (last R, delAll (tks R) y_1.fst, als R) y_1.snd.fst ∧ True) ∧ ys = y_1.fst ∧ ((y.la = y_1.snd.fst.la ∧ True ∧ True ∧ True) ∧ (delAll y.ts (List.take x 
  ys) = y_1.snd.fst.ts ∧ True) ∧ (y.hs = y_1.snd.fst.hs ∧ True) ∧ y.os = y_1.snd.fst.os ∧ True) ∧ (True ∧ True ∧ True ∧ True ∧ True) ∧ True)) ∧ ∀ (n : Nat) (key : Int), x.snd.fst[n]? = some key → ∀ (y_1 : (Int × Int) × 
  Int), lookL y.ts key = some y_1 → ((y_1.fst.fst == seg && (y_1.fst.snd == off && true)) = true → (x.snd.snd.length + [key].length) * (8 : Nat) ≤ (140737488355328 : Nat) ∧ ∃ (x' : Option Int × List Int × List Int), 
  ((x'.snd.snd ++ List.filter (fun (k : Int) => atP seg off (tkOf y.ts k).fst) x'.snd.fst).Perm (keysAt y.ts (atP seg off)) ∧ ∀ (k : Int), List.Mem k x'.snd.fst → List.Mem k (List.map (fun (x : Int × (Int × Int) × Int) 
  => x.fst) y.ts)) ∧ x'.snd.fst.length < x.snd.fst.length ∧ (((True ∧ True ∧ True) ∧ True ∧ SV.val (Value.slice none (0 : Nat) (0 : Nat)) = SV.val (Value.slice none (0 : Nat) (0 : Nat)) ∧ True ∧ True ∧ True ∧ seg = seg ∧ 
  off = off ∧ True) ∧ (off = off ∧ seg = seg ∧ True ∧ True ∧ SV.val (Value.slice none (0 : Nat) (0 : Nat)) = SV.val (Value.slice none (0 : Nat) (0 : Nat)) ∧ True ∧ seg = seg ∧ off = off ∧ True) ∧ (True ∧ True ∧ True ∧ 
  True ∧ True) ∧ True) ∧ (True ∧ True ∧ false = false ∧ SV.val (Value.slice none (0 : Nat) (0 : Nat)) = SV.val (Value.slice none (0 : Nat) (0 : Nat)) ∧ True ∧ True ∧ (True ∧ True ∧ True) ∧ True) ∧ (y.la = y.la ∧ True ∧ 
  True ∧ True) ∧ (y.ts = y.ts ∧ some key = x'.fst ∧ x.snd.fst.eraseIdx n = x'.snd.fst) ∧ (y.hs = y.hs ∧ True) ∧ y.os = y.os ∧ (seg = seg ∧ True) ∧ (off = off ∧ True) ∧ (True ∧ True) ∧ True ∧ x.snd.snd ++ [key] = 
  x'.snd.snd ∧ True) ∧ ((y_1.fst.fst == seg && (y_1.fst.snd == off && true)) = false → ∃ (x' : Option Int × List Int × List Int), ((x'.snd.snd ++ List.filter (fun (k : Int) => atP seg off (tkOf y.ts k).fst) 
  x'.snd.fst).Perm (keysAt y.ts (atP seg off)) ∧ ∀ (k : Int), List.Mem k x'.snd.fst → List.Mem k (List.map (fun (x : Int × (Int × Int) × Int) => x.fst) y.ts)) ∧ x'.snd.fst.length < x.snd.fst.length ∧ (((True ∧ True ∧ 
  True) ∧ True ∧ SV.val (Value.slice none (0 : Nat) (0 : Nat)) = SV.val (Value.slice none (0 : Nat) (0 : Nat)) ∧ True ∧ True ∧ True ∧ seg = seg ∧ off = off ∧ True) ∧ (off = off ∧ seg = seg ∧ True ∧ True ∧ SV.val 
  (Value.slice none (0 : Nat) (0 : Nat)) = SV.val (Value.slice none (0 : Nat) (0 : Nat)) ∧ True ∧ seg = seg ∧ off = off ∧ True) ∧ (True ∧ True ∧ True ∧ True ∧ True) ∧ True) ∧ (True ∧ True ∧ false = false ∧ SV.val 
  (Value.slice none (0 : Nat) (0 : Nat)) = SV.val (Value.slice none (0 : Nat) (0 : Nat)) ∧ True ∧ True ∧ (True ∧ True ∧ True) ∧ True) ∧ (y.la = y.la ∧ True ∧ True ∧ True) ∧ (y.ts = y.ts ∧ some key = x'.fst ∧ 
  x.snd.fst.eraseIdx n = x'.snd.fst) ∧ (y.hs = y.hs ∧ True) ∧ y.os = y.os ∧ (seg = seg ∧ True) ∧ (off = off ∧ True) ∧ (True ∧ True) ∧ True ∧ x.snd.snd = x'.snd.snd ∧ True)) := by kernel_rfl
theorem close_vc (R : Rm) (seg : Int) (y : RmIn) : (fvc PP (env PP [] [s27 (inP seg), s29] [] [] []) Try.f20 c20 (closeC.U.ss ((R, seg), y)) (St1 (closeC.U.Rs ((R, seg), y))) (fun r S => Fin.frz.T r S fun r S => altsOk 4 ((R, seg), y) r S closeC.U.alts)) = (
  ∃ (x0 : Option Int × List Int × List Int), ((x0.snd.snd ++ List.filter (fun (k : Int) => inP seg (tkOf y.ts k).fst) x0.snd.fst).Perm (keysAt y.ts (inP seg)) ∧ ∀ (k : Int), List.Mem k x0.snd.fst → List.Mem k (List.map 
  (fun (x : Int × (Int × Int) × Int) => x.fst) y.ts)) ∧ ((((True ∧ True) ∧ True ∧ True ∧ SV.val (Value.slice none (0 : Nat) (0 : Nat)) = SV.val (Value.slice none (0 : Nat) (0 : Nat)) ∧ True ∧ True ∧ seg = seg ∧ True) ∧ 
  (True ∧ True ∧ True ∧ True ∧ True) ∧ True) ∧ (True ∧ True ∧ false = false ∧ SV.val (Value.slice none (0 : Nat) (0 : Nat)) = SV.val (Value.slice none (0 : Nat) (0 : Nat)) ∧ True ∧ True ∧ (True ∧ True) ∧ True) ∧ (y.la = 
  y.la ∧ True ∧ True ∧ True) ∧ (y.ts = y.ts ∧ none = x0.fst ∧ List.map (fun (x : Int × (Int × Int) × Int) => x.fst) y.ts = x0.snd.fst) ∧ (y.hs = y.hs ∧ True) ∧ y.os = y.os ∧ (seg = seg ∧ True) ∧ (True ∧ True) ∧ True ∧ [] 
  = x0.snd.snd ∧ True) ∧ ∀ (x : Option Int × List Int × List Int), ((x.snd.snd ++ List.filter (fun (k : Int) => inP seg (tkOf y.ts k).fst) x.snd.fst).Perm (keysAt y.ts (inP seg)) ∧ ∀ (k : Int), List.Mem k x.snd.fst → 
  List.Mem k (List.map (fun (x : Int × (Int × Int) × Int) => x.fst) y.ts)) → (x.snd.fst = [] → x.snd.snd.length < (4611686018427387904 : Nat) ∧ ∀ (ys : List Int), Row y.ts x.snd.snd ys → ys.length ≤ maxLen → ∃ (x0 : 
  Nat), x0.le ys.length ∧ (((True ∧ (True ∧ True) ∧ True ∧ True ∧ SV.val (Value.slice none (0 : Nat) (0 : Nat)) = SV.val (Value.slice none (0 : Nat) (0 : Nat)) ∧ True ∧ True ∧ seg = seg ∧ True) ∧ (True ∧ True ∧ True ∧ 
  True ∧ True) ∧ True) ∧ ((0 : Int) = (↑x0 : Int) ∧ (↑ys.length : Int) = (↑ys.length : Int) ∧ True ∧ SV.val (Value.slice none (0 : Nat) (0 : Nat)) = SV.val (Value.slice none (0 : Nat) (0 : Nat)) ∧ True ∧ True ∧ True) ∧ 
  (y.la = y.la ∧ True ∧ True ∧ True) ∧ (y.ts = delAll y.ts (List.take x0 ys) ∧ True) ∧ (y.hs = y.hs ∧ True) ∧ y.os = y.os ∧ (seg = seg ∧ True) ∧ (True ∧ True) ∧ True ∧ ys = ys ∧ True) ∧ ∀ (x : Nat), x.le ys.length → 
  (decide ((↑x : Int) < (↑ys.length : Int)) = true → ((0 : Int) ≤ (↑x : Int) ∧ (↑x : Int) < (↑ys.length : Int)) ∧ (↑x : Int).toNat < ys.length ∧ ∀ (y_1 : Int), ys[(↑x : Int).toNat]? = some y_1 → ∃ (x' : Nat), x'.le 
  ys.length ∧ ys.length - x' < ys.length - x ∧ ((True ∧ (True ∧ True) ∧ True ∧ True ∧ SV.val (Value.slice none (0 : Nat) (0 : Nat)) = SV.val (Value.slice none (0 : Nat) (0 : Nat)) ∧ True ∧ True ∧ seg = seg ∧ True) ∧ 
  (True ∧ True ∧ True ∧ True ∧ True) ∧ True) ∧ (IntKind.i64.wrap ((↑x : Int) + (1 : Int)) = (↑x' : Int) ∧ (↑ys.length : Int) = (↑ys.length : Int) ∧ True ∧ SV.val (Value.slice none (0 : Nat) (0 : Nat)) = SV.val 
  (Value.slice none (0 : Nat) (0 : Nat)) ∧ True ∧ True ∧ True) ∧ (y.la = y.la ∧ True ∧ True ∧ True) ∧ (delL (delAll y.ts (List.take x ys)) y_1 = delAll y.ts (List.take x' ys) ∧ True) ∧ (y.hs = y.hs ∧ True) ∧ y.os = y.os 
  ∧ (seg = seg ∧ True) ∧ (True ∧ True) ∧ True ∧ ys = ys ∧ True) ∧ (decide ((↑x : Int) < (↑ys.length : Int)) = false → ∃ (y_1 : List Int × Tup KR (1 : Nat)), (Row (tks R) (keysAt (tks R) (inP seg)) y_1.fst ∧ RmRel (last 
  R, delAll (tks R) y_1.fst, als R) y_1.snd.fst ∧ True) ∧ ys = y_1.fst ∧ ((y.la = y_1.snd.fst.la ∧ True ∧ True ∧ True) ∧ (delAll y.ts (List.take x ys) = y_1.snd.fst.ts ∧ True) ∧ (y.hs = y_1.snd.fst.hs ∧ True) ∧ y.os = 
  y_1.snd.fst.os ∧ True) ∧ (True ∧ True ∧ True ∧ True ∧ True) ∧ True)) ∧ ∀ (n : Nat) (key : Int), x.snd.fst[n]? = some key → ∀ (y_1 : (Int × Int) × Int), lookL y.ts key = some y_1 → ((y_1.fst.fst == seg) = true → 
  (x.snd.snd.length + [key].length) * (8 : Nat) ≤ (140737488355328 : Nat) ∧ ∃ (x' : Option Int × List Int × List Int), ((x'.snd.snd ++ List.filter (fun (k : Int) => inP seg (tkOf y.ts k).fst) x'.snd.fst).Perm (keysAt 
  y.ts (inP seg)) ∧ ∀ (k : Int), List.Mem k x'.snd.fst → List.Mem k (List.map (fun (x : Int × (Int × Int) × Int) => x.fst) y.ts)) ∧ x'.snd.fst.length < x.snd.fst.length ∧ (((True ∧ True) ∧ True ∧ True ∧ SV.val 
  (Value.slice none (0 : Nat) (0 : Nat)) = SV.val (Value.slice none (0 : Nat) (0 : Nat)) ∧ True ∧ True ∧ seg = seg ∧ True) ∧ (True ∧ True ∧ True ∧ True ∧ True) ∧ True) ∧ (True ∧ True ∧ false = false ∧ SV.val (Value.slice 
  none (0 : Nat) (0 : Nat)) = SV.val (Value.slice none (0 : Nat) (0 : Nat)) ∧ True ∧ True ∧ (True ∧ True) ∧ True) ∧ (y.la = y.la ∧ True ∧ True ∧ True) ∧ (y.ts = y.ts ∧ some key = x'.fst ∧ x.snd.fst.eraseIdx n = 
  x'.snd.fst) ∧ (y.hs = y.hs ∧ True) ∧ y.os = y.os ∧ (seg = seg ∧ True) ∧ (True ∧ True) ∧ True ∧ x.snd.snd ++ [key] = x'.snd.snd ∧ True) ∧ ((y_1.fst.fst == seg) = false → ∃ (x' : Option Int × List Int × List Int), 
  ((x'.snd.snd ++ List.filter (fun (k : Int) => inP seg (tkOf y.ts k).fst) x'.snd.fst).Perm (keysAt y.ts (inP seg)) ∧ ∀ (k : Int), List.Mem k x'.snd.fst → List.Mem k (List.map (fun (x : Int × (Int × Int) × Int) => x.fst) 
  y.ts)) ∧ x'.snd.fst.length < x.snd.fst.length ∧ (((True ∧ True) ∧ True ∧ True ∧ SV.val (Value.slice none (0 : Nat) (0 : Nat)) = SV.val (Value.slice none (0 : Nat) (0 : Nat)) ∧ True ∧ True ∧ seg = seg ∧ True) ∧ (True ∧ 
  True ∧ True ∧ True ∧ True) ∧ True) ∧ (True ∧ True ∧ false = false ∧ SV.val (Value.slice none (0 : Nat) (0 : Nat)) = SV.val (Value.slice none (0 : Nat) (0 : Nat)) ∧ True ∧ True ∧ (True ∧ True) ∧ True) ∧ (y.la = y.la ∧ 
  True ∧ True ∧ True) ∧ (y.ts = y.ts ∧ some key = x'.fst ∧ x.snd.fst.eraseIdx n = x'.snd.fst) ∧ (y.hs = y.hs ∧ True) ∧ y.os = y.os ∧ (seg = seg ∧ True) ∧ (True ∧ True) ∧ True ∧ x.snd.snd = x'.snd.snd ∧ True)) := by kernel_rfl
end Go.Proofs.Ytfdcmbaoekjkgaa
namespace Go.Proofs.Ytfdcmbaoekjkgaa
open Go.Proofs.Ytfdcmbaoekjkgaa.Gx
set_option maxRecDepth 100000
set_option maxHeartbeats 4000000
set_option linter.unusedSimpArgs false
set_option linter.unusedVariables false
theorem free_tail {R : Rm} {y : RmIn} {p : Int × Int → Bool} (hrel : RmRel R y) (ys : List Int) (hy : Row y.ts (keysAt y.ts p) ys) (hA : ys.length ≤ maxLen) :
    ∃ (x0 : Nat), x0.le ys.length ∧ ((0 : Int) = (x0 : Int) ∧ y.ts = delAll y.ts (List.take x0 ys)) ∧
      ∀ (x : Nat), x.le ys.length →
        (decide ((x : Int) < (ys.length : Int)) = true → ((0 : Int) ≤ (x : Int) ∧ (x : Int) < (ys.length : Int)) ∧ (x : Int).toNat < ys.length ∧
          ∀ (z : Int), ys[(x : Int).toNat]? = some z → ∃ (x' : Nat), x'.le ys.length ∧ ys.length - x' < ys.length - x ∧ IntKind.i64.wrap ((x : Int) + (1 : Int)) = (x' : Int) ∧ delL (delAll y.ts (List.take x ys)) z = delAll y.ts (List.take x' ys)) ∧
        (decide ((x : Int) < (ys.length : Int)) = false → ∃ (w : List Int × Tup KR (1 : Nat)),
          (Row (tks R) (keysAt (tks R) p) w.1 ∧ RmRel (last R, delAll (tks R) w.1, als R) w.2.1) ∧ ys = w.1 ∧ y.la = w.2.1.la ∧ delAll y.ts (List.take x ys) = w.2.1.ts ∧ y.hs = w.2.1.hs ∧ y.os = w.2.1.os) := by
  simp only [toNat_cast]
  refine ⟨0, Nat.zero_le _, ⟨rfl, by simp [delAll]⟩, fun i hi => ⟨fun hlt => ?_, fun hge => ?_⟩⟩
  · have hlt : i < ys.length := by simp at hlt; omega
    exact ⟨⟨by omega, by omega⟩, hlt, fun x hx => ⟨i + 1, hlt, by omega, wrap_succ hlt hA, delAll_take _ hx⟩⟩
  · have hi : i ≤ ys.length := hi
    have hie : i = ys.length := by simp at hge; omega
    subst hie
    rw [List.take_length]
    refine ⟨(ys, ⟨y.la, delAll y.ts ys, y.hs, y.os⟩, ()), ⟨by rw [hrel.ts]; exact hy, ?_⟩, rfl, rfl, rfl, rfl, rfl⟩
    have := rel_tk hrel (la := y.la) (ts := delAll y.ts ys) (List.Nodup.sublist ((delAll_sub ys y.ts).map _) hrel.tkeys)
    rw [hrel.la, hrel.ts]; exact this
theorem wakes_wfp {α : Type} {inn : α → rmT.den} {ss : α → List SV} {p : α → Int × Int → Bool} : ∀ A ∈ (wakes α inn ss p).alts, ∀ x y, SV.wf (A.outs x y).length (A.r x y) = true ∧ 1 ≤ (A.outs x y).length := by
  intro A hA
  obtain rfl := List.mem_singleton.1 hA
  exact fun x y => ⟨rfl, Nat.le_refl 1⟩
theorem wake_ok : wakeC.H.ok PP 14 := by
  refine wakeC.ok_of wakes_wfp ?_
  refine hc_ofP Fin.frz mixed (fn := Try.f14) (c := c14) rfl rfl wakeC.U (fun x => rfl) ?_
  rintro ⟨⟨R, seg, off⟩, (y : RmIn)⟩ ⟨hfew, hrel⟩
  have hrel : RmRel R y := hrel
  have hfew : fewT R := hfew
  refine ⟨env PP [] [s13 (atP seg off), s29] [] [] [], env_ok .., rfl, hold (wake_vc R seg off y) ?_⟩
  simp only [true_and, and_true, Bool.and_true]
  exact those_law (p := atP seg off) hrel hfew (fun ys hy hA => free_tail hrel ys hy hA)
theorem close_ok : closeC.H.ok PP 20 := by
  refine closeC.ok_of wakes_wfp ?_
  refine hc_ofP Fin.frz mixed (fn := Try.f20) (c := c20) rfl rfl closeC.U (fun x => rfl) ?_
  rintro ⟨⟨R, seg⟩, (y : RmIn)⟩ ⟨hfew, hrel⟩
  have hrel : RmRel R y := hrel
  have hfew : fewT R := hfew
  refine ⟨env PP [] [s27 (inP seg), s29] [] [] [], env_ok .., rfl, hold (close_vc R seg y) ?_⟩
  simp only [true_and, and_true, Bool.and_true]
  exact those_law (p := inP seg) hrel hfew (fun ys hy hA => free_tail hrel ys hy hA)
end Go.Proofs.Ytfdcmbaoekjkgaa
namespace Go.Proofs.Ytfdcmbaoekjkgaa
open Go.Proofs.Ytfdcmbaoekjkgaa.Gx
set_option maxRecDepth 100000
set_option linter.unusedVariables false
set_option maxHeartbeats 0
noncomputable def m9 : Sv PP := ⟨9, hspec newC.H [] fun ss S => match ss with | [] => some ([], ()) | _ => none, ⟨rfl, hspec_ok new_ok _ _⟩⟩
noncomputable def m10 : Sv PP := ⟨10, useRm waitC [] fun R ss => match ss with | [.int .i64 t, .int .i64 s, .int .i64 o] => some (R, t, s, o) | _ => none, ⟨rfl, hspec_ok wait_ok _ _⟩⟩
noncomputable def m11 : Sv PP := ⟨11, useRm forgetC [] fun R ss => match ss with | [.int .i64 t] => some (R, t) | _ => none, ⟨rfl, hspec_ok forget_ok _ _⟩⟩
noncomputable def m12 : Sv PP := ⟨12, useRm lenC [] fun R ss => match ss with | [] => some R | _ => none, ⟨rfl, hspec_ok len_ok _ _⟩⟩
noncomputable def m13 : Sv PP := ⟨13, useRm listC [] fun R ss => match ss with | [.int .i64 s, .int .i64 o] => some (R, s, o) | _ => none, ⟨rfl, hspec_ok list_ok _ _⟩⟩
noncomputable def m14 : Sv PP := ⟨14, useRm wakeC [] fun R ss => match ss with | [.int .i64 s, .int .i64 o] => some (R, s, o) | _ => none, ⟨rfl, hspec_ok wake_ok _ _⟩⟩
noncomputable def m16 : Sv PP := ⟨16, useRm postC [] fun R ss => match ss with | [.int .i64 t, .int .i64 c] => some (R, t, c) | _ => none, ⟨rfl, hspec_ok post_ok _ _⟩⟩
noncomputable def m17 : Sv PP := ⟨17, useRm takeC [] fun R ss => match ss with | [.int .i64 t] => some (R, t) | _ => none, ⟨rfl, hspec_ok take_ok _ _⟩⟩
noncomputable def m18 : Sv PP := ⟨18, useRm alertsC [] fun R ss => match ss with | [.int .i64 t] => some (R, t) | _ => none, ⟨rfl, hspec_ok alerts_ok _ _⟩⟩
noncomputable def m20 : Sv PP := ⟨20, useRm closeC [] fun R ss => match ss with | [.int .i64 t] => some (R, t) | _ => none, ⟨rfl, hspec_ok close_ok _ _⟩⟩
noncomputable def m21 : Sv PP := ⟨21, useRm whereC [] fun R ss => match ss with | [.int .i64 t] => some (R, t) | _ => none, ⟨rfl, hspec_ok where_ok _ _⟩⟩
theorem lives_vc : (fvc PP (env PP [] [m9, m10, m12, m14, m16, m17, b15] [] [] []) Try.f8 c8 (ofArgs [] ()) St0 (gives [.bool] (true, ()))) = (
  True ∧ True ∧ True ∧ (∀ (y : Unit), True → True ∧ (True ∧ (5 : Int) = (5 : Int) ∧ (9 : Int) = (9 : Int) ∧ (0 : Int) = (0 : Int) ∧ True) ∧ ((KR.cust = KR.cust ∧ ((0 : Int), [], []) = waitC.inn (((0 : Int), [], []), (5 : 
  Int), (9 : Int), (0 : Int))) ∧ True) ∧ (∀ (y : Unit), True → (((waitR ((0 : Int), [], []) (5 : Int) (9 : Int) (0 : Int)).fst != (0 : Int)) = false → True ∧ (True ∧ (6 : Int) = (6 : Int) ∧ (9 : Int) = (9 : Int) ∧ (8 : 
  Int) = (8 : Int) ∧ True) ∧ ((KR.cust = KR.cust ∧ (waitR ((0 : Int), [], []) (5 : Int) (9 : Int) (0 : Int)).snd = waitC.inn ((waitR ((0 : Int), [], []) (5 : Int) (9 : Int) (0 : Int)).snd, (6 : Int), (9 : Int), (8 : 
  Int))) ∧ True) ∧ (∀ (y : Unit), True → (((waitR (waitR ((0 : Int), [], []) (5 : Int) (9 : Int) (0 : Int)).snd (6 : Int) (9 : Int) (8 : Int)).fst != (0 : Int)) = false → True ∧ (True ∧ (7 : Int) = (7 : Int) ∧ (9 : Int) 
  = (9 : Int) ∧ (0 : Int) = (0 : Int) ∧ True) ∧ ((KR.cust = KR.cust ∧ (waitR (waitR ((0 : Int), [], []) (5 : Int) (9 : Int) (0 : Int)).snd (6 : Int) (9 : Int) (8 : Int)).snd = waitC.inn ((waitR (waitR ((0 : Int), [], []) 
  (5 : Int) (9 : Int) (0 : Int)).snd (6 : Int) (9 : Int) (8 : Int)).snd, (7 : Int), (9 : Int), (0 : Int))) ∧ True) ∧ (∀ (y : Unit), True → (((waitR (waitR (waitR ((0 : Int), [], []) (5 : Int) (9 : Int) (0 : Int)).snd (6 
  : Int) (9 : Int) (8 : Int)).snd (7 : Int) (9 : Int) (0 : Int)).fst != (0 : Int)) = false → Nat.le (3 : Nat) (1000000000000 : Nat) ∧ (True ∧ (9 : Int) = (9 : Int) ∧ (0 : Int) = (0 : Int) ∧ True) ∧ ((KR.cust = KR.cust ∧ 
  (waitR (waitR (waitR ((0 : Int), [], []) (5 : Int) (9 : Int) (0 : Int)).snd (6 : Int) (9 : Int) (8 : Int)).snd (7 : Int) (9 : Int) (0 : Int)).snd = wakeC.inn ((waitR (waitR (waitR ((0 : Int), [], []) (5 : Int) (9 : 
  Int) (0 : Int)).snd (6 : Int) (9 : Int) (8 : Int)).snd (7 : Int) (9 : Int) (0 : Int)).snd, (9 : Int), (0 : Int))) ∧ True) ∧ (∀ (y : List Int), Row (tks (waitR (waitR (waitR ((0 : Int), [], []) (5 : Int) (9 : Int) (0 : 
  Int)).snd (6 : Int) (9 : Int) (8 : Int)).snd (7 : Int) (9 : Int) (0 : Int)).snd) (keysAt (tks (waitR (waitR (waitR ((0 : Int), [], []) (5 : Int) (9 : Int) (0 : Int)).snd (6 : Int) (9 : Int) (8 : Int)).snd (7 : Int) (9 
  : Int) (0 : Int)).snd) (atP (9 : Int) (0 : Int))) y → true = true ∧ ((!sameI y [(5 : Int), (7 : Int)]) = false → True ∧ (True ∧ (6 : Int) = (6 : Int) ∧ (9 : Int) = (9 : Int) ∧ (0 : Int) = (0 : Int) ∧ True) ∧ ((KR.cust 
  = KR.cust ∧ (last (waitR (waitR (waitR ((0 : Int), [], []) (5 : Int) (9 : Int) (0 : Int)).snd (6 : Int) (9 : Int) (8 : Int)).snd (7 : Int) (9 : Int) (0 : Int)).snd, delAll (tks (waitR (waitR (waitR ((0 : Int), [], []) 
  (5 : Int) (9 : Int) (0 : Int)).snd (6 : Int) (9 : Int) (8 : Int)).snd (7 : Int) (9 : Int) (0 : Int)).snd) y, als (waitR (waitR (waitR ((0 : Int), [], []) (5 : Int) (9 : Int) (0 : Int)).snd (6 : Int) (9 : Int) (8 : 
  Int)).snd (7 : Int) (9 : Int) (0 : Int)).snd) = waitC.inn ((last (waitR (waitR (waitR ((0 : Int), [], []) (5 : Int) (9 : Int) (0 : Int)).snd (6 : Int) (9 : Int) (8 : Int)).snd (7 : Int) (9 : Int) (0 : Int)).snd, delAll 
  (tks (waitR (waitR (waitR ((0 : Int), [], []) (5 : Int) (9 : Int) (0 : Int)).snd (6 : Int) (9 : Int) (8 : Int)).snd (7 : Int) (9 : Int) (0 : Int)).snd) y, als (waitR (waitR (waitR ((0 : Int), [], []) (5 : Int) (9 : 
  Int) (0 : Int)).snd (6 : Int) (9 : Int) (8 : Int)).snd (7 : Int) (9 : Int) (0 : Int)).snd), (6 : Int), (9 : Int), (0 : Int))) ∧ True) ∧ (∀ (y_1 : Unit), True → (((waitR (last (waitR (waitR (waitR ((0 : Int), [], []) (5 
  : Int) (9 : Int) (0 : Int)).snd (6 : Int) (9 : Int) (8 : Int)).snd (7 : Int) (9 : Int) (0 : Int)).snd, delAll (tks (waitR (waitR (waitR ((0 : Int), [], []) (5 : Int) (9 : Int) (0 : Int)).snd (6 : Int) (9 : Int) (8 : 
  Int)).snd (7 : Int) (9 : Int) (0 : Int)).snd) y, als (waitR (waitR (waitR ((0 : Int), [], []) (5 : Int) (9 : Int) (0 : Int)).snd (6 : Int) (9 : Int) (8 : Int)).snd (7 : Int) (9 : Int) (0 : Int)).snd) (6 : Int) (9 : 
  Int) (0 : Int)).fst != (8 : Int)) = true → false = true ∧ True) ∧ (((waitR (last (waitR (waitR (waitR ((0 : Int), [], []) (5 : Int) (9 : Int) (0 : Int)).snd (6 : Int) (9 : Int) (8 : Int)).snd (7 : Int) (9 : Int) (0 : 
  Int)).snd, delAll (tks (waitR (waitR (waitR ((0 : Int), [], []) (5 : Int) (9 : Int) (0 : Int)).snd (6 : Int) (9 : Int) (8 : Int)).snd (7 : Int) (9 : Int) (0 : Int)).snd) y, als (waitR (waitR (waitR ((0 : Int), [], []) 
  (5 : Int) (9 : Int) (0 : Int)).snd (6 : Int) (9 : Int) (8 : Int)).snd (7 : Int) (9 : Int) (0 : Int)).snd) (6 : Int) (9 : Int) (0 : Int)).fst != (8 : Int)) = false → True ∧ (True ∧ (6 : Int) = (6 : Int) ∧ (3 : Int) = (3 
  : Int) ∧ True) ∧ ((KR.cust = KR.cust ∧ (waitR (last (waitR (waitR (waitR ((0 : Int), [], []) (5 : Int) (9 : Int) (0 : Int)).snd (6 : Int) (9 : Int) (8 : Int)).snd (7 : Int) (9 : Int) (0 : Int)).snd, delAll (tks (waitR 
  (waitR (waitR ((0 : Int), [], []) (5 : Int) (9 : Int) (0 : Int)).snd (6 : Int) (9 : Int) (8 : Int)).snd (7 : Int) (9 : Int) (0 : Int)).snd) y, als (waitR (waitR (waitR ((0 : Int), [], []) (5 : Int) (9 : Int) (0 : 
  Int)).snd (6 : Int) (9 : Int) (8 : Int)).snd (7 : Int) (9 : Int) (0 : Int)).snd) (6 : Int) (9 : Int) (0 : Int)).snd = postC.inn ((waitR (last (waitR (waitR (waitR ((0 : Int), [], []) (5 : Int) (9 : Int) (0 : Int)).snd 
  (6 : Int) (9 : Int) (8 : Int)).snd (7 : Int) (9 : Int) (0 : Int)).snd, delAll (tks (waitR (waitR (waitR ((0 : Int), [], []) (5 : Int) (9 : Int) (0 : Int)).snd (6 : Int) (9 : Int) (8 : Int)).snd (7 : Int) (9 : Int) (0 : 
  Int)).snd) y, als (waitR (waitR (waitR ((0 : Int), [], []) (5 : Int) (9 : Int) (0 : Int)).snd (6 : Int) (9 : Int) (8 : Int)).snd (7 : Int) (9 : Int) (0 : Int)).snd) (6 : Int) (9 : Int) (0 : Int)).snd, (6 : Int), (3 : 
  Int))) ∧ True) ∧ (∀ (y_2 : Unit), True → True ∧ (True ∧ (6 : Int) = (6 : Int) ∧ (9 : Int) = (9 : Int) ∧ (0 : Int) = (0 : Int) ∧ True) ∧ ((KR.cust = KR.cust ∧ (postR (waitR (last (waitR (waitR (waitR ((0 : Int), [], []) 
  (5 : Int) (9 : Int) (0 : Int)).snd (6 : Int) (9 : Int) (8 : Int)).snd (7 : Int) (9 : Int) (0 : Int)).snd, delAll (tks (waitR (waitR (waitR ((0 : Int), [], []) (5 : Int) (9 : Int) (0 : Int)).snd (6 : Int) (9 : Int) (8 : 
  Int)).snd (7 : Int) (9 : Int) (0 : Int)).snd) y, als (waitR (waitR (waitR ((0 : Int), [], []) (5 : Int) (9 : Int) (0 : Int)).snd (6 : Int) (9 : Int) (8 : Int)).snd (7 : Int) (9 : Int) (0 : Int)).snd) (6 : Int) (9 : 
  Int) (0 : Int)).snd (6 : Int) (3 : Int)).snd.snd = waitC.inn ((postR (waitR (last (waitR (waitR (waitR ((0 : Int), [], []) (5 : Int) (9 : Int) (0 : Int)).snd (6 : Int) (9 : Int) (8 : Int)).snd (7 : Int) (9 : Int) (0 : 
  Int)).snd, delAll (tks (waitR (waitR (waitR ((0 : Int), [], []) (5 : Int) (9 : Int) (0 : Int)).snd (6 : Int) (9 : Int) (8 : Int)).snd (7 : Int) (9 : Int) (0 : Int)).snd) y, als (waitR (waitR (waitR ((0 : Int), [], []) 
  (5 : Int) (9 : Int) (0 : Int)).snd (6 : Int) (9 : Int) (8 : Int)).snd (7 : Int) (9 : Int) (0 : Int)).snd) (6 : Int) (9 : Int) (0 : Int)).snd (6 : Int) (3 : Int)).snd.snd, (6 : Int), (9 : Int), (0 : Int))) ∧ True) ∧ (∀ 
  (y_3 : Unit), True → True ∧ (True ∧ (6 : Int) = (6 : Int) ∧ True) ∧ ((KR.cust = KR.cust ∧ (waitR (postR (waitR (last (waitR (waitR (waitR ((0 : Int), [], []) (5 : Int) (9 : Int) (0 : Int)).snd (6 : Int) (9 : Int) (8 : 
  Int)).snd (7 : Int) (9 : Int) (0 : Int)).snd, delAll (tks (waitR (waitR (waitR ((0 : Int), [], []) (5 : Int) (9 : Int) (0 : Int)).snd (6 : Int) (9 : Int) (8 : Int)).snd (7 : Int) (9 : Int) (0 : Int)).snd) y, als (waitR 
  (waitR (waitR ((0 : Int), [], []) (5 : Int) (9 : Int) (0 : Int)).snd (6 : Int) (9 : Int) (8 : Int)).snd (7 : Int) (9 : Int) (0 : Int)).snd) (6 : Int) (9 : Int) (0 : Int)).snd (6 : Int) (3 : Int)).snd.snd (6 : Int) (9 : 
  Int) (0 : Int)).snd = takeC.inn ((waitR (postR (waitR (last (waitR (waitR (waitR ((0 : Int), [], []) (5 : Int) (9 : Int) (0 : Int)).snd (6 : Int) (9 : Int) (8 : Int)).snd (7 : Int) (9 : Int) (0 : Int)).snd, delAll (tks 
  (waitR (waitR (waitR ((0 : Int), [], []) (5 : Int) (9 : Int) (0 : Int)).snd (6 : Int) (9 : Int) (8 : Int)).snd (7 : Int) (9 : Int) (0 : Int)).snd) y, als (waitR (waitR (waitR ((0 : Int), [], []) (5 : Int) (9 : Int) (0 
  : Int)).snd (6 : Int) (9 : Int) (8 : Int)).snd (7 : Int) (9 : Int) (0 : Int)).snd) (6 : Int) (9 : Int) (0 : Int)).snd (6 : Int) (3 : Int)).snd.snd (6 : Int) (9 : Int) (0 : Int)).snd, (6 : Int))) ∧ True) ∧ (∀ (y_4 : 
  Unit), True → ((postR (waitR (last (waitR (waitR (waitR ((0 : Int), [], []) (5 : Int) (9 : Int) (0 : Int)).snd (6 : Int) (9 : Int) (8 : Int)).snd (7 : Int) (9 : Int) (0 : Int)).snd, delAll (tks (waitR (waitR (waitR ((0 
  : Int), [], []) (5 : Int) (9 : Int) (0 : Int)).snd (6 : Int) (9 : Int) (8 : Int)).snd (7 : Int) (9 : Int) (0 : Int)).snd) y, als (waitR (waitR (waitR ((0 : Int), [], []) (5 : Int) (9 : Int) (0 : Int)).snd (6 : Int) (9 
  : Int) (8 : Int)).snd (7 : Int) (9 : Int) (0 : Int)).snd) (6 : Int) (9 : Int) (0 : Int)).snd (6 : Int) (3 : Int)).fst = true → (((postR (waitR (last (waitR (waitR (waitR ((0 : Int), [], []) (5 : Int) (9 : Int) (0 : 
  Int)).snd (6 : Int) (9 : Int) (8 : Int)).snd (7 : Int) (9 : Int) (0 : Int)).snd, delAll (tks (waitR (waitR (waitR ((0 : Int), [], []) (5 : Int) (9 : Int) (0 : Int)).snd (6 : Int) (9 : Int) (8 : Int)).snd (7 : Int) (9 : 
  Int) (0 : Int)).snd) y, als (waitR (waitR (waitR ((0 : Int), [], []) (5 : Int) (9 : Int) (0 : Int)).snd (6 : Int) (9 : Int) (8 : Int)).snd (7 : Int) (9 : Int) (0 : Int)).snd) (6 : Int) (9 : Int) (0 : Int)).snd (6 : 
  Int) (3 : Int)).snd.fst == (0 : Int)) = true → (((waitR (postR (waitR (last (waitR (waitR (waitR ((0 : Int), [], []) (5 : Int) (9 : Int) (0 : Int)).snd (6 : Int) (9 : Int) (8 : Int)).snd (7 : Int) (9 : Int) (0 : 
  Int)).snd, delAll (tks (waitR (waitR (waitR ((0 : Int), [], []) (5 : Int) (9 : Int) (0 : Int)).snd (6 : Int) (9 : Int) (8 : Int)).snd (7 : Int) (9 : Int) (0 : Int)).snd) y, als (waitR (waitR (waitR ((0 : Int), [], []) 
  (5 : Int) (9 : Int) (0 : Int)).snd (6 : Int) (9 : Int) (8 : Int)).snd (7 : Int) (9 : Int) (0 : Int)).snd) (6 : Int) (9 : Int) (0 : Int)).snd (6 : Int) (3 : Int)).snd.snd (6 : Int) (9 : Int) (0 : Int)).fst == (10 : 
  Int)) = true → (((takeR (waitR (postR (waitR (last (waitR (waitR (waitR ((0 : Int), [], []) (5 : Int) (9 : Int) (0 : Int)).snd (6 : Int) (9 : Int) (8 : Int)).snd (7 : Int) (9 : Int) (0 : Int)).snd, delAll (tks (waitR 
  (waitR (waitR ((0 : Int), [], []) (5 : Int) (9 : Int) (0 : Int)).snd (6 : Int) (9 : Int) (8 : Int)).snd (7 : Int) (9 : Int) (0 : Int)).snd) y, als (waitR (waitR (waitR ((0 : Int), [], []) (5 : Int) (9 : Int) (0 : 
  Int)).snd (6 : Int) (9 : Int) (8 : Int)).snd (7 : Int) (9 : Int) (0 : Int)).snd) (6 : Int) (9 : Int) (0 : Int)).snd (6 : Int) (3 : Int)).snd.snd (6 : Int) (9 : Int) (0 : Int)).snd (6 : Int)).fst == (3 : Int)) = true → 
  ((takeR (waitR (postR (waitR (last (waitR (waitR (waitR ((0 : Int), [], []) (5 : Int) (9 : Int) (0 : Int)).snd (6 : Int) (9 : Int) (8 : Int)).snd (7 : Int) (9 : Int) (0 : Int)).snd, delAll (tks (waitR (waitR (waitR ((0 
  : Int), [], []) (5 : Int) (9 : Int) (0 : Int)).snd (6 : Int) (9 : Int) (8 : Int)).snd (7 : Int) (9 : Int) (0 : Int)).snd) y, als (waitR (waitR (waitR ((0 : Int), [], []) (5 : Int) (9 : Int) (0 : Int)).snd (6 : Int) (9 
  : Int) (8 : Int)).snd (7 : Int) (9 : Int) (0 : Int)).snd) (6 : Int) (9 : Int) (0 : Int)).snd (6 : Int) (3 : Int)).snd.snd (6 : Int) (9 : Int) (0 : Int)).snd (6 : Int)).snd.fst = true → True ∧ (True ∧ True) ∧ ((KR.cust 
  = KR.cust ∧ (takeR (waitR (postR (waitR (last (waitR (waitR (waitR ((0 : Int), [], []) (5 : Int) (9 : Int) (0 : Int)).snd (6 : Int) (9 : Int) (8 : Int)).snd (7 : Int) (9 : Int) (0 : Int)).snd, delAll (tks (waitR (waitR 
  (waitR ((0 : Int), [], []) (5 : Int) (9 : Int) (0 : Int)).snd (6 : Int) (9 : Int) (8 : Int)).snd (7 : Int) (9 : Int) (0 : Int)).snd) y, als (waitR (waitR (waitR ((0 : Int), [], []) (5 : Int) (9 : Int) (0 : Int)).snd (6 
  : Int) (9 : Int) (8 : Int)).snd (7 : Int) (9 : Int) (0 : Int)).snd) (6 : Int) (9 : Int) (0 : Int)).snd (6 : Int) (3 : Int)).snd.snd (6 : Int) (9 : Int) (0 : Int)).snd (6 : Int)).snd.snd = lenC.inn (takeR (waitR (postR 
  (waitR (last (waitR (waitR (waitR ((0 : Int), [], []) (5 : Int) (9 : Int) (0 : Int)).snd (6 : Int) (9 : Int) (8 : Int)).snd (7 : Int) (9 : Int) (0 : Int)).snd, delAll (tks (waitR (waitR (waitR ((0 : Int), [], []) (5 : 
  Int) (9 : Int) (0 : Int)).snd (6 : Int) (9 : Int) (8 : Int)).snd (7 : Int) (9 : Int) (0 : Int)).snd) y, als (waitR (waitR (waitR ((0 : Int), [], []) (5 : Int) (9 : Int) (0 : Int)).snd (6 : Int) (9 : Int) (8 : Int)).snd 
  (7 : Int) (9 : Int) (0 : Int)).snd) (6 : Int) (9 : Int) (0 : Int)).snd (6 : Int) (3 : Int)).snd.snd (6 : Int) (9 : Int) (0 : Int)).snd (6 : Int)).snd.snd) ∧ True) ∧ (∀ (y_5 : Unit), True → ((↑(tks (takeR (waitR (postR 
  (waitR (last (waitR (waitR (waitR ((0 : Int), [], []) (5 : Int) (9 : Int) (0 : Int)).snd (6 : Int) (9 : Int) (8 : Int)).snd (7 : Int) (9 : Int) (0 : Int)).snd, delAll (tks (waitR (waitR (waitR ((0 : Int), [], []) (5 : 
  Int) (9 : Int) (0 : Int)).snd (6 : Int) (9 : Int) (8 : Int)).snd (7 : Int) (9 : Int) (0 : Int)).snd) y, als (waitR (waitR (waitR ((0 : Int), [], []) (5 : Int) (9 : Int) (0 : Int)).snd (6 : Int) (9 : Int) (8 : Int)).snd 
  (7 : Int) (9 : Int) (0 : Int)).snd) (6 : Int) (9 : Int) (0 : Int)).snd (6 : Int) (3 : Int)).snd.snd (6 : Int) (9 : Int) (0 : Int)).snd (6 : Int)).snd.snd).length : Int) == (0 : Int)) = true ∧ True) ∧ True) ∧ ((takeR 
  (waitR (postR (waitR (last (waitR (waitR (waitR ((0 : Int), [], []) (5 : Int) (9 : Int) (0 : Int)).snd (6 : Int) (9 : Int) (8 : Int)).snd (7 : Int) (9 : Int) (0 : Int)).snd, delAll (tks (waitR (waitR (waitR ((0 : Int), 
  [], []) (5 : Int) (9 : Int) (0 : Int)).snd (6 : Int) (9 : Int) (8 : Int)).snd (7 : Int) (9 : Int) (0 : Int)).snd) y, als (waitR (waitR (waitR ((0 : Int), [], []) (5 : Int) (9 : Int) (0 : Int)).snd (6 : Int) (9 : Int) 
  (8 : Int)).snd (7 : Int) (9 : Int) (0 : Int)).snd) (6 : Int) (9 : Int) (0 : Int)).snd (6 : Int) (3 : Int)).snd.snd (6 : Int) (9 : Int) (0 : Int)).snd (6 : Int)).snd.fst = !true → false = true ∧ True)) ∧ (((takeR (waitR 
  (postR (waitR (last (waitR (waitR (waitR ((0 : Int), [], []) (5 : Int) (9 : Int) (0 : Int)).snd (6 : Int) (9 : Int) (8 : Int)).snd (7 : Int) (9 : Int) (0 : Int)).snd, delAll (tks (waitR (waitR (waitR ((0 : Int), [], 
  []) (5 : Int) (9 : Int) (0 : Int)).snd (6 : Int) (9 : Int) (8 : Int)).snd (7 : Int) (9 : Int) (0 : Int)).snd) y, als (waitR (waitR (waitR ((0 : Int), [], []) (5 : Int) (9 : Int) (0 : Int)).snd (6 : Int) (9 : Int) (8 : 
  Int)).snd (7 : Int) (9 : Int) (0 : Int)).snd) (6 : Int) (9 : Int) (0 : Int)).snd (6 : Int) (3 : Int)).snd.snd (6 : Int) (9 : Int) (0 : Int)).snd (6 : Int)).fst == (3 : Int)) = !true → false = true ∧ True)) ∧ (((waitR 
  (postR (waitR (last (waitR (waitR (waitR ((0 : Int), [], []) (5 : Int) (9 : Int) (0 : Int)).snd (6 : Int) (9 : Int) (8 : Int)).snd (7 : Int) (9 : Int) (0 : Int)).snd, delAll (tks (waitR (waitR (waitR ((0 : Int), [], 
  []) (5 : Int) (9 : Int) (0 : Int)).snd (6 : Int) (9 : Int) (8 : Int)).snd (7 : Int) (9 : Int) (0 : Int)).snd) y, als (waitR (waitR (waitR ((0 : Int), [], []) (5 : Int) (9 : Int) (0 : Int)).snd (6 : Int) (9 : Int) (8 : 
  Int)).snd (7 : Int) (9 : Int) (0 : Int)).snd) (6 : Int) (9 : Int) (0 : Int)).snd (6 : Int) (3 : Int)).snd.snd (6 : Int) (9 : Int) (0 : Int)).fst == (10 : Int)) = !true → false = true ∧ True)) ∧ (((postR (waitR (last 
  (waitR (waitR (waitR ((0 : Int), [], []) (5 : Int) (9 : Int) (0 : Int)).snd (6 : Int) (9 : Int) (8 : Int)).snd (7 : Int) (9 : Int) (0 : Int)).snd, delAll (tks (waitR (waitR (waitR ((0 : Int), [], []) (5 : Int) (9 : 
  Int) (0 : Int)).snd (6 : Int) (9 : Int) (8 : Int)).snd (7 : Int) (9 : Int) (0 : Int)).snd) y, als (waitR (waitR (waitR ((0 : Int), [], []) (5 : Int) (9 : Int) (0 : Int)).snd (6 : Int) (9 : Int) (8 : Int)).snd (7 : Int) 
  (9 : Int) (0 : Int)).snd) (6 : Int) (9 : Int) (0 : Int)).snd (6 : Int) (3 : Int)).snd.fst == (0 : Int)) = !true → false = true ∧ True)) ∧ ((postR (waitR (last (waitR (waitR (waitR ((0 : Int), [], []) (5 : Int) (9 : 
  Int) (0 : Int)).snd (6 : Int) (9 : Int) (8 : Int)).snd (7 : Int) (9 : Int) (0 : Int)).snd, delAll (tks (waitR (waitR (waitR ((0 : Int), [], []) (5 : Int) (9 : Int) (0 : Int)).snd (6 : Int) (9 : Int) (8 : Int)).snd (7 : 
  Int) (9 : Int) (0 : Int)).snd) y, als (waitR (waitR (waitR ((0 : Int), [], []) (5 : Int) (9 : Int) (0 : Int)).snd (6 : Int) (9 : Int) (8 : Int)).snd (7 : Int) (9 : Int) (0 : Int)).snd) (6 : Int) (9 : Int) (0 : 
  Int)).snd (6 : Int) (3 : Int)).fst = !true → false = true ∧ True)) ∧ True) ∧ True) ∧ True)) ∧ True) ∧ ((!sameI y [(5 : Int), (7 : Int)]) = !false → false = true ∧ True)) ∧ True) ∧ (((waitR (waitR (waitR ((0 : Int), [], 
  []) (5 : Int) (9 : Int) (0 : Int)).snd (6 : Int) (9 : Int) (8 : Int)).snd (7 : Int) (9 : Int) (0 : Int)).fst != (0 : Int)) = !false → false = true ∧ True)) ∧ True) ∧ (((waitR (waitR ((0 : Int), [], []) (5 : Int) (9 : 
  Int) (0 : Int)).snd (6 : Int) (9 : Int) (8 : Int)).fst != (0 : Int)) = !false → false = true ∧ True)) ∧ True) ∧ (((waitR ((0 : Int), [], []) (5 : Int) (9 : Int) (0 : Int)).fst != (0 : Int)) = !false → false = true ∧ 
  True)) ∧ True) ∧ True) := by kernel_rfl
end Go.Proofs.Ytfdcmbaoekjkgaa
namespace Go.Proofs.Ytfdcmbaoekjkgaa
open Go.Proofs.Ytfdcmbaoekjkgaa.Gx
set_option maxRecDepth 100000
set_option maxHeartbeats 4000000
set_option linter.unusedSimpArgs false
set_option linter.unusedVariables false
theorem row_eq {ts : List (Int × Tk)} : {xs ys : List Int} → Row ts xs ys → xs.Pairwise (fun a b => noOf ts a < noOf ts b) → ys = xs
  | [], ys, h, _ => by have := h.perm.length_eq; exact List.eq_nil_of_length_eq_zero (by simpa using this)
  | x :: xs, [], h, _ => by have := h.perm.length_eq; simp at this
  | x :: xs, y :: ys, h, hs => by
    have hx : x ∈ y :: ys := h.perm.symm.subset (List.mem_cons_self ..)
    have hy : y ∈ x :: xs := h.perm.subset (List.mem_cons_self ..)
    have e : y = x := by
      rcases List.mem_cons.1 hx with e | hx
      · exact e.symm
      rcases List.mem_cons.1 hy with e | hy
      · exact e
      have h1 := (List.pairwise_cons.1 h.sorted).1 x hx
      have h2 := (List.pairwise_cons.1 hs).1 y hy
      omega
    subst e
    have := row_eq ⟨h.perm.cons_inv, (List.pairwise_cons.1 h.sorted).2⟩ (List.pairwise_cons.1 hs).2
    rw [this]
theorem row_iff {ts : List (Int × Tk)} {xs : List Int} (hs : xs.Pairwise fun a b => noOf ts a < noOf ts b) {G : List Int → Prop} : (∀ ys, Row ts xs ys → G ys) ↔ G xs :=
  ⟨fun h => h xs ⟨List.Perm.refl _, hs.imp fun h => Int.le_of_lt h⟩, fun h ys hy => row_eq hy hs ▸ h⟩
abbrev W3 : Rm := (3, [(5, ((9, 0), 1)), (6, ((9, 8), 2)), (7, ((9, 0), 3))], [])
theorem r1 {G : List Int → Prop} : (∀ ys, Row (tks (3, [(5, ((9, 0), 1)), (6, ((9, 8), 2)), (7, ((9, 0), 3))], [])) (keysAt (tks (3, [(5, ((9, 0), 1)), (6, ((9, 8), 2)), (7, ((9, 0), 3))], [])) (atP 9 0)) ys → G ys) ↔ G [5, 7] := by
  have e : keysAt (tks W3) (atP 9 0) = [5, 7] := by rfl
  have := row_iff (ts := tks W3) (xs := [5, 7]) (by decide) (G := G)
  rw [← this, ← e]
theorem r2 : (last (3, [(5, ((9, 0), 1)), (6, ((9, 8), 2)), (7, ((9, 0), 3))], []), delAll (tks (3, [(5, ((9, 0), 1)), (6, ((9, 8), 2)), (7, ((9, 0), 3))], [])) [5, 7], als (3, [(5, ((9, 0), 1)), (6, ((9, 8), 2)), (7, ((9, 0), 3))], [])) = ((3, [(6, ((9, 8), 2))], []) : Rm) := by rfl
theorem r3 : sameI [5, 7] [5, 7] = true := by rfl
theorem w1 : waitR (0, [], []) 5 9 0 = (0, (1, [(5, ((9, 0), 1))], [])) := by rfl
theorem w2 : waitR (1, [(5, ((9, 0), 1))], []) 6 9 8 = (0, (2, [(5, ((9, 0), 1)), (6, ((9, 8), 2))], [])) := by rfl
theorem w3 : waitR (2, [(5, ((9, 0), 1)), (6, ((9, 8), 2))], []) 7 9 0 = (0, (3, [(5, ((9, 0), 1)), (6, ((9, 8), 2)), (7, ((9, 0), 3))], [])) := by rfl
theorem w4 : waitR (3, [(6, ((9, 8), 2))], []) 6 9 0 = (8, (3, [(6, ((9, 8), 2))], [])) := by rfl
theorem w5 : postR (3, [(6, ((9, 8), 2))], []) 6 3 = (true, 0, (3, [], [(6, [3])])) := by rfl
theorem w6 : waitR (3, [], [(6, [3])]) 6 9 0 = (10, (3, [], [(6, [3])])) := by rfl
theorem w7 : takeR (3, [], [(6, [3])]) 6 = (3, true, (3, [], [])) := by rfl
theorem lives_ok : PSpecOk PP 8 (Q [] [.bool] (fun _ => true) (fun _ => (true, ()))) := by
  refine pspec_Q mixed (fn := Try.f8) (c := c8) rfl rfl _ _ rfl ?_
  rintro ⟨⟩ - -
  refine ⟨env PP [] [m9, m10, m12, m14, m16, m17, b15] [] [] [], env_ok .., rfl, hold lives_vc ?_⟩
  simp only [true_and, and_true, waitC, turns, wakeC, wakes, takeC, postC, lenC, looks, w1, w2, w3, bne_self_eq_false, true_implies, implies_true, forall_const, r1, r2, r3, w4, w5, w6, w7]
  have h3 : Nat.le 3 1000000000000 := show (3 : Nat) ≤ 1000000000000 by omega
  simp [tks, h3]
noncomputable def p8 : Pv PP := ⟨8, _, ⟨rfl, lives_ok⟩⟩
end Go.Proofs.Ytfdcmbaoekjkgaa
namespace Go.Proofs.Ytfdcmbaoekjkgaa
open Go.Proofs.Ytfdcmbaoekjkgaa.Gx
set_option linter.unusedSimpArgs false
set_option linter.unusedVariables false
/-- Nobody has an alert; those that wait came in their order. -/
structure Came (R : Rm) (n : Nat) : Prop where
  al : als R = []
  nd : ((tks R).map (·.1)).Nodup
  asc : (tks R).Pairwise fun a b => a.2.2 < b.2.2
  le : ∀ x ∈ tks R, x.2.2 ≤ last R
  lo : 0 ≤ last R
  hi : last R ≤ n
  few : (tks R).length ≤ n
def at9 (R : Rm) : List Int := keysAt (tks R) (atP 9 0)
def ordLoop (th ot le : List Int) : List (Nat × (St → Option LoopSpec)) :=
  [(6, fun (S : St) => match getT S.fr.tm 7 with
    | .ptr j 0 => some { α := Nat × Rm × List Int, inv := fun x => (x.1 ≤ th.length ∧ x.1 ≤ 60) ∧ Came x.2.1 (2 * x.1) ∧ x.2.2 = at9 x.2.1, ov := fun x => [(24, .int .i64 (x.1 : Int)), (8, .row S.res.length)], rov := fun x => [(j, .cust rmT KR.cust x.2.1), (S.res.length, .row 0 i64 x.2.2)], meas := fun x => th.length - x.1, nil := [(.slot 8, 3, i64)] }
    | _ => none),
   (15, fun (S : St) => match getT S.fr.tm 7, getT S.fr.tm 8 with
    | .ptr j 0, .row k => some { α := Nat × Rm × List Int, inv := fun x => x.1 ≤ le.length ∧ Came x.2.1 120 ∧ x.2.2 = at9 x.2.1, ov := fun x => [(54, .int .i64 (x.1 : Int)), (8, .row k)], rov := fun x => [(j, .cust rmT KR.cust x.2.1), (k, .row 0 i64 x.2.2)], meas := fun x => le.length - x.1, mv := [(.slot 8, k)] }
    | _, _ => none),
   (20, fun (S : St) => match getT S.fr.tm 62, getT S.fr.tm 12 with
    | .row j, .int .i64 t => match S.res[j]? with
      | some (.row _ (.int .i64) xs) => match getT S.fr.tm 13 with
        | .row k => some { α := Nat, inv := fun i => i ≤ xs.length, ov := fun i => [(64, .int .i64 (i : Int)), (13, .row k)], rov := fun i => [(k, .row 0 i64 ((xs.take i).filter (· != t)))], meas := fun i => xs.length - i }
        | _ => none
      | _ => none
    | _, _ => none)]
end Go.Proofs.Ytfdcmbaoekjkgaa
namespace Go.Proofs.Ytfdcmbaoekjkgaa
open Go.Proofs.Ytfdcmbaoekjkgaa.Gx
set_option maxRecDepth 100000
set_option linter.unusedSimpArgs false
set_option linter.unusedVariables false
theorem insL_new {α : Type} : {l : List (Int × α)} → {k : Int} → lookL l k = none → (v : α) → insL l k v = l ++ [(k, v)]
  | [], _, _, _ => rfl
  | x :: l, k, h, v => by
    unfold lookL at h
    split at h
    · cases h
    · rename_i hne
      simp only [insL, if_neg hne, insL_new h v, List.cons_append]
theorem delL_filter {α : Type} : (l : List (Int × α)) → (k : Int) → (l.map (·.1)).Nodup → delL l k = l.filter (fun x => x.1 != k)
  | [], _, _ => rfl
  | x :: l, k, h => by
    simp only [List.map_cons, List.nodup_cons] at h
    by_cases e : x.1 = k
    · simp only [delL, if_pos e, List.filter_cons]
      rw [if_neg (by simp [e])]
      refine (List.filter_eq_self.2 fun z hz => ?_).symm
      have : z.1 ≠ k := fun e2 => h.1 (by rw [e, ← e2]; exact List.mem_map_of_mem hz)
      simpa using this
    · simp only [delL, if_neg e, List.filter_cons]
      rw [if_pos (by simpa using e), delL_filter l k h.2]
theorem tkOf_mem {ts : List (Int × Tk)} (hn : (ts.map (·.1)).Nodup) {x : Int × Tk} (hx : x ∈ ts) : tkOf ts x.1 = x.2 := by
  simp [tkOf, lookL_some hn (v := x.2) hx]
theorem keysAt_eq {ts : List (Int × Tk)} (hn : (ts.map (·.1)).Nodup) (p : Int × Int → Bool) : keysAt ts p = (ts.filter fun x => p x.2.1).map (·.1) := by
  unfold keysAt
  rw [List.filter_map]
  congr 1
  refine List.filter_congr fun x hx => ?_
  simp [tkOf_mem hn hx]
theorem keysAt_lt {ts : List (Int × Tk)} (hn : (ts.map (·.1)).Nodup) (ha : ts.Pairwise fun a b => a.2.2 < b.2.2) (p : Int × Int → Bool) : (keysAt ts p).Pairwise fun a b => noOf ts a < noOf ts b := by
  rw [keysAt_eq hn, List.pairwise_map]
  refine List.Pairwise.sublist List.filter_sublist ?_
  refine List.Pairwise.imp_of_mem ?_ ha
  intro a b hma hmb hab
  simp only [noOf, tkOf_mem hn hma, tkOf_mem hn hmb]; exact hab
theorem delAll_filter : (l : List Int) → (ts : List (Int × Tk)) → (ts.map (·.1)).Nodup → delAll ts l = ts.filter (fun x => !decide (x.1 ∈ l))
  | [], ts, _ => by
    rw [List.filter_eq_self.2 (fun _ _ => by simp)]; rfl
  | k :: l, ts, h => by
    show delAll (delL ts k) l = _
    have h2 : ((delL ts k).map (·.1)).Nodup := List.Nodup.sublist ((delL_sub ts k).map _) h
    rw [delAll_filter l _ h2, delL_filter ts k h, List.filter_filter]
    refine List.filter_congr fun x _ => ?_
    by_cases e : x.1 = k <;> by_cases e2 : x.1 ∈ l <;> simp [e, e2]
theorem delAll_at {ts : List (Int × Tk)} (hn : (ts.map (·.1)).Nodup) (p : Int × Int → Bool) : delAll ts (keysAt ts p) = ts.filter fun x => !p x.2.1 := by
  rw [delAll_filter _ _ hn]
  refine List.filter_congr fun x hx => ?_
  congr 1
  have : x.1 ∈ keysAt ts p ↔ p x.2.1 = true := by
    rw [keysAt, List.mem_filter, tkOf_mem hn hx]
    exact ⟨fun h => h.2, fun h => ⟨List.mem_map_of_mem hx, h⟩⟩
  cases hp : p x.2.1 with
  | true => simpa using this.2 hp
  | false => simpa using fun h => by simpa [hp] using this.1 h
theorem filter_two {α : Type} (p : α → Bool) : (l : List α) → (l.filter p).length + (l.filter fun x => !p x).length = l.length
  | [] => rfl
  | x :: l => by
    have := filter_two p l
    cases h : p x <;> simp only [List.filter_cons, h, List.length_cons, Bool.not_true, Bool.not_false, if_true, if_false, Bool.false_eq_true] <;> omega
theorem len_keysAt {ts : List (Int × Tk)} (hn : (ts.map (·.1)).Nodup) (p : Int × Int → Bool) : (keysAt ts p).length = (ts.filter fun x => p x.2.1).length := by
  rw [keysAt_eq hn, List.length_map]
theorem keysAt_gone {ts : List (Int × Tk)} (hn : (ts.map (·.1)).Nodup) (p : Int × Int → Bool) : keysAt (delAll ts (keysAt ts p)) p = [] := by
  have h2 : ((delAll ts (keysAt ts p)).map (·.1)).Nodup := List.Nodup.sublist ((delAll_sub _ ts).map _) hn
  rw [keysAt_eq h2, delAll_at hn, List.filter_filter]
  simp
theorem wrap_small {a : Int} (h0 : -9223372036854775808 ≤ a) (h1 : a ≤ 9223372036854775807) : IntKind.i64.wrap a = a := wrap64 h0 (by omega)
variable {R : Rm} {n : Nat}
theorem Came.row (h : Came R n) {p : Int × Int → Bool} {ys : List Int} (hy : Row (tks R) (keysAt (tks R) p) ys) : ys = keysAt (tks R) p :=
  row_eq hy (keysAt_lt h.nd h.asc p)
theorem Came.mono (h : Came R n) {m : Nat} (hm : n ≤ m) : Came R m :=
  ⟨h.al, h.nd, h.asc, h.le, h.lo, by have := h.hi; omega, Nat.le_trans h.few hm⟩
theorem came_none : Came (0, [], []) 0 := ⟨rfl, by simp [tks], by simp [tks], by simp [tks], by simp [last], by simp [last], by simp [tks]⟩
/-- Waiting: it fails, and nothing changes; or one more waits, last of all. -/
theorem waitR_two (R : Rm) (t seg off : Int) : ((waitR R t seg off).1 ≠ 0 ∧ (waitR R t seg off).2 = R) ∨
    (lookL (tks R) t = none ∧ alOf R t = [] ∧ (idB t = true ∧ idB seg = true ∧ 0 ≤ off ∧ off < 4096) ∧ waitR R t seg off = (0, (IntKind.i64.wrap (last R + 1), tks R ++ [(t, ((seg, off), IntKind.i64.wrap (last R + 1)))], als R))) := by
  unfold waitR
  by_cases c1 : (!idB t || !idB seg || decide (off < 0) || decide (off ≥ 4096)) = true
  · left; rw [if_pos c1]; exact ⟨fun h => by simp at h, rfl⟩
  · rw [if_neg c1]
    by_cases c2 : (lookL (tks R) t).isSome = true
    · left; rw [if_pos c2]; exact ⟨fun h => by simp at h, rfl⟩
    · rw [if_neg c2]
      by_cases c3 : alOf R t ≠ []
      · left; rw [if_pos c3]; exact ⟨fun h => by simp at h, rfl⟩
      · right
        rw [if_neg c3]
        have hl : lookL (tks R) t = none := by simpa using c2
        refine ⟨hl, by simpa using c3, ?_, by rw [insL_new hl]⟩
        simp at c1
        exact ⟨c1.1.1.1, c1.1.1.2, by omega, by omega⟩
theorem came_wait (h : Came R n) (hn : n ≤ 1000) (t o : Int) : Came (waitR R t 9 o).2 (n + 1) ∧ at9 (waitR R t 9 o).2 = (if (waitR R t 9 o).1 = 0 ∧ o = 0 then at9 R ++ [t] else at9 R) := by
  rcases waitR_two R t 9 o with ⟨h1, h2⟩ | ⟨hl, hal, -, hw⟩
  · rw [h2]
    exact ⟨h.mono (by omega), by rw [if_neg (fun hh => h1 hh.1)]⟩
  · rw [hw]
    have hlo := h.lo
    have hhi := h.hi
    have hwr : IntKind.i64.wrap (last R + 1) = last R + 1 := wrap_small (by omega) (by omega)
    rw [hwr]
    have hnd : ((tks R ++ [(t, (((9 : Int), o), last R + 1))]).map (·.1)).Nodup := by
      rw [List.map_append, List.nodup_append]
      refine ⟨h.nd, by simp, fun a ha b hb => ?_⟩
      obtain rfl := List.mem_singleton.1 hb
      rintro rfl
      exact (lookL_none _).1 hl ha
    refine ⟨⟨h.al, hnd, ?_, ?_, by show 0 ≤ last R + 1; omega, by show last R + 1 ≤ _; omega, ?_⟩, ?_⟩
    · show (tks R ++ _).Pairwise _
      rw [List.pairwise_append]
      refine ⟨h.asc, by simp, fun a ha b hb => ?_⟩
      obtain rfl := List.mem_singleton.1 hb
      have := h.le a ha
      show a.2.2 < last R + 1
      omega
    · intro x hx
      show x.2.2 ≤ last R + 1
      rcases List.mem_append.1 hx with hx | hx
      · have := h.le x hx; omega
      · obtain rfl := List.mem_singleton.1 hx; exact Int.le_refl _
    · show (tks R ++ _).length ≤ n + 1
      have := h.few
      simp; omega
    · unfold at9
      show keysAt (tks R ++ [(t, ((9, o), last R + 1))]) (atP 9 0) = _
      rw [keysAt_eq hnd, keysAt_eq h.nd, List.filter_append, List.map_append]
      by_cases e : o = 0
      · subst e; simp [atP]
      · simp [atP, e]
theorem came_forget (h : Came R n) (t : Int) : Came (forgetR R t) n ∧ at9 (forgetR R t) = (at9 R).filter (· != t) := by
  have hnd : ((delL (tks R) t).map (·.1)).Nodup := List.Nodup.sublist ((delL_sub (tks R) t).map _) h.nd
  refine ⟨⟨?_, hnd, List.Pairwise.sublist (delL_sub (tks R) t) h.asc, fun x hx => h.le x (mem_delL _ _ x hx), h.lo, h.hi, Nat.le_trans (delL_sub (tks R) t).length_le h.few⟩, ?_⟩
  · show delL (als R) t = []
    rw [h.al]; rfl
  · unfold at9
    show keysAt (delL (tks R) t) (atP 9 0) = _
    rw [keysAt_eq hnd, keysAt_eq h.nd, delL_filter _ _ h.nd, List.filter_map, List.filter_filter, List.filter_filter]
    congr 1
    refine List.filter_congr fun x _ => ?_
    simp [Bool.and_comm]
end Go.Proofs.Ytfdcmbaoekjkgaa
namespace Go.Proofs.Ytfdcmbaoekjkgaa
open Go.Proofs.Ytfdcmbaoekjkgaa.Gx
set_option maxRecDepth 100000
set_option maxHeartbeats 4000000
set_option linter.unusedSimpArgs false
set_option linter.unusedVariables false
theorem keys_nodup {α : Type} {l : List (Int × α)} (h : (l.map (·.1)).Nodup) : l.Nodup := by
  induction l with
  | nil => simp
  | cons x l ih =>
    simp only [List.map_cons, List.nodup_cons] at h ⊢
    exact ⟨fun hm => h.1 (List.mem_map_of_mem hm), ih h.2⟩
theorem perm_keys {α : Type} {A B : List (Int × α)} (hA : (A.map (·.1)).Nodup) (hp : (A.map (·.1)).Perm (B.map (·.1))) (hv : ∀ x ∈ A, x ∈ B) : A.Perm B := by
  have hB : (B.map (·.1)).Nodup := hp.nodup_iff.1 hA
  refine (List.perm_ext_iff_of_nodup (keys_nodup hA) (keys_nodup hB)).2 fun x => ⟨hv x, fun hx => ?_⟩
  obtain ⟨y, hy, e⟩ := List.mem_map.1 (hp.mem_iff.2 (List.mem_map_of_mem (f := (·.1)) hx))
  have h1 := lookL_some hB hx
  have h2 := lookL_some hB (hv y hy)
  rw [e, h1] at h2
  have : x.2 = y.2 := Option.some.inj h2
  have : x = y := Prod.ext e.symm this
  rw [this]; exact hy
theorem copy_ok : copyC.H.ok PP 22 := by
  refine copyC.ok_of (by
    intro A hA
    obtain rfl := List.mem_singleton.1 hA
    exact fun x y => ⟨rfl, Nat.le_succ 1⟩) ?_
  refine hc_ofP (Fin.perm fun _ => [0, 1, 2, 3, 15, 12, 13, 17]) mixed (fn := Try.f22) (c := c22) rfl rfl copyC.U (fun x => rfl) ?_
  rintro ⟨R, (y : RmIn)⟩ ⟨hsh, hrel⟩
  have hrel : RmRel R y := hrel
  have hsh : shortA R := hsh
  refine ⟨env PP [] [b32] [] [k34] (copyLoop y), env_ok .., rfl, hold (copy_vc R y) ?_⟩
  simp only [true_and, and_true]
  refine ⟨(none, y.hs.map (·.1), [], []), ⟨List.Perm.refl _, (fun p hp => by cases hp), List.nodup_nil⟩, ⟨⟨rfl, rfl⟩, rfl, rfl⟩, ?_⟩
  rintro ⟨cur, left, hs, os⟩ hx
  have hx : CopyInv y left hs os := hx
  simp only
  have hnd : (hs.map (·.1) ++ left).Nodup := hx.keys.nodup_iff.2 hrel.keys
  refine ⟨fun hl => ?_, fun n key hn h hh => ?_⟩
  · subst hl
    have hp := hx.keys
    rw [List.append_nil] at hp hnd
    refine ⟨(hs.map fun x => (x.1, rdH os x.2), y, ⟨y.la, y.ts, hs, os⟩, ()), ⟨?_, hrel, hrel.la, hrel.ts, rfl, hnd, hrel.tkeys, fun x hxm => (hx.same x hxm).1, hx.apart⟩, rfl, rfl, rfl, rfl, rfl, rfl, rfl, rfl⟩
    rw [hrel.als]
    refine perm_keys (by rw [List.map_map]; exact hnd) (by rw [List.map_map, List.map_map]; exact hp) fun x hxm => ?_
    obtain ⟨p, hp2, rfl⟩ := List.mem_map.1 hxm
    obtain ⟨_, h, hm, hr⟩ := hx.same p hp2
    exact List.mem_map.2 ⟨(p.1, h), hm, by rw [hr]⟩
  · have hhm := lookL_mem hh
    have hin := hrel.hin _ hhm
    have hnl := (List.getElem?_eq_some_iff.1 hn).1
    have hkl : key ∈ left := List.mem_of_getElem? hn
    have hno : lookL hs key = none := (lookL_none _).2 fun hm => (List.nodup_append.1 hnd).2.2 key hm key hkl rfl
    refine ⟨⟨hin⟩, ?_, fun hd os' ha => ⟨(some key, left.eraseIdx n, insL hs key hd, os'), ⟨?_, ?_, ?_⟩, ?_, ⟨rfl, rfl⟩, rfl, rfl⟩⟩
    · have : (key, rdH y.os h) ∈ als R := by rw [hrel.als]; exact List.mem_map.2 ⟨(key, h), hhm, rfl⟩
      have := hsh _ this
      simpa [shortB] using this
    · show ((insL hs key hd).map (·.1) ++ left.eraseIdx n).Perm _
      rw [insL_new hno, List.map_append, List.append_assoc]
      exact (List.Perm.append_left _ (erase_perm hn)).trans hx.keys
    · intro p hp
      rw [insL_new hno] at hp
      rcases List.mem_append.1 hp with hp | hp
      · obtain ⟨h1, h2, h3, h4⟩ := hx.same p hp
        obtain ⟨g1, g2⟩ := app_other ha h1 (fun g _ h => by cases h)
        exact ⟨g1, h2, h3, g2.trans h4⟩
      · obtain rfl := List.mem_singleton.1 hp
        exact ⟨ha.hin, h, hhm, by rw [ha.rd]; rfl⟩
    · show (blks (insL hs key hd)).Nodup
      refine blks_ins hs key hd (List.nodup_append.1 hnd).1 hx.apart fun g hg x hxm hne hb => ?_
      rcases ha.blk with e | ⟨g2, e, hn2⟩
      · rw [hg] at e; cases e
      · rw [hg] at e; cases e
        have := (hx.same x hxm).1
        unfold hdIn at this
        rw [hb] at this
        obtain ⟨m, xs, hl2, _⟩ := this
        rw [hn2] at hl2; cases hl2
    · show (left.eraseIdx n).length < left.length
      rw [List.length_eraseIdx_of_lt hnl]; omega
end Go.Proofs.Ytfdcmbaoekjkgaa
namespace Go.Proofs.Ytfdcmbaoekjkgaa.Gx
set_option linter.unusedSimpArgs false
set_option linter.unusedVariables false
abbrev famT (t : Ty) : Ty := .slice (.pair (.int .i64) t)
/-- Objects by their addresses. -/
def Pk.fam {t : Ty} (K : Pk t) : Cust (famT t) where
  holds := fun os v w I F => v = .int .i64 0 ∧ ∃ G : Nat → Nat → Prop, (∀ (i : Nat) (p : Int × t.den), os[i]? = some p → ∃ b : Nat, p.1 = (b : Int) ∧ K.cust.holds p.2 (.pointer (some ⟨b, 0, none⟩)) w I (G i) ∧ G i b) ∧
    (∀ i j k, i < List.length os → j < List.length os → i ≠ j → G i k → ¬ G j k) ∧ (∀ k, F k ↔ ∃ i, i < List.length os ∧ G i k)
  keep := by
    rintro os v w w' I I' F ⟨h0, G, h1, h2, h3⟩ hF hI hw
    refine ⟨h0, G, fun i p hp => ?_, h2, h3⟩
    obtain ⟨b, e, h4, h5⟩ := h1 i p hp
    have hi : i < List.length os := (List.getElem?_eq_some_iff.1 hp).1
    exact ⟨b, e, K.cust.keep h4 (fun k hk => hF k ((h3 k).2 ⟨i, hi, hk⟩)) hI hw, h5⟩
/-- An object is a pointer to a block of its own. -/
def Pk.rooted {t : Ty} (K : Pk t) : Prop := ∀ x v w I F, K.cust.holds x v w I F → ∃ b : Nat, v = .pointer (some ⟨b, 0, none⟩) ∧ F b
variable {t : Ty} {K : Pk t} {P : Program}
/-- A method of one object, called by its address. -/
def PC1.F {t : Ty} {K : Pk t} (C : PC1 K) (T : TypeId) (args : C.α → List SV) : HC where
  α := C.α × List (Int × t.den) × Nat
  m := 1
  ss := fun x => .adr T (some x.2.2) :: args x.1
  Rs := fun x => [.cust (famT t) K.fam x.2.1]
  pre := fun x => C.pre x.1 ∧ lookL x.2.1 (x.2.2 : Int) = some (C.inn x.1)
  alts := C.alts.map fun A => { β := A.β, post := fun x y => A.post x.1 y, r := fun x y => A.r x.1 y, res := fun x y => [.cust (famT t) K.fam (insL x.2.1 (x.2.2 : Int) ((A.outs x.1 y)[0]?.getD (C.inn x.1)))], kp := [true] }
/-- A copy is made: it is known by an address that was none. -/
def PC1.FC {t : Ty} {K : Pk t} (C : PC1 K) (T : TypeId) (args : C.α → List SV) : HC where
  α := C.α × List (Int × t.den) × Nat
  m := 1
  ss := fun x => .adr T (some x.2.2) :: args x.1
  Rs := fun x => [.cust (famT t) K.fam x.2.1]
  pre := fun x => C.pre x.1 ∧ lookL x.2.1 (x.2.2 : Int) = some (C.inn x.1)
  alts := C.alts.map fun A => { β := A.β × Nat, post := fun x y => A.post x.1 y.1 ∧ lookL x.2.1 (y.2 : Int) = none, r := fun _ y => .adr T (some y.2), res := fun x y => [.cust (famT t) K.fam (insL x.2.1 (x.2.2 : Int) ((A.outs x.1 y.1)[0]?.getD (C.inn x.1)) ++ [((y.2 : Int), (A.outs x.1 y.1)[1]?.getD (C.inn x.1))])], kp := [true] }
/-- The first object. -/
def PC0.F {t : Ty} {K : Pk t} (C : PC0 K) (T : TypeId) (args : C.α → List SV) (d0 : t.den) : HC where
  α := C.α
  m := 0
  ss := args
  Rs := fun _ => []
  pre := C.pre
  alts := C.alts.map fun A => { β := A.β × Nat, post := fun x y => A.post x y.1, r := fun _ y => .adr T (some y.2), res := fun x y => [.cust (famT t) K.fam [((y.2 : Int), (A.outs x y.1)[0]?.getD d0)]], kp := [] }
theorem ins_at {α : Type} : {l : List (Int × α)} → {k : Int} → {o : α} → lookL l k = some o → ∃ i, i < l.length ∧ l[i]? = some (k, o) ∧ ∀ v, (insL l k v).length = l.length ∧ ∀ j, (insL l k v)[j]? = if j = i then some (k, v) else l[j]?
  | x :: l, k, o, h => by
    unfold lookL at h
    split at h
    · rename_i e
      cases h
      refine ⟨0, by simp, by simp [← e], fun v => ⟨by simp [insL, e], fun j => ?_⟩⟩
      simp only [insL, if_pos e]
      cases j <;> simp
    · rename_i e
      obtain ⟨i, h1, h2, h3⟩ := ins_at h
      refine ⟨i + 1, by simp; omega, by simpa using h2, fun v => ⟨by simp only [insL, if_neg e, List.length_cons, (h3 v).1], fun j => ?_⟩⟩
      simp only [insL, if_neg e]
      cases j with
      | zero => simp
      | succ j =>
        rw [List.getElem?_cons_succ, (h3 v).2 j]
        by_cases e2 : j = i
        · subst e2; simp
        · rw [if_neg e2, if_neg (by omega), List.getElem?_cons_succ]
theorem den_off {ρ ρ' : List Value} {I : Nat → Prop} {w : World} {s : SV} {v : Value} (h : SV.wf 0 s = true) (hd : SV.den ρ I w s v) : SV.den ρ' I w s v :=
  SV.den_keep (ρ := ρ.take 0) (fun i v h => by simp at h) (fun _ h => h) (fun _ _ => rfl) s (SV.den_take s h hd)
theorem denL_off {ρ ρ' : List Value} {I : Nat → Prop} {w : World} {ss : List SV} {vs : List Value} (h : SV.wfL 0 ss = true) (hd : SV.denL ρ I w ss vs) : SV.denL ρ' I w ss vs :=
  SV.denL_keep (ρ := ρ.take 0) (fun i v h => by simp at h) (fun _ h => h) (fun _ _ => rfl) ss (SV.denL_takeW ss h hd)
/-- One object is taken out of many. -/
theorem fam_open {x : t.den} {os : List (Int × t.den)} {b : Nat} {ρ0 : List Value} {I : Nat → Prop} {F : Nat → Nat → Prop} {w : World} (hl : lookL os (b : Int) = some x) (hown : Own [.cust (famT t) K.fam os] ρ0 I F w) :
    ∃ (i : Nat) (G : Nat → Nat → Prop), ρ0 = [.int .i64 0] ∧ i < os.length ∧ os[i]? = some ((b : Int), x) ∧ (∀ v, (insL os (b : Int) v).length = os.length ∧ ∀ j, (insL os (b : Int) v)[j]? = if j = i then some ((b : Int), v) else os[j]?) ∧
      (∀ (i : Nat) (p : Int × t.den), os[i]? = some p → ∃ b : Nat, p.1 = (b : Int) ∧ K.cust.holds p.2 (.pointer (some ⟨b, 0, none⟩)) w I (G i) ∧ G i b) ∧ (∀ i j k, i < os.length → j < os.length → i ≠ j → G i k → ¬ G j k) ∧ (∀ k, F 0 k ↔ ∃ i, i < os.length ∧ G i k) ∧
      Own [.cust t K.cust x] [.pointer (some ⟨b, 0, none⟩)] I (fun _ => G i) w := by
  obtain ⟨v, hv, -, hv0, G, h1, h2, h3⟩ := hown.holds 0 _ rfl
  obtain ⟨i, hi, hix, hins⟩ := ins_at hl
  have hρ : ρ0 = [.int .i64 0] := by
    have hlen := hown.len
    cases ρ0 with
    | nil => simp at hv
    | cons u l =>
      cases l with
      | nil =>
        have : u = v := by simpa using hv
        rw [this, hv0]
      | cons _ _ => simp at hlen
  obtain ⟨b', e, hk, hb⟩ := h1 i _ hix
  have hbb : b' = b := by have : (b : Int) = (b' : Int) := e; omega
  subst hbb
  refine ⟨i, G, hρ, hi, hix, hins, h1, h2, h3, rfl, fun j u hj => ?_, fun j r hj => ?_, fun i' j k hi' hj hij => ?_, fun j k hj hG => hown.lt 0 k (by simp) ((h3 k).2 ⟨i, hi, hG⟩), fun j k hj hG => hown.notI 0 k (by simp) ((h3 k).2 ⟨i, hi, hG⟩)⟩
  · cases j with
    | zero => simp at hj; subst hj; rfl
    | succ j => simp at hj
  · cases j with
    | zero => simp at hj; subst hj; exact ⟨_, rfl, rfl, hk⟩
    | succ j => simp at hj
  · simp at hi' hj; omega
/-- It is put back. -/
theorem fam_keep {os : List (Int × t.den)} {i : Nat} {G : Nat → Nat → Prop} {I I' : Nat → Prop} {F : Nat → Nat → Prop} {F' : Nat → Nat → Prop} {w w' : World} {n : Nat} (hi : i < os.length)
    (h1 : ∀ (i : Nat) (p : Int × t.den), os[i]? = some p → ∃ b : Nat, p.1 = (b : Int) ∧ K.cust.holds p.2 (.pointer (some ⟨b, 0, none⟩)) w I (G i) ∧ G i b) (h2 : ∀ i j k, i < os.length → j < os.length → i ≠ j → G i k → ¬ G j k) (h3 : ∀ k, F 0 k ↔ ∃ i, i < os.length ∧ G i k)
    (hlt : ∀ k, F 0 k → k < w.heap.size) (hni : ∀ k, F 0 k → ¬ I k) (hI : ∀ k, I k → k < w.heap.size) (hb : Beside 1 n I I' (fun _ => G i) F' w w') {j : Nat} {p : Int × t.den} (hj : os[j]? = some p) (hji : j ≠ i) :
    (∃ b : Nat, p.1 = (b : Int) ∧ K.cust.holds p.2 (.pointer (some ⟨b, 0, none⟩)) w' I' (G j) ∧ G j b) ∧ (∀ k, G j k → k < w.heap.size ∧ ¬ I' k ∧ ∀ m, m < n → ¬ F' m k) := by
  have hjl := (List.getElem?_eq_some_iff.1 hj).1
  obtain ⟨b, e, hk, hbb⟩ := h1 j p hj
  have hGF : ∀ k, G j k → F 0 k := fun k hk => (h3 k).2 ⟨j, hjl, hk⟩
  refine ⟨⟨b, e, K.cust.keep hk (fun k hk => hb.frame k (hlt k (hGF k hk)) (fun m _ hG => h2 j i k hjl hi hji hk hG)) hb.keepI (fun k hk => hb.frame k (hI k hk) (fun m _ hG => hni k ((h3 k).2 ⟨i, hi, hG⟩) hk)), hbb⟩, fun k hk => ⟨hlt k (hGF k hk), fun hI' => ?_, fun m hm hF => ?_⟩⟩
  · rcases hb.Inew k hI' with h | ⟨m, _, h⟩ | h
    · exact hni k (hGF k hk) h
    · exact h2 j i k hjl hi hji hk h
    · have := hlt k (hGF k hk); omega
  · rcases hb.new m k hm hF with ⟨_, _, h⟩ | h
    · exact h2 j i k hjl hi hji hk h
    · have := hlt k (hGF k hk); omega
theorem PC1.fam_ok (C : PC1 K) {T : TypeId} {f : FuncId} {args : C.α → List SV} (hroot : K.rooted) (hss : ∀ x, C.ss x = .ptr 0 0 :: args x) (hargs : ∀ x, SV.wfL 0 (args x) = true) (hout : ∀ A ∈ C.alts, ∀ x y, ∃ d, A.outs x y = [d]) (hr : ∀ A ∈ C.alts, ∀ x y, SV.wf 0 (A.r x y) = true) (h : C.H.ok P f) : (C.F T args).ok P f := by
  rintro ⟨x, os, b⟩ ⟨hpre, hl⟩ ρ0 I F w vs hown hI hd
  have hl : lookL os (b : Int) = some (C.inn x) := hl
  have hown : Own [.cust (famT t) K.fam os] ρ0 I F w := hown
  obtain ⟨i, G, hρ, hi, hix, hins, h1, h2, h3, hown1⟩ := fam_open hl hown
  have hlt : ∀ k, F 0 k → k < w.heap.size := fun k hk => hown.lt 0 k (by simp) hk
  have hni : ∀ k, F 0 k → ¬ I k := fun k hk => hown.notI 0 k (by simp) hk
  have hd1 : SV.denL [.pointer (some ⟨b, 0, none⟩)] I w (C.ss x) vs := by
    rw [hss]
    have hd : SV.denL ρ0 I w (.adr T (some b) :: args x) vs := hd
    unfold SV.denL at hd ⊢
    obtain ⟨v, vs', rfl, hv, hd2⟩ := hd
    unfold SV.den at hv
    refine ⟨v, vs', rfl, ?_, denL_off (hargs x) hd2⟩
    unfold SV.den
    exact ⟨b, rfl, hv⟩
  refine (h x hpre _ I _ w vs hown1 hI hd1).mono ?_
  rintro e w' ⟨v, rfl, B, hB, y, ρ1, I', F', hE⟩
  obtain ⟨A, hA, rfl⟩ := List.mem_map.1 hB
  obtain ⟨d, hdo⟩ := hout A hA x y
  have hown2 : Own (custs K (A.outs x y)) ρ1 I' F' w' := hE.own
  rw [hdo] at hown2
  obtain ⟨v1, hv1, -, hk1⟩ := hown2.holds 0 _ rfl
  have hkept : ρ1[0]? = some (.pointer (some ⟨b, 0, none⟩)) := hE.kept 0 Nat.one_pos rfl
  rw [hkept] at hv1
  cases hv1
  have hb : Beside 1 1 I I' (fun _ => G i) F' w w' := by
    have h0 : Beside 1 (custs K (A.outs x y)).length I I' (fun _ => G i) F' w w' := hE.beside
    rw [show (custs K (A.outs x y)).length = 1 by rw [hdo]; rfl] at h0
    exact h0
  have keep := fun {j : Nat} {p : Int × t.den} (hj : os[j]? = some p) (hji : j ≠ i) => fam_keep hi h1 h2 h3 hlt hni hI hb hj hji
  refine ⟨v, rfl, _, List.mem_map.2 ⟨A, hA, rfl⟩, y, ρ0, I', fun _ k => ∃ j, j < os.length ∧ (if j = i then F' 0 k else G j k), hE.post, ?_, den_off (hr A hA x y) hE.den, Nat.le_refl 1, ?_, fun _ _ _ => rfl, ?_⟩
  · show Own [.cust (famT t) K.fam (insL os (b : Int) ((A.outs x y)[0]?.getD (C.inn x)))] ρ0 I' _ w'
    rw [hdo]
    simp only [List.getElem?_cons_zero, Option.getD_some]
    have hfoot : ∀ k, (∃ j, j < os.length ∧ (if j = i then F' 0 k else G j k)) → k < w'.heap.size ∧ ¬ I' k := by
      rintro k ⟨j, hj, hk⟩
      split at hk
      · exact ⟨hown2.lt 0 k (by simp [custs]) hk, hown2.notI 0 k (by simp [custs]) hk⟩
      · rename_i hji
        obtain ⟨p, hp⟩ : ∃ p, os[j]? = some p := ⟨os[j], List.getElem?_eq_getElem hj⟩
        obtain ⟨-, g⟩ := keep hp hji
        have := (g k hk).1
        have := hb.size
        exact ⟨by omega, (g k hk).2.1⟩
    refine ⟨by rw [hρ]; rfl, fun j u hj => ?_, fun j r hj => ?_, fun i' j k hi' hj hij => ?_, fun j k _ hk => (hfoot k hk).1, fun j k _ hk => (hfoot k hk).2⟩
    · rw [hρ] at hj
      cases j with
      | zero => simp at hj; subst hj; rfl
      | succ j => simp at hj
    · cases j with
      | succ j => simp at hj
      | zero =>
        simp at hj
        subst hj
        refine ⟨.int .i64 0, by rw [hρ]; rfl, rfl, rfl, fun j => if j = i then F' 0 else G j, fun j p hp => ?_, fun j j' k hj hj' hjj hk => ?_, fun k => ?_⟩
        · have hp := hp
          rw [(hins d).2 j] at hp
          split at hp
          · rename_i e
            subst e
            cases hp
            refine ⟨b, rfl, (by show K.cust.holds d _ w' I' (if j = j then F' 0 else G j); rw [if_pos rfl]; exact hk1), ?_⟩
            show (if j = j then F' 0 else G j) b
            rw [if_pos rfl]
            obtain ⟨b2, e2, g2⟩ := hroot _ _ _ _ _ hk1
            cases e2; exact g2
          · rename_i e
            obtain ⟨g, -⟩ := keep hp e
            show ∃ b : Nat, p.1 = (b : Int) ∧ K.cust.holds p.2 (.pointer (some ⟨b, 0, none⟩)) w' I' (if j = i then F' 0 else G j) ∧ (if j = i then F' 0 else G j) b
            rw [if_neg e]; exact g
        · have hjl : j < os.length := by rw [← (hins d).1]; exact hj
          have hjl' : j' < os.length := by rw [← (hins d).1]; exact hj'
          have hk : (if j = i then F' 0 else G j) k := hk
          show ¬ (if j' = i then F' 0 else G j') k
          by_cases e : j = i
          · rw [if_pos e] at hk
            rw [if_neg (fun e2 => hjj (e.trans e2.symm))]
            obtain ⟨p, hp⟩ : ∃ p, os[j']? = some p := ⟨os[j'], List.getElem?_eq_getElem hjl'⟩
            obtain ⟨-, g⟩ := keep hp (fun e2 => hjj (e.trans e2.symm))
            exact fun hk2 => (g k hk2).2.2 0 (by omega) hk
          · rw [if_neg e] at hk
            obtain ⟨p, hp⟩ : ∃ p, os[j]? = some p := ⟨os[j], List.getElem?_eq_getElem hjl⟩
            obtain ⟨-, g⟩ := keep hp e
            split
            · exact (g k hk).2.2 0 (by omega)
            · exact h2 j j' k hjl hjl' hjj hk
        · show (∃ j, j < os.length ∧ (if j = i then F' 0 k else G j k)) ↔ ∃ j, j < (insL os (b : Int) d).length ∧ (if j = i then F' 0 else G j) k
          rw [(hins d).1]
          constructor
          · rintro ⟨j, hj, hk⟩; refine ⟨j, hj, ?_⟩; split at hk <;> rename_i e <;> simp only [e, if_true, if_false] <;> exact hk
          · rintro ⟨j, hj, hk⟩; refine ⟨j, hj, ?_⟩; split at hk <;> rename_i e <;> simp only [e, if_true, if_false] <;> exact hk
    · simp at hi' hj; omega
  · intro r hr
    obtain rfl := List.mem_singleton.1 hr
    rfl
  · refine ⟨hb.os, hb.tape, hb.output, hb.size, fun k hk hn => hb.frame k hk (fun m hm hG => hn 0 Nat.one_pos ((h3 k).2 ⟨i, hi, hG⟩)), hb.keepI, fun k hk => ?_, hb.Ilt, fun j k _ hk => ?_⟩
    · rcases hb.Inew k hk with h | ⟨m, _, h⟩ | h
      · exact .inl h
      · exact .inr (.inl ⟨0, Nat.one_pos, (h3 k).2 ⟨i, hi, h⟩⟩)
      · exact .inr (.inr h)
    · obtain ⟨j', hj', hk⟩ := hk
      split at hk
      · rcases hb.new 0 k Nat.one_pos hk with ⟨_, _, h⟩ | h
        · exact .inl ⟨0, Nat.one_pos, (h3 k).2 ⟨i, hi, h⟩⟩
        · exact .inr h
      · exact .inl ⟨0, Nat.one_pos, (h3 k).2 ⟨j', hj', hk⟩⟩
theorem PC1.famC_ok (C : PC1 K) {T : TypeId} {f : FuncId} {args : C.α → List SV} (hroot : K.rooted) (hss : ∀ x, C.ss x = .ptr 0 0 :: args x) (hargs : ∀ x, SV.wfL 0 (args x) = true) (hout : ∀ A ∈ C.alts, ∀ x y, ∃ d d2, A.outs x y = [d, d2]) (hr : ∀ A ∈ C.alts, ∀ x y, A.r x y = .ptr 1 0) (h : C.H.ok P f) : (C.FC T args).ok P f := by
  rintro ⟨x, os, b⟩ ⟨hpre, hl⟩ ρ0 I F w vs hown hI hd
  have hl : lookL os (b : Int) = some (C.inn x) := hl
  have hown : Own [.cust (famT t) K.fam os] ρ0 I F w := hown
  obtain ⟨i, G, hρ, hi, hix, hins, h1, h2, h3, hown1⟩ := fam_open hl hown
  have hlt : ∀ k, F 0 k → k < w.heap.size := fun k hk => hown.lt 0 k (by simp) hk
  have hni : ∀ k, F 0 k → ¬ I k := fun k hk => hown.notI 0 k (by simp) hk
  have hd1 : SV.denL [.pointer (some ⟨b, 0, none⟩)] I w (C.ss x) vs := by
    rw [hss]
    have hd : SV.denL ρ0 I w (.adr T (some b) :: args x) vs := hd
    unfold SV.denL at hd ⊢
    obtain ⟨v, vs', rfl, hv, hd2⟩ := hd
    unfold SV.den at hv
    refine ⟨v, vs', rfl, ?_, denL_off (hargs x) hd2⟩
    unfold SV.den
    exact ⟨b, rfl, hv⟩
  refine (h x hpre _ I _ w vs hown1 hI hd1).mono ?_
  rintro e w' ⟨v, rfl, B, hB, y, ρ1, I', F', hE⟩
  obtain ⟨A, hA, rfl⟩ := List.mem_map.1 hB
  obtain ⟨d, d2, hdo⟩ := hout A hA x y
  have hown2 : Own (custs K (A.outs x y)) ρ1 I' F' w' := hE.own
  rw [hdo] at hown2
  obtain ⟨v1, hv1, -, hk1⟩ := hown2.holds 0 _ rfl
  obtain ⟨v2, hv2, -, hk2⟩ := hown2.holds 1 _ rfl
  have hkept : ρ1[0]? = some (.pointer (some ⟨b, 0, none⟩)) := hE.kept 0 Nat.one_pos rfl
  rw [hkept] at hv1
  cases hv1
  obtain ⟨b2, rfl, hb2⟩ := hroot _ _ _ _ _ hk2
  have hb : Beside 1 2 I I' (fun _ => G i) F' w w' := by
    have h0 : Beside 1 (custs K (A.outs x y)).length I I' (fun _ => G i) F' w w' := hE.beside
    rw [show (custs K (A.outs x y)).length = 2 by rw [hdo]; rfl] at h0
    exact h0
  have keep := fun {j : Nat} {p : Int × t.den} (hj : os[j]? = some p) (hji : j ≠ i) => fam_keep hi h1 h2 h3 hlt hni hI hb hj hji
  have ha01 : ∀ k, F' 0 k → ¬ F' 1 k := fun k => hown2.apart 0 1 k (by simp [custs]) (by simp [custs]) (by decide)
  -- the new address is none of the others
  have hfr : ∀ (j : Nat) (p : Int × t.den), os[j]? = some p → p.1 ≠ (b2 : Int) := by
    intro j p hp e
    obtain ⟨b', e', -, hbb⟩ := h1 j p hp
    have hbe : b' = b2 := by rw [e] at e'; omega
    rw [hbe] at hbb
    by_cases hji : j = i
    · obtain ⟨b3, e3, g3⟩ := hroot _ _ _ _ _ hk1
      cases e3
      rw [hji, hix] at hp
      cases hp
      have : b = b2 := by have : (b : Int) = b2 := e; omega
      rw [this] at g3
      exact ha01 b2 g3 hb2
    · obtain ⟨-, g⟩ := keep hp hji
      exact (g b2 hbb).2.2 1 (by omega) hb2
  have hnone : lookL os (b2 : Int) = none := by
    rw [lookL_none]
    intro hm
    obtain ⟨p, hp, e⟩ := List.mem_map.1 hm
    obtain ⟨j, hj⟩ := List.mem_iff_getElem?.1 hp
    exact hfr j p hj e
  have hv : v = .pointer (some ⟨b2, 0, none⟩) := by
    have h0 := hE.den
    have h0 : SV.den ρ1 I' w' (A.r x y) v := h0
    rw [hr A hA x y] at h0
    unfold SV.den at h0
    obtain ⟨b3, e3, e4⟩ := h0
    rw [hv2] at e3
    cases e3; exact e4
  have hlen2 : ∀ v, (insL os (b : Int) d ++ [v]).length = os.length + 1 := fun v => by simp [(hins d).1]
  have hget : ∀ (v : Int × t.den) (j : Nat), (insL os (b : Int) d ++ [v])[j]? = if j = os.length then some v else if j = i then some ((b : Int), d) else os[j]? := by
    intro v j
    rw [List.getElem?_append]
    split
    · rename_i h
      rw [(hins d).1] at h
      rw [if_neg (by omega), (hins d).2 j]
    · rename_i h
      rw [(hins d).1] at h ⊢
      by_cases e : j = os.length
      · rw [if_pos e, e]; simp
      · rw [if_neg e, if_neg (by omega), List.getElem?_eq_none (by simp; omega), List.getElem?_eq_none (by omega)]
  refine ⟨v, rfl, _, List.mem_map.2 ⟨A, hA, rfl⟩, (y, b2), ρ0, I', fun _ k => F' 1 k ∨ ∃ j, j < os.length ∧ (if j = i then F' 0 k else G j k), ⟨hE.post, hnone⟩, ?_, ?_, Nat.le_refl 1, ?_, fun _ _ _ => rfl, ?_⟩
  · show Own [.cust (famT t) K.fam (insL os (b : Int) ((A.outs x y)[0]?.getD (C.inn x)) ++ [((b2 : Int), (A.outs x y)[1]?.getD (C.inn x))])] ρ0 I' _ w'
    rw [hdo]
    simp only [List.getElem?_cons_zero, List.getElem?_cons_succ, Option.getD_some]
    have hfoot : ∀ k, (F' 1 k ∨ ∃ j, j < os.length ∧ (if j = i then F' 0 k else G j k)) → k < w'.heap.size ∧ ¬ I' k := by
      rintro k (hk | ⟨j, hj, hk⟩)
      · exact ⟨hown2.lt 1 k (by simp [custs]) hk, hown2.notI 1 k (by simp [custs]) hk⟩
      · split at hk
        · exact ⟨hown2.lt 0 k (by simp [custs]) hk, hown2.notI 0 k (by simp [custs]) hk⟩
        · rename_i hji
          obtain ⟨p, hp⟩ : ∃ p, os[j]? = some p := ⟨os[j], List.getElem?_eq_getElem hj⟩
          obtain ⟨-, g⟩ := keep hp hji
          have := (g k hk).1
          have := hb.size
          exact ⟨by omega, (g k hk).2.1⟩
    refine ⟨by rw [hρ]; rfl, fun j u hj => ?_, fun j r hj => ?_, fun i' j k hi' hj hij => ?_, fun j k _ hk => (hfoot k hk).1, fun j k _ hk => (hfoot k hk).2⟩
    · rw [hρ] at hj
      cases j with
      | zero => simp at hj; subst hj; rfl
      | succ j => simp at hj
    · cases j with
      | succ j => simp at hj
      | zero =>
        simp at hj
        subst hj
        refine ⟨.int .i64 0, by rw [hρ]; rfl, rfl, rfl, fun j => if j = os.length then F' 1 else if j = i then F' 0 else G j, fun j p hp => ?_, fun j j' k hj hj' hjj hk => ?_, fun k => ?_⟩
        · show ∃ b : Nat, p.1 = (b : Int) ∧ K.cust.holds p.2 (.pointer (some ⟨b, 0, none⟩)) w' I' (if j = os.length then F' 1 else if j = i then F' 0 else G j) ∧ (if j = os.length then F' 1 else if j = i then F' 0 else G j) b
          rw [hget] at hp
          split at hp
          · rename_i e
            cases hp
            rw [if_pos e]
            exact ⟨b2, rfl, hk2, hb2⟩
          · rename_i e
            rw [if_neg e]
            split at hp
            · rename_i e2
              cases hp
              rw [if_pos e2]
              obtain ⟨b3, e3, g3⟩ := hroot _ _ _ _ _ hk1
              cases e3
              exact ⟨b, rfl, hk1, g3⟩
            · rename_i e2
              rw [if_neg e2]
              exact (keep hp e2).1
        · have hk : (if j = os.length then F' 1 else if j = i then F' 0 else G j) k := hk
          show ¬ (if j' = os.length then F' 1 else if j' = i then F' 0 else G j') k
          have hjl : j < os.length + 1 := by rw [← hlen2 ((b2 : Int), d2)]; exact hj
          have hjl' : j' < os.length + 1 := by rw [← hlen2 ((b2 : Int), d2)]; exact hj'
          have offG : ∀ m, m < os.length → m ≠ i → G m k → ¬ F' 0 k ∧ ¬ F' 1 k := fun m hm hmi hk => by
            obtain ⟨p, hp⟩ : ∃ p, os[m]? = some p := ⟨os[m], List.getElem?_eq_getElem hm⟩
            obtain ⟨-, g⟩ := keep hp hmi
            exact ⟨(g k hk).2.2 0 (by omega), (g k hk).2.2 1 (by omega)⟩
          by_cases e1 : j = os.length
          · rw [if_pos e1] at hk
            rw [if_neg (fun e2 => hjj (e1.trans e2.symm))]
            split
            · exact fun h => ha01 k h hk
            · rename_i e3
              exact fun h => (offG j' (by omega) e3 h).2 hk
          · rw [if_neg e1] at hk
            by_cases e2 : j = i
            · rw [if_pos e2] at hk
              split
              · exact ha01 k hk
              · rw [if_neg (fun e3 => hjj (e2.trans e3.symm))]
                exact fun h => (offG j' (by omega) (fun e3 => hjj (e2.trans e3.symm)) h).1 hk
            · rw [if_neg e2] at hk
              split
              · exact (offG j (by omega) e2 hk).2
              · split
                · exact (offG j (by omega) e2 hk).1
                · exact h2 j j' k (by omega) (by omega) hjj hk
        · show (F' 1 k ∨ ∃ j, j < os.length ∧ (if j = i then F' 0 k else G j k)) ↔ ∃ j, j < (insL os (b : Int) d ++ [((b2 : Int), d2)]).length ∧ (if j = os.length then F' 1 else if j = i then F' 0 else G j) k
          rw [hlen2]
          constructor
          · rintro (hk | ⟨j, hj, hk⟩)
            · exact ⟨os.length, by omega, by rw [if_pos rfl]; exact hk⟩
            · refine ⟨j, by omega, ?_⟩
              rw [if_neg (by omega)]
              split at hk <;> rename_i e <;> simp only [e, if_true, if_false] <;> exact hk
          · rintro ⟨j, hj, hk⟩
            by_cases e : j = os.length
            · rw [if_pos e] at hk; exact .inl hk
            · rw [if_neg e] at hk
              refine .inr ⟨j, by omega, ?_⟩
              split at hk <;> rename_i e <;> simp only [e, if_true, if_false] <;> exact hk
    · simp at hi' hj; omega
  · show SV.den ρ0 I' w' (.adr T (some b2)) v
    unfold SV.den
    exact hv
  · intro r hr
    obtain rfl := List.mem_singleton.1 hr
    rfl
  · refine ⟨hb.os, hb.tape, hb.output, hb.size, fun k hk hn => hb.frame k hk (fun m hm hG => hn 0 Nat.one_pos ((h3 k).2 ⟨i, hi, hG⟩)), hb.keepI, fun k hk => ?_, hb.Ilt, fun j k _ hk => ?_⟩
    · rcases hb.Inew k hk with h | ⟨m, _, h⟩ | h
      · exact .inl h
      · exact .inr (.inl ⟨0, Nat.one_pos, (h3 k).2 ⟨i, hi, h⟩⟩)
      · exact .inr (.inr h)
    · rcases hk with hk | ⟨j', hj', hk⟩
      · rcases hb.new 1 k (by omega) hk with ⟨_, _, h⟩ | h
        · exact .inl ⟨0, Nat.one_pos, (h3 k).2 ⟨i, hi, h⟩⟩
        · exact .inr h
      · split at hk
        · rcases hb.new 0 k (by omega) hk with ⟨_, _, h⟩ | h
          · exact .inl ⟨0, Nat.one_pos, (h3 k).2 ⟨i, hi, h⟩⟩
          · exact .inr h
        · exact .inl ⟨0, Nat.one_pos, (h3 k).2 ⟨j', hj', hk⟩⟩
theorem PC0.fam_ok (C : PC0 K) {T : TypeId} {f : FuncId} {args : C.α → List SV} {d0 : t.den} (hroot : K.rooted) (hss : ∀ x, C.ss x = args x) (hout : ∀ A ∈ C.alts, ∀ x y, ∃ d, A.outs x y = [d]) (hr : ∀ A ∈ C.alts, ∀ x y, A.r x y = .ptr 0 0) (h : C.H.ok P f) : (C.F T args d0).ok P f := by
  intro (x : C.α) hpre ρ0 I F w vs hown hI hd
  have hd : SV.denL ρ0 I w (args x) vs := hd
  have hd1 : SV.denL ρ0 I w (C.ss x) vs := by rw [hss]; exact hd
  refine (h x hpre ρ0 I F w vs hown hI hd1).mono ?_
  rintro e w' ⟨v, rfl, B, hB, y, ρ1, I', F', hE⟩
  obtain ⟨A, hA, rfl⟩ := List.mem_map.1 hB
  obtain ⟨d, hdo⟩ := hout A hA x y
  have hown2 : Own (custs K (A.outs x y)) ρ1 I' F' w' := hE.own
  rw [hdo] at hown2
  obtain ⟨v1, hv1, -, hk1⟩ := hown2.holds 0 _ rfl
  obtain ⟨b, rfl, hb1⟩ := hroot _ _ _ _ _ hk1
  have hb : Beside 0 1 I I' F F' w w' := by
    have h0 : Beside 0 (custs K (A.outs x y)).length I I' F F' w w' := hE.beside
    rw [show (custs K (A.outs x y)).length = 1 by rw [hdo]; rfl] at h0
    exact h0
  have hv : v = .pointer (some ⟨b, 0, none⟩) := by
    have h0 : SV.den ρ1 I' w' (A.r x y) v := hE.den
    rw [hr A hA x y] at h0
    unfold SV.den at h0
    obtain ⟨b3, e3, e4⟩ := h0
    rw [hv1] at e3
    cases e3; exact e4
  refine ⟨v, rfl, _, List.mem_map.2 ⟨A, hA, rfl⟩, (y, b), [.int .i64 0], I', fun _ k => F' 0 k, hE.post, ?_, ?_, Nat.zero_le _, ?_, fun i hi => absurd hi (Nat.not_lt_zero i), ⟨hb.os, hb.tape, hb.output, hb.size, fun k hk hn => hb.frame k hk (fun m hm => absurd hm (Nat.not_lt_zero m)), hb.keepI, hb.Inew, hb.Ilt, fun j k _ hk => hb.new 0 k Nat.one_pos hk⟩⟩
  · show Own [.cust (famT t) K.fam [((b : Int), (A.outs x y)[0]?.getD d0)]] [.int .i64 0] I' _ w'
    rw [hdo]
    simp only [List.getElem?_cons_zero, Option.getD_some]
    refine ⟨rfl, fun j u hj => ?_, fun j r hj => ?_, fun i' j k hi' hj hij => ?_, fun j k _ hk => hown2.lt 0 k (by simp [custs]) hk, fun j k _ hk => hown2.notI 0 k (by simp [custs]) hk⟩
    · cases j with
      | zero => simp at hj; subst hj; rfl
      | succ j => simp at hj
    · cases j with
      | succ j => simp at hj
      | zero =>
        simp at hj
        subst hj
        refine ⟨.int .i64 0, rfl, rfl, rfl, fun _ => F' 0, fun j p hp => ?_, fun j j' k hj hj' hjj hk => ?_, fun k => ?_⟩
        · cases j with
          | zero => simp at hp; subst hp; exact ⟨b, rfl, hk1, hb1⟩
          | succ j => simp at hp
        · simp at hj hj'; omega
        · constructor
          · exact fun hk => ⟨0, by simp, hk⟩
          · rintro ⟨j, _, hk⟩; exact hk
    · simp at hi' hj; omega
  · show SV.den [.int .i64 0] I' w' (.adr T (some b)) v
    unfold SV.den
    exact hv
  · intro r hr
    obtain rfl := List.mem_singleton.1 hr
    rfl
theorem insL_same {α : Type} : {l : List (Int × α)} → {k : Int} → {v : α} → lookL l k = some v → insL l k v = l
  | [], _, _, h => by simp [lookL] at h
  | x :: l, k, v, h => by
    unfold lookL at h
    split at h
    · rename_i e
      cases h
      simp only [insL, if_pos e]
      rw [← e]
    · rename_i e
      simp only [insL, if_neg e, insL_same h]
/-- A method that leaves the object as it is. -/
def PC1.FL {t : Ty} {K : Pk t} (C : PC1 K) (T : TypeId) (args : C.α → List SV) : HC where
  α := C.α × List (Int × t.den) × Nat
  m := 1
  ss := fun x => .adr T (some x.2.2) :: args x.1
  Rs := fun x => [.cust (famT t) K.fam x.2.1]
  pre := fun x => C.pre x.1 ∧ lookL x.2.1 (x.2.2 : Int) = some (C.inn x.1)
  alts := C.alts.map fun A => { β := A.β, post := fun x y => A.post x.1 y, r := fun x y => A.r x.1 y, res := fun x _ => [.cust (famT t) K.fam x.2.1], kp := [true] }
theorem PC1.famL_ok (C : PC1 K) {T : TypeId} {f : FuncId} {args : C.α → List SV} (hroot : K.rooted) (hss : ∀ x, C.ss x = .ptr 0 0 :: args x) (hargs : ∀ x, SV.wfL 0 (args x) = true) (hout : ∀ A ∈ C.alts, ∀ x y, A.outs x y = [C.inn x]) (hr : ∀ A ∈ C.alts, ∀ x y, SV.wf 0 (A.r x y) = true) (h : C.H.ok P f) : (C.FL T args).ok P f := by
  rintro ⟨x, os, b⟩ ⟨hpre, hl⟩ ρ0 I F w vs hown hI hd
  have hl : lookL os (b : Int) = some (C.inn x) := hl
  refine (C.fam_ok (T := T) hroot hss hargs (fun A hA x y => ⟨_, hout A hA x y⟩) hr h ⟨x, os, b⟩ ⟨hpre, hl⟩ ρ0 I F w vs hown hI hd).mono ?_
  rintro e w' ⟨v, rfl, B, hB, y, ρ1, I', F', hE⟩
  obtain ⟨A, hA, rfl⟩ := List.mem_map.1 hB
  have hres : insL os (b : Int) ((A.outs x y)[0]?.getD (C.inn x)) = os := by
    rw [hout A hA x y]
    exact insL_same hl
  have hown' : Own [.cust (famT t) K.fam (insL os (b : Int) ((A.outs x y)[0]?.getD (C.inn x)))] ρ1 I' F' w' := hE.own
  rw [hres] at hown'
  refine ⟨v, rfl, _, List.mem_map.2 ⟨A, hA, rfl⟩, y, ρ1, I', F', hE.post, hown', hE.den, Nat.le_refl 1, ?_, hE.kept, hE.beside⟩
  intro r hr
  obtain rfl := List.mem_singleton.1 hr
  rfl
end Go.Proofs.Ytfdcmbaoekjkgaa.Gx
namespace Go.Proofs.Ytfdcmbaoekjkgaa
open Go.Proofs.Ytfdcmbaoekjkgaa.Gx
set_option maxRecDepth 100000
set_option linter.unusedVariables false
set_option maxHeartbeats 0
abbrev oneT : Ty := .pair i64 (.pair i64 i64)
abbrev One := Int × Int × Int
abbrev refT : Ty := .pair (.slice oneT) (.slice oneT)
abbrev Bk := List One × List One
def hasB (A : List One) (t : Int) : Bool := A.any fun x => x.1 == t
def atB (A : List One) (t : Int) : Int := match A.findIdx? (fun x => x.1 == t) with
  | some i => i
  | none => -1
def ofB (B : List One) (t : Int) : List Int := (B.filter fun x => x.1 == t).map (·.2.2)
def pickB (A : List One) (p : Int × Int → Bool) : List Int := (A.filter fun x => p x.2).map (·.1)
def dropB : List One → Int → List One
  | [], _ => []
  | x :: l, t => if x.1 = t then l else x :: dropB l t
def dropsB (A : List One) (l : List Int) : List One := l.foldl dropB A
def fewB (W : Bk) : Prop := W.1.length ≤ 1000000 ∧ W.2.length ≤ 1000000
def fewR (W : Bk) : Prop := W.1.length ≤ 100000 ∧ W.2.length ≤ 100000
def bkRs (W : Bk) : List Res := [.blk 50 [.rs oneT W.1, .rs oneT W.2]]
def looksB (α : Type) (inn : α → Bk) (ss : α → List SV) (r : α → SV) : HC where
  α := α
  m := 1
  ss := ss
  Rs := fun x => bkRs (inn x)
  pre := fun x => fewB (inn x)
  alts := [{ β := Unit, post := fun _ _ => True, r := fun x _ => r x, res := fun x _ => bkRs (inn x), kp := [true] }]
def turnsB (α : Type) (inn : α → Bk) (ss : α → List SV) (r : α → SV) (out : α → Bk) : HC where
  α := α
  m := 1
  ss := ss
  Rs := fun x => bkRs (inn x)
  pre := fun x => fewR (inn x)
  alts := [{ β := Unit, post := fun _ _ => True, r := fun x _ => r x, res := fun x _ => bkRs (out x), kp := [true] }]
/-- Rows in a block's cells are let go. -/
def frzC (q : Nat) : Nat → List SV → St → (List SV → St → Prop) → Prop
  | 0, ss, S, k => k ss S
  | n + 1, ss, S, k => match SV.rowIn (cellsAt q S) with
    | none => k ss S
    | some j => match S.res[j]? with
      | some (.row _ t xs) => frzC q n (SV.subL j (.rs t xs) ss) (S.frz j t xs) k
      | _ => False
theorem frzC_ok (q : Nat) {cx : Cx} {w : World} {a : Act} {sv : List Act} {vs : List Value} {k : List SV → St → Prop} : (n : Nat) → {ss : List SV} → {S : St} → Ok cx S a w sv ss vs → frzC q n ss S k → ∃ ss' S', Ok cx S' a w sv ss' vs ∧ k ss' S'
  | 0, ss, S, h, hk => ⟨ss, S, h, hk⟩
  | n + 1, ss, S, h, hk => by
    unfold frzC at hk
    split at hk
    · exact ⟨ss, S, h, hk⟩
    · split at hk
      · rename_i hr
        exact frzC_ok q n (h.frz hr) hk
      · exact hk.elim
def finB : Fin := Fin.comp Fin.frz ⟨fun r S k => frzC 0 4 [r] S fun rs S => match rs with
  | [r] => k r S
  | _ => False, fun h hk => by
    obtain ⟨ss, S', h1, h2⟩ := frzC_ok 0 4 h hk
    split at h2
    · exact ⟨_, S', h1, h2⟩
    · exact h2.elim⟩
def preB (sp : Gx.Spec) : Gx.Spec := fun ss S K => match ss with
  | .ptr j 0 :: _ => frzC j 4 ss S fun ss S => sp ss S K
  | _ => sp ss S K
theorem preB_ok {f : FuncId} {sp : Gx.Spec} (h : SpecOk PP f sp) : SpecOk PP f (preB sp) := by
  intro cx S a w sv ss vs K hok hk
  unfold preB at hk
  split at hk
  · obtain ⟨ss', S', h1, h2⟩ := frzC_ok _ 4 hok hk
    exact h cx S' a w sv ss' vs K h1 h2
  · exact h cx S a w sv ss vs K hok hk
def useBk (H : HC) (mk : Bk → List SV → Option H.α) : Gx.Spec := preB (hspec H [] fun ss S => match ss with
  | .ptr j 0 :: rest => match S.res[j]? with
    | some (.blk _ [a, b]) => match asTy (.slice oneT) a, asTy (.slice oneT) b with
      | some A, some B => match mk (A, B) rest with
        | some x => some ([j], x)
        | none => none
      | _, _ => none
    | _ => none
  | _ => none)
/-! ### Those that only look -/
def atC : HC := looksB (Bk × Int) (fun x => x.1) (fun x => [.ptr 0 0, .int .i64 x.2]) (fun x => .int .i64 (atB x.1.1 x.2))
def atLoop : List (Nat × (St → Option LoopSpec)) :=
  [(2, fun S => match getT S.fr.tm 10, getT S.fr.tm 1 with
    | .rs (.pair (.int .i64) (.pair (.int .i64) (.int .i64))) A, .int _ x => some { α := Nat, inv := fun i => i ≤ A.length ∧ hasB (A.take i) x = false, ov := fun i => [(12, .int .i64 (i : Int))], rov := fun _ => [], meas := fun i => A.length - i }
    | _, _ => none)]
theorem at_vc (W : Bk) (x : Int) : (fvc PP (eL atLoop) Try.f41 c41 (atC.ss (W, x)) (St1 (atC.Rs (W, x))) (fun r S => altsOk 1 (W, x) r S atC.alts)) = (
  W.fst.length ≤ maxLen → ∃ (x0 : Nat), (x0 ≤ W.fst.length ∧ hasB (List.take x0 W.fst) x = false) ∧ (((True ∧ True) ∧ True) ∧ ((0 : Int) = (↑x0 : Int) ∧ (↑W.fst.length : Int) = (↑W.fst.length : Int) ∧ W.fst = W.fst ∧ 
  True ∧ x = x ∧ True) ∧ (W.fst = W.fst ∧ W.snd = W.snd ∧ True) ∧ True) ∧ ∀ (x_1 : Nat), x_1 ≤ W.fst.length ∧ hasB (List.take x_1 W.fst) x = false → (decide ((↑x_1 : Int) < (↑W.fst.length : Int)) = true → ((0 : Int) ≤ 
  (↑x_1 : Int) ∧ (↑x_1 : Int) < (↑W.fst.length : Int)) ∧ ∀ (y : Int × Int × Int), W.fst[(↑x_1 : Int).toNat]? = some y → ((y.fst == x) = true → ∃ (y : Unit), True ∧ (↑x_1 : Int) = atB W.fst x ∧ ((W.fst = W.fst ∧ W.snd = 
  W.snd ∧ True) ∧ True) ∧ (True ∧ True) ∧ True) ∧ ((y.fst == x) = false → ∃ (x' : Nat), (x' ≤ W.fst.length ∧ hasB (List.take x' W.fst) x = false) ∧ W.fst.length - x' < W.fst.length - x_1 ∧ ((True ∧ True) ∧ True) ∧ 
  (IntKind.i64.wrap ((↑x_1 : Int) + (1 : Int)) = (↑x' : Int) ∧ (↑W.fst.length : Int) = (↑W.fst.length : Int) ∧ W.fst = W.fst ∧ True ∧ x = x ∧ True) ∧ (W.fst = W.fst ∧ W.snd = W.snd ∧ True) ∧ True)) ∧ (decide ((↑x_1 : 
  Int) < (↑W.fst.length : Int)) = false → ∃ (y : Unit), True ∧ (-1 : Int) = atB W.fst x ∧ ((W.fst = W.fst ∧ W.snd = W.snd ∧ True) ∧ True) ∧ (True ∧ True) ∧ True)) := by kernel_rfl
def ofC : HC := looksB (Bk × Int) (fun x => x.1) (fun x => [.ptr 0 0, .int .i64 x.2]) (fun x => .rs i64 (ofB x.1.2 x.2))
def ofLoop : List (Nat × (St → Option LoopSpec)) :=
  [(3, fun S => match getT S.fr.tm 12, getT S.fr.tm 1, getT S.fr.tm 5 with
    | .rs (.pair (.int .i64) (.pair (.int .i64) (.int .i64))) A, .int _ x, .row r => some { α := Nat, inv := fun i => i ≤ A.length, ov := fun i => [(14, .int .i64 (i : Int)), (5, .row r)], rov := fun i => [(r, .row 0 i64 (ofB (A.take i) x))], meas := fun i => A.length - i }
    | _, _, _ => none)]
theorem of_vc (W : Bk) (x : Int) : (fvc PP (eL ofLoop) Try.f43 c43 (ofC.ss (W, x)) (St1 (ofC.Rs (W, x))) (fun r S => Fin.frz.T r S fun r S => altsOk 1 (W, x) r S ofC.alts)) = (
  W.snd.length ≤ maxLen → ∃ (x0 : Nat), x0.le W.snd.length ∧ (((True ∧ True) ∧ True) ∧ ((0 : Int) = (↑x0 : Int) ∧ True ∧ (↑W.snd.length : Int) = (↑W.snd.length : Int) ∧ W.snd = W.snd ∧ SV.val (Value.slice none (0 : Nat) 
  (0 : Nat)) = SV.val (Value.slice none (0 : Nat) (0 : Nat)) ∧ True ∧ x = x ∧ True) ∧ (W.fst = W.fst ∧ W.snd = W.snd ∧ True) ∧ [] = ofB (List.take x0 W.snd) x ∧ True) ∧ ∀ (x_1 : Nat), x_1.le W.snd.length → (decide ((↑x_1 
  : Int) < (↑W.snd.length : Int)) = true → ((0 : Int) ≤ (↑x_1 : Int) ∧ (↑x_1 : Int) < (↑W.snd.length : Int)) ∧ ∀ (y : Int × Int × Int), W.snd[(↑x_1 : Int).toNat]? = some y → ((y.fst == x) = true → ((ofB (List.take x_1 
  W.snd) x).length + [y.snd.snd].length) * (8 : Nat) ≤ (140737488355328 : Nat) ∧ ∃ (x' : Nat), x'.le W.snd.length ∧ W.snd.length - x' < W.snd.length - x_1 ∧ ((True ∧ True) ∧ True) ∧ (IntKind.i64.wrap ((↑x_1 : Int) + (1 : 
  Int)) = (↑x' : Int) ∧ True ∧ (↑W.snd.length : Int) = (↑W.snd.length : Int) ∧ W.snd = W.snd ∧ SV.val (Value.slice none (0 : Nat) (0 : Nat)) = SV.val (Value.slice none (0 : Nat) (0 : Nat)) ∧ True ∧ x = x ∧ True) ∧ (W.fst 
  = W.fst ∧ W.snd = W.snd ∧ True) ∧ ofB (List.take x_1 W.snd) x ++ [y.snd.snd] = ofB (List.take x' W.snd) x ∧ True) ∧ ((y.fst == x) = false → ∃ (x' : Nat), x'.le W.snd.length ∧ W.snd.length - x' < W.snd.length - x_1 ∧ 
  ((True ∧ True) ∧ True) ∧ (IntKind.i64.wrap ((↑x_1 : Int) + (1 : Int)) = (↑x' : Int) ∧ True ∧ (↑W.snd.length : Int) = (↑W.snd.length : Int) ∧ W.snd = W.snd ∧ SV.val (Value.slice none (0 : Nat) (0 : Nat)) = SV.val 
  (Value.slice none (0 : Nat) (0 : Nat)) ∧ True ∧ x = x ∧ True) ∧ (W.fst = W.fst ∧ W.snd = W.snd ∧ True) ∧ ofB (List.take x_1 W.snd) x = ofB (List.take x' W.snd) x ∧ True)) ∧ (decide ((↑x_1 : Int) < (↑W.snd.length : 
  Int)) = false → ∃ (y : Unit), True ∧ ofB (List.take x_1 W.snd) x = ofB W.snd x ∧ ((W.fst = W.fst ∧ W.snd = W.snd ∧ True) ∧ True) ∧ (True ∧ True) ∧ True)) := by kernel_rfl
def bListC : HC := looksB (Bk × Int × Int) (fun x => x.1) (fun x => [.ptr 0 0, .int .i64 x.2.1, .int .i64 x.2.2]) (fun x => .rs i64 (pickB x.1.1 (atP x.2.1 x.2.2)))
def bListLoop : List (Nat × (St → Option LoopSpec)) :=
  [(3, fun S => match getT S.fr.tm 14, getT S.fr.tm 1, getT S.fr.tm 2, getT S.fr.tm 7 with
    | .rs (.pair (.int .i64) (.pair (.int .i64) (.int .i64))) A, .int _ x, .int _ y, .row r => some { α := Nat, inv := fun i => i ≤ A.length, ov := fun i => [(16, .int .i64 (i : Int)), (7, .row r)], rov := fun i => [(r, .row 0 i64 (pickB (A.take i) (atP x y)))], meas := fun i => A.length - i }
    | _, _, _, _ => none)]
theorem bList_vc (W : Bk) (x y : Int) : (fvc PP (eL bListLoop) Try.f42 c42 (bListC.ss (W, x, y)) (St1 (bListC.Rs (W, x, y))) (fun r S => Fin.frz.T r S fun r S => altsOk 1 (W, x, y) r S bListC.alts)) = (
  W.fst.length ≤ maxLen → ∃ (x0 : Nat), x0.le W.fst.length ∧ (((True ∧ True) ∧ True) ∧ ((0 : Int) = (↑x0 : Int) ∧ True ∧ (↑W.fst.length : Int) = (↑W.fst.length : Int) ∧ W.fst = W.fst ∧ SV.val (Value.slice none (0 : Nat) 
  (0 : Nat)) = SV.val (Value.slice none (0 : Nat) (0 : Nat)) ∧ True ∧ x = x ∧ y = y ∧ True) ∧ (W.fst = W.fst ∧ W.snd = W.snd ∧ True) ∧ [] = pickB (List.take x0 W.fst) (atP x y) ∧ True) ∧ ∀ (x_1 : Nat), x_1.le 
  W.fst.length → (decide ((↑x_1 : Int) < (↑W.fst.length : Int)) = true → ((0 : Int) ≤ (↑x_1 : Int) ∧ (↑x_1 : Int) < (↑W.fst.length : Int)) ∧ ∀ (y_1 : Int × Int × Int), W.fst[(↑x_1 : Int).toNat]? = some y_1 → ∃ (v : 
  Bool), (((y_1.snd.fst == x) = true → (y_1.snd.snd == y) = v) ∧ ((y_1.snd.fst == x) = !true → false = v)) ∧ (v = true → ((pickB (List.take x_1 W.fst) (atP x y)).length + [y_1.fst].length) * (8 : Nat) ≤ (140737488355328 
  : Nat) ∧ ∃ (x' : Nat), x'.le W.fst.length ∧ W.fst.length - x' < W.fst.length - x_1 ∧ ((True ∧ True) ∧ True) ∧ (IntKind.i64.wrap ((↑x_1 : Int) + (1 : Int)) = (↑x' : Int) ∧ True ∧ (↑W.fst.length : Int) = (↑W.fst.length : 
  Int) ∧ W.fst = W.fst ∧ SV.val (Value.slice none (0 : Nat) (0 : Nat)) = SV.val (Value.slice none (0 : Nat) (0 : Nat)) ∧ True ∧ x = x ∧ y = y ∧ True) ∧ (W.fst = W.fst ∧ W.snd = W.snd ∧ True) ∧ pickB (List.take x_1 W.fst) 
  (atP x y) ++ [y_1.fst] = pickB (List.take x' W.fst) (atP x y) ∧ True) ∧ (v = false → ∃ (x' : Nat), x'.le W.fst.length ∧ W.fst.length - x' < W.fst.length - x_1 ∧ ((True ∧ True) ∧ True) ∧ (IntKind.i64.wrap ((↑x_1 : Int) 
  + (1 : Int)) = (↑x' : Int) ∧ True ∧ (↑W.fst.length : Int) = (↑W.fst.length : Int) ∧ W.fst = W.fst ∧ SV.val (Value.slice none (0 : Nat) (0 : Nat)) = SV.val (Value.slice none (0 : Nat) (0 : Nat)) ∧ True ∧ x = x ∧ y = y ∧ 
  True) ∧ (W.fst = W.fst ∧ W.snd = W.snd ∧ True) ∧ pickB (List.take x_1 W.fst) (atP x y) = pickB (List.take x' W.fst) (atP x y) ∧ True)) ∧ (decide ((↑x_1 : Int) < (↑W.fst.length : Int)) = false → ∃ (y_1 : Unit), True ∧ 
  pickB (List.take x_1 W.fst) (atP x y) = pickB W.fst (atP x y) ∧ ((W.fst = W.fst ∧ W.snd = W.snd ∧ True) ∧ True) ∧ (True ∧ True) ∧ True)) := by kernel_rfl
def dropLoop : List (Nat × (St → Option LoopSpec)) :=
  [(4, fun S => match getT S.fr.tm 10, getT S.fr.tm 1, getT S.fr.tm 5 with
    | .rs (.pair (.int .i64) (.pair (.int .i64) (.int .i64))) A, .int _ x, .row r => some { α := Nat, inv := fun i => i ≤ A.length, ov := fun i => [(12, .int .i64 (i : Int)), (5, .row r), (6, .bool (hasB (A.take i) x))], rov := fun i => [(r, .row 0 oneT (dropB (A.take i) x))], meas := fun i => A.length - i }
    | _, _, _ => none)]
theorem drop_vc (A : List One) (x : Int) : (fvc PP (eL dropLoop) Try.f49 c49 (ofArgs [.slice oneT, i64] (A, x, ())) St0 (gives [.slice oneT] (dropB A x, ()))) = (
  A.length ≤ maxLen → ∃ (x0 : Nat), x0.le A.length ∧ ((True ∧ True) ∧ ((0 : Int) = (↑x0 : Int) ∧ True ∧ false = hasB (List.take x0 A) x ∧ (↑A.length : Int) = (↑A.length : Int) ∧ A = A ∧ SV.val (Value.slice none (0 : Nat) 
  (0 : Nat)) = SV.val (Value.slice none (0 : Nat) (0 : Nat)) ∧ A = A ∧ x = x ∧ True) ∧ [] = dropB (List.take x0 A) x ∧ True) ∧ ∀ (x_1 : Nat), x_1.le A.length → (decide ((↑x_1 : Int) < (↑A.length : Int)) = true → ((0 : 
  Int) ≤ (↑x_1 : Int) ∧ (↑x_1 : Int) < (↑A.length : Int)) ∧ ∀ (y : Int × Int × Int), A[(↑x_1 : Int).toNat]? = some y → ∃ (v : Bool), (((y.fst == x) = true → (!hasB (List.take x_1 A) x) = v) ∧ ((y.fst == x) = !true → 
  false = v)) ∧ (v = true → ∃ (x' : Nat), x'.le A.length ∧ A.length - x' < A.length - x_1 ∧ (True ∧ True) ∧ (IntKind.i64.wrap ((↑x_1 : Int) + (1 : Int)) = (↑x' : Int) ∧ True ∧ true = hasB (List.take x' A) x ∧ (↑A.length 
  : Int) = (↑A.length : Int) ∧ A = A ∧ SV.val (Value.slice none (0 : Nat) (0 : Nat)) = SV.val (Value.slice none (0 : Nat) (0 : Nat)) ∧ A = A ∧ x = x ∧ True) ∧ dropB (List.take x_1 A) x = dropB (List.take x' A) x ∧ True) 
  ∧ (v = false → ((dropB (List.take x_1 A) x).length + [(y.fst, y.snd.fst, y.snd.snd)].length) * (24 : Nat) ≤ (140737488355328 : Nat) ∧ ∃ (x' : Nat), x'.le A.length ∧ A.length - x' < A.length - x_1 ∧ (True ∧ True) ∧ 
  (IntKind.i64.wrap ((↑x_1 : Int) + (1 : Int)) = (↑x' : Int) ∧ True ∧ hasB (List.take x_1 A) x = hasB (List.take x' A) x ∧ (↑A.length : Int) = (↑A.length : Int) ∧ A = A ∧ SV.val (Value.slice none (0 : Nat) (0 : Nat)) = 
  SV.val (Value.slice none (0 : Nat) (0 : Nat)) ∧ A = A ∧ x = x ∧ True) ∧ dropB (List.take x_1 A) x ++ [(y.fst, y.snd.fst, y.snd.snd)] = dropB (List.take x' A) x ∧ True)) ∧ (decide ((↑x_1 : Int) < (↑A.length : Int)) = 
  false → dropB (List.take x_1 A) x = dropB A x ∧ True)) := by kernel_rfl
end Go.Proofs.Ytfdcmbaoekjkgaa
namespace Go.Proofs.Ytfdcmbaoekjkgaa
open Go.Proofs.Ytfdcmbaoekjkgaa.Gx
set_option maxRecDepth 100000
set_option maxHeartbeats 4000000
set_option linter.unusedSimpArgs false
set_option linter.unusedVariables false
variable {A : List One} {i : Nat} {y : One} {x : Int}
theorem get_at {α : Type} {l : List α} {i : Nat} {y : α} (h : l[(i : Int).toNat]? = some y) : l[i]? = some y := h
theorem hasB_snoc (h : A[i]? = some y) : hasB (A.take (i + 1)) x = (hasB (A.take i) x || y.1 == x) := by
  rw [take_snoc h]; simp [hasB, List.any_append]
theorem atB_some (h : A[i]? = some y) (hn : hasB (A.take i) x = false) (he : (y.1 == x) = true) : atB A x = (i : Int) := by
  have hl := (List.getElem?_eq_some_iff.1 h).1
  have hy : A[i] = y := (List.getElem?_eq_some_iff.1 h).2
  have : A.findIdx? (fun z => z.1 == x) = some i := by
    rw [List.findIdx?_eq_some_iff_getElem]
    refine ⟨hl, by rw [hy]; exact he, fun j hj => ?_⟩
    have : ∀ z ∈ A.take i, ¬ (z.1 == x) = true := by simpa [hasB, List.any_eq_false] using hn
    exact this _ (by rw [List.mem_take_iff_getElem]; exact ⟨j, by omega, rfl⟩)
  unfold atB; rw [this]
theorem atB_none (hn : hasB A x = false) : atB A x = -1 := by
  have : A.findIdx? (fun z => z.1 == x) = none := by
    rw [List.findIdx?_eq_none_iff]
    intro z hz
    have : ∀ z ∈ A, ¬ (z.1 == x) = true := by simpa [hasB, List.any_eq_false] using hn
    simpa using this z hz
  unfold atB; rw [this]
theorem at_ok : atC.ok PP 41 := by
  refine hc_of mixed (fn := Try.f41) (c := c41) rfl rfl atC (fun x => rfl) ?_
  rintro ⟨W, x⟩ hp
  refine ⟨eL atLoop, env_ok .., rfl, hold (at_vc W x) ?_⟩
  simp only [true_and, and_true]
  intro hA
  refine ⟨0, ⟨Nat.zero_le _, rfl⟩, rfl, ?_⟩
  rintro i ⟨hi, hn⟩
  refine ⟨fun hlt => ?_, fun hge => ⟨(), ?_⟩⟩
  · have hlt : i < W.1.length := by simpa using hlt
    refine ⟨⟨by omega, by omega⟩, fun y hy => ⟨fun he => ⟨(), (atB_some (get_at hy) hn he).symm⟩, fun he => ⟨i + 1, ⟨hlt, ?_⟩, by omega, wrap_succ hlt hA⟩⟩⟩
    rw [hasB_snoc (get_at hy), hn, he]; rfl
  · have : i = W.1.length := by have : ¬ i < W.1.length := by simpa using hge
                                omega
    subst this
    rw [List.take_length] at hn
    exact (atB_none hn).symm
theorem ofB_snoc (h : A[i]? = some y) : ofB (A.take (i + 1)) x = if (y.1 == x) = true then ofB (A.take i) x ++ [y.2.2] else ofB (A.take i) x := by
  rw [take_snoc h]; unfold ofB
  rw [List.filter_append, List.map_append]
  split
  · rename_i e; rw [List.filter_cons, if_pos e]; rfl
  · rename_i e; rw [List.filter_cons, if_neg e]; simp
theorem ofB_len (A : List One) (x : Int) : (ofB A x).length ≤ A.length := by unfold ofB; rw [List.length_map]; exact List.length_filter_le _ _
theorem take_len (A : List One) (i : Nat) : (A.take i).length ≤ A.length := by rw [List.length_take]; omega
theorem of_ok : ofC.ok PP 43 := by
  refine hc_ofP Fin.frz mixed (fn := Try.f43) (c := c43) rfl rfl ofC (fun x => rfl) ?_
  rintro ⟨W, x⟩ hp
  have hp : fewB W := hp
  refine ⟨eL ofLoop, env_ok .., rfl, hold (of_vc W x) ?_⟩
  simp only [true_and, and_true]
  intro hA
  refine ⟨0, Nat.zero_le _, ⟨rfl, rfl⟩, ?_⟩
  intro i hi
  refine ⟨fun hlt => ?_, fun hge => ⟨(), ?_⟩⟩
  · have hlt : i < W.2.length := by simpa using hlt
    refine ⟨⟨by omega, by omega⟩, fun y hy => ⟨fun he => ⟨?_, i + 1, hlt, by omega, wrap_succ hlt hA, ?_⟩, fun he => ⟨i + 1, hlt, by omega, wrap_succ hlt hA, ?_⟩⟩⟩
    · have := ofB_len (W.2.take i) x
      have := take_len W.2 i
      have := hp.2
      simp only [List.length_singleton]; omega
    · rw [ofB_snoc (get_at hy), if_pos he]
    · rw [ofB_snoc (get_at hy), if_neg (by rw [he]; simp)]
  · have : i = W.2.length := by
      have h2 : ¬ i < W.2.length := by simpa using hge
      have : i ≤ W.2.length := hi
      omega
    subst this
    rw [List.take_length]
theorem pick_snoc {p : Int × Int → Bool} (h : A[i]? = some y) : pickB (A.take (i + 1)) p = if p y.2 = true then pickB (A.take i) p ++ [y.1] else pickB (A.take i) p := by
  rw [take_snoc h]; unfold pickB
  rw [List.filter_append, List.map_append]
  split
  · rename_i e; rw [List.filter_cons, if_pos e]; rfl
  · rename_i e; rw [List.filter_cons, if_neg e]; simp
theorem pick_len (A : List One) (p : Int × Int → Bool) : (pickB A p).length ≤ A.length := by unfold pickB; rw [List.length_map]; exact List.length_filter_le _ _
theorem bList_ok : bListC.ok PP 42 := by
  refine hc_ofP Fin.frz mixed (fn := Try.f42) (c := c42) rfl rfl bListC (fun x => rfl) ?_
  rintro ⟨W, x, z⟩ hp
  have hp : fewB W := hp
  refine ⟨eL bListLoop, env_ok .., rfl, hold (bList_vc W x z) ?_⟩
  simp only [true_and, and_true]
  intro hA
  refine ⟨0, Nat.zero_le _, ⟨rfl, rfl⟩, ?_⟩
  intro i hi
  refine ⟨fun hlt => ?_, fun hge => ⟨(), ?_⟩⟩
  · have hlt : i < W.1.length := by simpa using hlt
    refine ⟨⟨by omega, by omega⟩, fun y hy => ⟨atP x z y.2, ⟨fun he => by unfold atP; rw [he]; rfl, fun he => by unfold atP; rw [he]; rfl⟩, fun he => ⟨?_, i + 1, hlt, by omega, wrap_succ hlt hA, ?_⟩, fun he => ⟨i + 1, hlt, by omega, wrap_succ hlt hA, ?_⟩⟩⟩
    · have := pick_len (W.1.take i) (atP x z)
      have := take_len W.1 i
      have := hp.1
      simp only [List.length_singleton]; omega
    · rw [pick_snoc (get_at hy), if_pos he]
    · rw [pick_snoc (get_at hy), if_neg (by rw [he]; simp)]
  · have : i = W.1.length := by
      have h2 : ¬ i < W.1.length := by simpa using hge
      have : i ≤ W.1.length := hi
      omega
    subst this
    rw [List.take_length]
theorem dropB_append : (A B : List One) → (x : Int) → dropB (A ++ B) x = if hasB A x = true then dropB A x ++ B else A ++ dropB B x
  | [], B, x => rfl
  | a :: A, B, x => by
    simp only [List.cons_append, dropB]
    by_cases e : a.1 = x
    · rw [if_pos e, if_pos (by simp [hasB, e])]; rw [if_pos e]
    · rw [if_neg e, dropB_append A B x]
      have : hasB (a :: A) x = hasB A x := by simp [hasB, e]
      rw [this]
      split <;> rfl
theorem dropB_no : {A : List One} → hasB A x = false → dropB A x = A
  | [], _ => rfl
  | a :: A, h => by
    have h2 : ¬ a.1 = x ∧ hasB A x = false := by
      have : ((a.1 == x) || hasB A x) = false := h
      simpa using this
    simp only [dropB]
    rw [if_neg h2.1, dropB_no h2.2]
theorem drop_snoc (h : A[i]? = some y) : dropB (A.take (i + 1)) x = if ((y.1 == x) && !hasB (A.take i) x) = true then dropB (A.take i) x else dropB (A.take i) x ++ [y] := by
  rw [take_snoc h, dropB_append]
  cases hb : hasB (A.take i) x with
  | true => simp
  | false =>
    rw [dropB_no hb]
    by_cases e : y.1 = x
    · simp [dropB, e]
    · simp [dropB, e]
theorem dropB_len : (A : List One) → (x : Int) → (dropB A x).length ≤ A.length
  | [], _ => Nat.le_refl _
  | a :: A, x => by
    have := dropB_len A x
    simp only [dropB]
    split
    · simp
    · simp only [List.length_cons]; omega
theorem bdrop_ok : PSpecOk PP 49 (Q [.slice oneT, i64] [.slice oneT] (fun x => decide (x.1.length ≤ 1000000)) (fun x => (dropB x.1 x.2.1, ()))) := by
  refine pspec_Q mixed (fn := Try.f49) (c := c49) rfl rfl _ _ rfl ?_
  rintro ⟨A, x, ⟨⟩⟩ - hp
  have hp : A.length ≤ 1000000 := by simpa using hp
  refine ⟨eL dropLoop, env_ok .., rfl, hold (drop_vc A x) ?_⟩
  simp only [true_and, and_true]
  intro hA
  refine ⟨0, Nat.zero_le _, ⟨⟨rfl, rfl⟩, rfl⟩, ?_⟩
  intro i hi
  refine ⟨fun hlt => ?_, fun hge => ?_⟩
  · have hlt : i < A.length := by simpa using hlt
    refine ⟨⟨by omega, by omega⟩, fun y hy => ⟨(y.1 == x) && !hasB (A.take i) x, ⟨fun he => by rw [he]; rfl, fun he => by rw [he]; rfl⟩, fun he => ⟨i + 1, hlt, by omega, ⟨wrap_succ hlt hA, ?_⟩, ?_⟩, fun he => ⟨?_, i + 1, hlt, by omega, ⟨wrap_succ hlt hA, ?_⟩, ?_⟩⟩⟩
    · rw [hasB_snoc (get_at hy)]
      have : (y.1 == x) = true := by simp at he; simp [he.1]
      simp [this]
    · rw [drop_snoc (get_at hy), if_pos he]
    · have := dropB_len (A.take i) x
      have := take_len A i
      simp only [List.length_singleton]; omega
    · rw [hasB_snoc (get_at hy)]
      cases h1 : hasB (A.take i) x with
      | true => rfl
      | false =>
        rw [h1] at he
        simpa using he
    · rw [drop_snoc (get_at hy), if_neg (by rw [he]; simp)]
  · have : i = A.length := by
      have h2 : ¬ i < A.length := by simpa using hge
      have : i ≤ A.length := hi
      omega
    subst this
    rw [List.take_length]
noncomputable def p49 : Pv PP := ⟨49, _, ⟨rfl, bdrop_ok⟩⟩
noncomputable def m41 : Sv PP := ⟨41, useBk atC fun W ss => match ss with | [.int .i64 t] => some (W, t) | _ => none, ⟨rfl, preB_ok (hspec_ok at_ok _ _)⟩⟩
noncomputable def m42 : Sv PP := ⟨42, useBk bListC fun W ss => match ss with | [.int .i64 s, .int .i64 o] => some (W, s, o) | _ => none, ⟨rfl, preB_ok (hspec_ok bList_ok _ _)⟩⟩
noncomputable def m43 : Sv PP := ⟨43, useBk ofC fun W ss => match ss with | [.int .i64 t] => some (W, t) | _ => none, ⟨rfl, preB_ok (hspec_ok of_ok _ _)⟩⟩
end Go.Proofs.Ytfdcmbaoekjkgaa
namespace Go.Proofs.Ytfdcmbaoekjkgaa
open Go.Proofs.Ytfdcmbaoekjkgaa.Gx
set_option maxRecDepth 100000
set_option linter.unusedVariables false
set_option maxHeartbeats 0
def waitB (W : Bk) (t s o : Int) : Int × Bk :=
  if !idB t || !idB s || decide (o < 0) || decide (o > 4095) then (1, W)
  else if atB W.1 t ≥ 0 then (8, W)
  else if ofB W.2 t ≠ [] then (10, W)
  else (0, (W.1 ++ [(t, s, o)], W.2))
def waitBC : HC := turnsB (Bk × Int × Int × Int) (fun x => x.1) (fun x => [.ptr 0 0, .int .i64 x.2.1, .int .i64 x.2.2.1, .int .i64 x.2.2.2]) (fun x => .int .i64 (waitB x.1 x.2.1 x.2.2.1 x.2.2.2).1) (fun x => (waitB x.1 x.2.1 x.2.2.1 x.2.2.2).2)
theorem waitB_vc (W : Bk) (t s o : Int) : (fvc PP (env PP [p48] [m41, m43] [] [] []) Try.f35 c35 (waitBC.ss (W, t, s, o)) (St1 (waitBC.Rs (W, t, s, o))) (fun r S => finB.T r S fun r S => altsOk 1 (W, t, s, o) r S waitBC.alts)) = (
  true = true ∧ ((!idB t) = false → true = true ∧ ((!idB s) = false → (decide (o < (0 : Int)) = false → (decide (o > (4095 : Int)) = true → ∃ (y : Unit), True ∧ (1 : Int) = (waitB W t s o).fst ∧ ((W.fst = (waitB W t s 
  o).snd.fst ∧ W.snd = (waitB W t s o).snd.snd ∧ True) ∧ True) ∧ (True ∧ True) ∧ True) ∧ (decide (o > (4095 : Int)) = false → (W.fst.length ≤ (1000000 : Nat) ∧ W.snd.length ≤ (1000000 : Nat)) ∧ (True ∧ t = t ∧ True) ∧ 
  ((W.fst = W.fst ∧ W.snd = W.snd ∧ True) ∧ True) ∧ (∀ (y : Unit), True → (decide (atB W.fst t ≥ (0 : Int)) = true → ∃ (y : Unit), True ∧ (8 : Int) = (waitB W t s o).fst ∧ ((W.fst = (waitB W t s o).snd.fst ∧ W.snd = 
  (waitB W t s o).snd.snd ∧ True) ∧ True) ∧ (True ∧ True) ∧ True) ∧ (decide (atB W.fst t ≥ (0 : Int)) = false → (W.fst.length ≤ (1000000 : Nat) ∧ W.snd.length ≤ (1000000 : Nat)) ∧ (True ∧ t = t ∧ True) ∧ ((W.fst = W.fst 
  ∧ W.snd = W.snd ∧ True) ∧ True) ∧ (∀ (y : Unit), True → (ofB W.snd t).length ≤ maxLen → (decide ((↑(ofB W.snd t).length : Int) > (0 : Int)) = true → ∃ (y : Unit), True ∧ (10 : Int) = (waitB W t s o).fst ∧ ((W.fst = 
  (waitB W t s o).snd.fst ∧ W.snd = (waitB W t s o).snd.snd ∧ True) ∧ True) ∧ (True ∧ True) ∧ True) ∧ (decide ((↑(ofB W.snd t).length : Int) > (0 : Int)) = false → ((0 : Nat) + W.fst.length) * (24 : Nat) ≤ 
  (140737488355328 : Nat) ∧ (([] ++ W.fst).length + [(t, s, o)].length) * (24 : Nat) ≤ (140737488355328 : Nat) ∧ ∃ (y : Unit), True ∧ (0 : Int) = (waitB W t s o).fst ∧ (([] ++ W.fst ++ [(t, s, o)] = (waitB W t s 
  o).snd.fst ∧ W.snd = (waitB W t s o).snd.snd ∧ True) ∧ True) ∧ (True ∧ True) ∧ True)) ∧ True)) ∧ True)) ∧ (decide (o < (0 : Int)) = !false → ∃ (y : Unit), True ∧ (1 : Int) = (waitB W t s o).fst ∧ ((W.fst = (waitB W t s 
  o).snd.fst ∧ W.snd = (waitB W t s o).snd.snd ∧ True) ∧ True) ∧ (True ∧ True) ∧ True)) ∧ ((!idB s) = !false → ∃ (y : Unit), True ∧ (1 : Int) = (waitB W t s o).fst ∧ ((W.fst = (waitB W t s o).snd.fst ∧ W.snd = (waitB W t 
  s o).snd.snd ∧ True) ∧ True) ∧ (True ∧ True) ∧ True)) ∧ ((!idB t) = !false → ∃ (y : Unit), True ∧ (1 : Int) = (waitB W t s o).fst ∧ ((W.fst = (waitB W t s o).snd.fst ∧ W.snd = (waitB W t s o).snd.snd ∧ True) ∧ True) ∧ 
  (True ∧ True) ∧ True)) := by kernel_rfl
def postB (W : Bk) (t c : Int) : Bool × Int × Bk :=
  if !idB t || decide (c < 0) || decide (c > 255) then (false, 1, W)
  else if (ofB W.2 t).length = 8 then (false, 7, W)
  else (decide (atB W.1 t ≥ 0), 0, (dropB W.1 t, W.2 ++ [(t, 0, c)]))
def postBC : HC := turnsB (Bk × Int × Int) (fun x => x.1) (fun x => [.ptr 0 0, .int .i64 x.2.1, .int .i64 x.2.2]) (fun x => .tup [.bool (postB x.1 x.2.1 x.2.2).1, .int .i64 (postB x.1 x.2.1 x.2.2).2.1]) (fun x => (postB x.1 x.2.1 x.2.2).2.2)
theorem postB_vc (W : Bk) (t c : Int) : (fvc PP (env PP [p48, p49] [m41, m43] [] [] []) Try.f37 c37 (postBC.ss (W, t, c)) (St1 (postBC.Rs (W, t, c))) (fun r S => finB.T r S fun r S => altsOk 1 (W, t, c) r S postBC.alts)) = (
  true = true ∧ ((!idB t) = false → (decide (c < (0 : Int)) = false → (decide (c > (255 : Int)) = true → ∃ (y : Unit), True ∧ (false = (postB W t c).fst ∧ (1 : Int) = (postB W t c).snd.fst ∧ True) ∧ ((W.fst = (postB W t 
  c).snd.snd.fst ∧ W.snd = (postB W t c).snd.snd.snd ∧ True) ∧ True) ∧ (True ∧ True) ∧ True) ∧ (decide (c > (255 : Int)) = false → (W.fst.length ≤ (1000000 : Nat) ∧ W.snd.length ≤ (1000000 : Nat)) ∧ (True ∧ t = t ∧ True) 
  ∧ ((W.fst = W.fst ∧ W.snd = W.snd ∧ True) ∧ True) ∧ (∀ (y : Unit), True → (ofB W.snd t).length ≤ maxLen → (((↑(ofB W.snd t).length : Int) == (8 : Int)) = true → ∃ (y : Unit), True ∧ (false = (postB W t c).fst ∧ (7 : 
  Int) = (postB W t c).snd.fst ∧ True) ∧ ((W.fst = (postB W t c).snd.snd.fst ∧ W.snd = (postB W t c).snd.snd.snd ∧ True) ∧ True) ∧ (True ∧ True) ∧ True) ∧ (((↑(ofB W.snd t).length : Int) == (8 : Int)) = false → ((0 : 
  Nat) + W.snd.length) * (24 : Nat) ≤ (140737488355328 : Nat) ∧ (([] ++ W.snd).length + [(t, (0 : Int), c)].length) * (24 : Nat) ≤ (140737488355328 : Nat) ∧ (W.fst.length ≤ (1000000 : Nat) ∧ ([] ++ W.snd ++ [(t, (0 : 
  Int), c)]).length ≤ (1000000 : Nat)) ∧ (True ∧ t = t ∧ True) ∧ ((W.fst = W.fst ∧ [] ++ W.snd ++ [(t, (0 : Int), c)] = [] ++ W.snd ++ [(t, (0 : Int), c)] ∧ True) ∧ True) ∧ (∀ (y : Unit), True → decide (W.fst.length ≤ 
  (1000000 : Nat)) = true ∧ ∃ (y : Unit), True ∧ (decide (atB W.fst t ≥ (0 : Int)) = (postB W t c).fst ∧ (0 : Int) = (postB W t c).snd.fst ∧ True) ∧ ((dropB W.fst t = (postB W t c).snd.snd.fst ∧ [] ++ W.snd ++ [(t, (0 : 
  Int), c)] = (postB W t c).snd.snd.snd ∧ True) ∧ True) ∧ (True ∧ True) ∧ True) ∧ True)) ∧ True)) ∧ (decide (c < (0 : Int)) = !false → ∃ (y : Unit), True ∧ (false = (postB W t c).fst ∧ (1 : Int) = (postB W t c).snd.fst ∧ 
  True) ∧ ((W.fst = (postB W t c).snd.snd.fst ∧ W.snd = (postB W t c).snd.snd.snd ∧ True) ∧ True) ∧ (True ∧ True) ∧ True)) ∧ ((!idB t) = !false → ∃ (y : Unit), True ∧ (false = (postB W t c).fst ∧ (1 : Int) = (postB W t 
  c).snd.fst ∧ True) ∧ ((W.fst = (postB W t c).snd.snd.fst ∧ W.snd = (postB W t c).snd.snd.snd ∧ True) ∧ True) ∧ (True ∧ True) ∧ True)) := by kernel_rfl
def takeB (W : Bk) (t : Int) : Int × Bool × Bk := match ofB W.2 t with
  | [] => (0, false, W)
  | c :: _ => (c, true, (W.1, dropB W.2 t))
def takeBC : HC := turnsB (Bk × Int) (fun x => x.1) (fun x => [.ptr 0 0, .int .i64 x.2]) (fun x => .tup [.int .i64 (takeB x.1 x.2).1, .bool (takeB x.1 x.2).2.1]) (fun x => (takeB x.1 x.2).2.2)
theorem takeB_vc (W : Bk) (t : Int) : (fvc PP (env PP [p49] [m43] [] [] []) Try.f38 c38 (takeBC.ss (W, t)) (St1 (takeBC.Rs (W, t))) (fun r S => finB.T r S fun r S => altsOk 1 (W, t) r S takeBC.alts)) = (
  (W.fst.length ≤ (1000000 : Nat) ∧ W.snd.length ≤ (1000000 : Nat)) ∧ (True ∧ t = t ∧ True) ∧ ((W.fst = W.fst ∧ W.snd = W.snd ∧ True) ∧ True) ∧ (∀ (y : Unit), True → (ofB W.snd t).length ≤ maxLen → (((↑(ofB W.snd 
  t).length : Int) == (0 : Int)) = true → ∃ (y : Unit), True ∧ ((0 : Int) = (takeB W t).fst ∧ false = (takeB W t).snd.fst ∧ True) ∧ ((W.fst = (takeB W t).snd.snd.fst ∧ W.snd = (takeB W t).snd.snd.snd ∧ True) ∧ True) ∧ 
  (True ∧ True) ∧ True) ∧ (((↑(ofB W.snd t).length : Int) == (0 : Int)) = false → decide (W.snd.length ≤ (1000000 : Nat)) = true ∧ ((0 : Int) ≤ (0 : Int) ∧ (0 : Int) < (↑(ofB W.snd t).length : Int)) ∧ ∀ (y : Int), (ofB 
  W.snd t)[(0 : Nat)]? = some y → ∃ (y_1 : Unit), True ∧ (y = (takeB W t).fst ∧ true = (takeB W t).snd.fst ∧ True) ∧ ((W.fst = (takeB W t).snd.snd.fst ∧ dropB W.snd t = (takeB W t).snd.snd.snd ∧ True) ∧ True) ∧ (True ∧ 
  True) ∧ True)) ∧ True) := by kernel_rfl
def forgetB (W : Bk) (t : Int) : Bool × Bk := (decide (atB W.1 t ≥ 0), (dropB W.1 t, W.2.filter fun x => x.1 != t))
def forgetBC : HC := turnsB (Bk × Int) (fun x => x.1) (fun x => [.ptr 0 0, .int .i64 x.2]) (fun x => .bool (forgetB x.1 x.2).1) (fun x => (forgetB x.1 x.2).2)
def forgetLoop (W : Bk) (t : Int) : List (Nat × (St → Option LoopSpec)) :=
  [(3, fun _ => some { α := List One, inv := fun B => (B.filter fun x => x.1 != t) = (W.2.filter fun x => x.1 != t) ∧ B.length ≤ W.2.length, ov := fun _ => [], rov := fun B => [(0, .blk 0 [.rs oneT (dropB W.1 t), .rs oneT B])], meas := fun B => B.length })]
theorem forgetB_vc (W : Bk) (t : Int) : (fvc PP (env PP [p49] [m41, m43] [] [] (forgetLoop W t)) Try.f40 c40 (forgetBC.ss (W, t)) (St1 (forgetBC.Rs (W, t))) (fun r S => finB.T r S fun r S => altsOk 1 (W, t) r S forgetBC.alts)) = (
  (W.fst.length ≤ (1000000 : Nat) ∧ W.snd.length ≤ (1000000 : Nat)) ∧ (True ∧ t = t ∧ True) ∧ ((W.fst = W.fst ∧ W.snd = W.snd ∧ True) ∧ True) ∧ (∀ (y : Unit), True → decide (W.fst.length ≤ (1000000 : Nat)) = true ∧ ∃ (x0 
  : List One), (List.filter (fun (x : One) => x.fst != t) x0 = List.filter (fun (x : One) => x.fst != t) W.snd ∧ x0.length ≤ W.snd.length) ∧ (((True ∧ True) ∧ True) ∧ (decide (atB W.fst t ≥ (0 : Int)) = decide (atB W.fst 
  t ≥ (0 : Int)) ∧ false = false ∧ True ∧ t = t ∧ True) ∧ (dropB W.fst t = dropB W.fst t ∧ W.snd = x0 ∧ True) ∧ True) ∧ ∀ (x : List One), List.filter (fun (x : One) => x.fst != t) x = List.filter (fun (x : One) => x.fst 
  != t) W.snd ∧ x.length ≤ W.snd.length → ((dropB W.fst t).length ≤ (1000000 : Nat) ∧ x.length ≤ (1000000 : Nat)) ∧ (True ∧ t = t ∧ True) ∧ ((dropB W.fst t = dropB W.fst t ∧ x = x ∧ True) ∧ True) ∧ (∀ (y : Unit), True → 
  (ofB x t).length ≤ maxLen → (decide ((↑(ofB x t).length : Int) > (0 : Int)) = true → decide (x.length ≤ (1000000 : Nat)) = true ∧ ∃ (x' : List One), (List.filter (fun (x : One) => x.fst != t) x' = List.filter (fun (x : 
  One) => x.fst != t) W.snd ∧ x'.length ≤ W.snd.length) ∧ x'.length < x.length ∧ ((True ∧ True) ∧ True) ∧ (decide (atB W.fst t ≥ (0 : Int)) = decide (atB W.fst t ≥ (0 : Int)) ∧ false = false ∧ True ∧ t = t ∧ True) ∧ 
  (dropB W.fst t = dropB W.fst t ∧ dropB x t = x' ∧ True) ∧ True) ∧ (decide ((↑(ofB x t).length : Int) > (0 : Int)) = false → ∃ (y : Unit), True ∧ decide (atB W.fst t ≥ (0 : Int)) = (forgetB W t).fst ∧ ((dropB W.fst t = 
  (forgetB W t).snd.fst ∧ x = (forgetB W t).snd.snd ∧ True) ∧ True) ∧ (True ∧ True) ∧ True)) ∧ True) ∧ True) := by kernel_rfl
def wakeB (W : Bk) (p : Int × Int → Bool) : List Int × Bk := (pickB W.1 p, (dropsB W.1 (pickB W.1 p), W.2))
def wakeBC : HC := turnsB (Bk × Int × Int) (fun x => x.1) (fun x => [.ptr 0 0, .int .i64 x.2.1, .int .i64 x.2.2]) (fun x => .rs i64 (wakeB x.1 (atP x.2.1 x.2.2)).1) (fun x => (wakeB x.1 (atP x.2.1 x.2.2)).2)
def wakeBLoop (W : Bk) (p : Int × Int → Bool) : List (Nat × (St → Option LoopSpec)) :=
  [(3, fun _ => some { α := Nat, inv := fun i => i ≤ (pickB W.1 p).length, ov := fun i => [(16, .int .i64 (i : Int))], rov := fun i => [(0, .blk 0 [.rs oneT (dropsB W.1 ((pickB W.1 p).take i)), .rs oneT W.2])], meas := fun i => (pickB W.1 p).length - i })]
theorem wakeB_vc (W : Bk) (s o : Int) : (fvc PP (env PP [p49] [m42] [] [] (wakeBLoop W (atP s o))) Try.f36 c36 (wakeBC.ss (W, s, o)) (St1 (wakeBC.Rs (W, s, o))) (fun r S => finB.T r S fun r S => altsOk 1 (W, s, o) r S wakeBC.alts)) = (
  (W.fst.length ≤ (1000000 : Nat) ∧ W.snd.length ≤ (1000000 : Nat)) ∧ (True ∧ s = s ∧ o = o ∧ True) ∧ ((W.fst = W.fst ∧ W.snd = W.snd ∧ True) ∧ True) ∧ (∀ (y : Unit), True → (pickB W.fst (atP s o)).length ≤ maxLen → ∃ 
  (x0 : Nat), x0.le (pickB W.fst (atP s o)).length ∧ (((True ∧ True) ∧ True) ∧ ((0 : Int) = (↑x0 : Int) ∧ (↑(pickB W.fst (atP s o)).length : Int) = (↑(pickB W.fst (atP s o)).length : Int) ∧ pickB W.fst (atP s o) = pickB 
  W.fst (atP s o) ∧ pickB W.fst (atP s o) = pickB W.fst (atP s o) ∧ SV.val (Value.slice none (0 : Nat) (0 : Nat)) = SV.val (Value.slice none (0 : Nat) (0 : Nat)) ∧ True ∧ s = s ∧ o = o ∧ True) ∧ (W.fst = dropsB W.fst 
  (List.take x0 (pickB W.fst (atP s o))) ∧ W.snd = W.snd ∧ True) ∧ True) ∧ ∀ (x : Nat), x.le (pickB W.fst (atP s o)).length → (decide ((↑x : Int) < (↑(pickB W.fst (atP s o)).length : Int)) = true → ((0 : Int) ≤ (↑x : 
  Int) ∧ (↑x : Int) < (↑(pickB W.fst (atP s o)).length : Int)) ∧ ∀ (y : Int), (pickB W.fst (atP s o))[(↑x : Int).toNat]? = some y → decide ((dropsB W.fst (List.take x (pickB W.fst (atP s o)))).length ≤ (1000000 : Nat)) = 
  true ∧ ∃ (x' : Nat), x'.le (pickB W.fst (atP s o)).length ∧ (pickB W.fst (atP s o)).length - x' < (pickB W.fst (atP s o)).length - x ∧ ((True ∧ True) ∧ True) ∧ (IntKind.i64.wrap ((↑x : Int) + (1 : Int)) = (↑x' : Int) ∧ 
  (↑(pickB W.fst (atP s o)).length : Int) = (↑(pickB W.fst (atP s o)).length : Int) ∧ pickB W.fst (atP s o) = pickB W.fst (atP s o) ∧ pickB W.fst (atP s o) = pickB W.fst (atP s o) ∧ SV.val (Value.slice none (0 : Nat) (0 
  : Nat)) = SV.val (Value.slice none (0 : Nat) (0 : Nat)) ∧ True ∧ s = s ∧ o = o ∧ True) ∧ (dropB (dropsB W.fst (List.take x (pickB W.fst (atP s o)))) y = dropsB W.fst (List.take x' (pickB W.fst (atP s o))) ∧ W.snd = 
  W.snd ∧ True) ∧ True) ∧ (decide ((↑x : Int) < (↑(pickB W.fst (atP s o)).length : Int)) = false → ∃ (y : Unit), True ∧ pickB W.fst (atP s o) = (wakeB W (atP s o)).fst ∧ ((dropsB W.fst (List.take x (pickB W.fst (atP s 
  o))) = (wakeB W (atP s o)).snd.fst ∧ W.snd = (wakeB W (atP s o)).snd.snd ∧ True) ∧ True) ∧ (True ∧ True) ∧ True)) ∧ True) := by kernel_rfl
def closeBC : HC := turnsB (Bk × Int) (fun x => x.1) (fun x => [.ptr 0 0, .int .i64 x.2]) (fun x => .rs i64 (wakeB x.1 (inP x.2)).1) (fun x => (wakeB x.1 (inP x.2)).2)
def closeBLoop (W : Bk) (s : Int) : List (Nat × (St → Option LoopSpec)) :=
  [(3, fun S => match getT S.fr.tm 5 with
    | .row r => some { α := Nat, inv := fun i => i ≤ W.1.length, ov := fun i => [(16, .int .i64 (i : Int)), (5, .row r)], rov := fun i => [(r, .row 0 i64 (pickB (W.1.take i) (inP s)))], meas := fun i => W.1.length - i }
    | _ => none),
   (9, fun _ => some { α := Nat, inv := fun i => i ≤ (pickB W.1 (inP s)).length, ov := fun i => [(32, .int .i64 (i : Int))], rov := fun i => [(0, .blk 0 [.rs oneT (dropsB W.1 ((pickB W.1 (inP s)).take i)), .rs oneT W.2])], meas := fun i => (pickB W.1 (inP s)).length - i })]
theorem closeB_vc (W : Bk) (s : Int) : (fvc PP (env PP [p49] [] [] [] (closeBLoop W s)) Try.f39 c39 (closeBC.ss (W, s)) (St1 (closeBC.Rs (W, s))) (fun r S => finB.T r S fun r S => altsOk 1 (W, s) r S closeBC.alts)) = (
  W.fst.length ≤ maxLen → ∃ (x0 : Nat), x0.le W.fst.length ∧ (((True ∧ True) ∧ True) ∧ ((0 : Int) = (↑x0 : Int) ∧ True ∧ (↑W.fst.length : Int) = (↑W.fst.length : Int) ∧ W.fst = W.fst ∧ SV.val (Value.slice none (0 : Nat) 
  (0 : Nat)) = SV.val (Value.slice none (0 : Nat) (0 : Nat)) ∧ True ∧ s = s ∧ True) ∧ (W.fst = W.fst ∧ W.snd = W.snd ∧ True) ∧ [] = pickB (List.take x0 W.fst) (inP s) ∧ True) ∧ ∀ (x : Nat), x.le W.fst.length → (decide 
  ((↑x : Int) < (↑W.fst.length : Int)) = true → ((0 : Int) ≤ (↑x : Int) ∧ (↑x : Int) < (↑W.fst.length : Int)) ∧ ∀ (y : Int × Int × Int), W.fst[(↑x : Int).toNat]? = some y → ((y.snd.fst == s) = true → ((pickB (List.take x 
  W.fst) (inP s)).length + [y.fst].length) * (8 : Nat) ≤ (140737488355328 : Nat) ∧ ∃ (x' : Nat), x'.le W.fst.length ∧ W.fst.length - x' < W.fst.length - x ∧ ((True ∧ True) ∧ True) ∧ (IntKind.i64.wrap ((↑x : Int) + (1 : 
  Int)) = (↑x' : Int) ∧ True ∧ (↑W.fst.length : Int) = (↑W.fst.length : Int) ∧ W.fst = W.fst ∧ SV.val (Value.slice none (0 : Nat) (0 : Nat)) = SV.val (Value.slice none (0 : Nat) (0 : Nat)) ∧ True ∧ s = s ∧ True) ∧ (W.fst 
  = W.fst ∧ W.snd = W.snd ∧ True) ∧ pickB (List.take x W.fst) (inP s) ++ [y.fst] = pickB (List.take x' W.fst) (inP s) ∧ True) ∧ ((y.snd.fst == s) = false → ∃ (x' : Nat), x'.le W.fst.length ∧ W.fst.length - x' < 
  W.fst.length - x ∧ ((True ∧ True) ∧ True) ∧ (IntKind.i64.wrap ((↑x : Int) + (1 : Int)) = (↑x' : Int) ∧ True ∧ (↑W.fst.length : Int) = (↑W.fst.length : Int) ∧ W.fst = W.fst ∧ SV.val (Value.slice none (0 : Nat) (0 : 
  Nat)) = SV.val (Value.slice none (0 : Nat) (0 : Nat)) ∧ True ∧ s = s ∧ True) ∧ (W.fst = W.fst ∧ W.snd = W.snd ∧ True) ∧ pickB (List.take x W.fst) (inP s) = pickB (List.take x' W.fst) (inP s) ∧ True)) ∧ (decide ((↑x : 
  Int) < (↑W.fst.length : Int)) = false → (pickB (List.take x W.fst) (inP s)).length ≤ maxLen → ∃ (x0 : Nat), x0.le (pickB W.fst (inP s)).length ∧ (((True ∧ True) ∧ True) ∧ ((0 : Int) = (↑x0 : Int) ∧ (↑(pickB (List.take 
  x W.fst) (inP s)).length : Int) = (↑(pickB (List.take x W.fst) (inP s)).length : Int) ∧ True ∧ false = false ∧ (↑x : Int) = (↑x : Int) ∧ True ∧ (↑W.fst.length : Int) = (↑W.fst.length : Int) ∧ W.fst = W.fst ∧ SV.val 
  (Value.slice none (0 : Nat) (0 : Nat)) = SV.val (Value.slice none (0 : Nat) (0 : Nat)) ∧ True ∧ s = s ∧ True) ∧ (W.fst = dropsB W.fst (List.take x0 (pickB W.fst (inP s))) ∧ W.snd = W.snd ∧ True) ∧ pickB (List.take x 
  W.fst) (inP s) = pickB (List.take x W.fst) (inP s) ∧ True) ∧ ∀ (x_1 : Nat), x_1.le (pickB W.fst (inP s)).length → (decide ((↑x_1 : Int) < (↑(pickB (List.take x W.fst) (inP s)).length : Int)) = true → ((0 : Int) ≤ (↑x_1 
  : Int) ∧ (↑x_1 : Int) < (↑(pickB (List.take x W.fst) (inP s)).length : Int)) ∧ (↑x_1 : Int).toNat < (pickB (List.take x W.fst) (inP s)).length ∧ ∀ (y : Int), (pickB (List.take x W.fst) (inP s))[(↑x_1 : Int).toNat]? = 
  some y → decide ((dropsB W.fst (List.take x_1 (pickB W.fst (inP s)))).length ≤ (1000000 : Nat)) = true ∧ ∃ (x' : Nat), x'.le (pickB W.fst (inP s)).length ∧ (pickB W.fst (inP s)).length - x' < (pickB W.fst (inP 
  s)).length - x_1 ∧ ((True ∧ True) ∧ True) ∧ (IntKind.i64.wrap ((↑x_1 : Int) + (1 : Int)) = (↑x' : Int) ∧ (↑(pickB (List.take x W.fst) (inP s)).length : Int) = (↑(pickB (List.take x W.fst) (inP s)).length : Int) ∧ True 
  ∧ false = false ∧ (↑x : Int) = (↑x : Int) ∧ True ∧ (↑W.fst.length : Int) = (↑W.fst.length : Int) ∧ W.fst = W.fst ∧ SV.val (Value.slice none (0 : Nat) (0 : Nat)) = SV.val (Value.slice none (0 : Nat) (0 : Nat)) ∧ True ∧ 
  s = s ∧ True) ∧ (dropB (dropsB W.fst (List.take x_1 (pickB W.fst (inP s)))) y = dropsB W.fst (List.take x' (pickB W.fst (inP s))) ∧ W.snd = W.snd ∧ True) ∧ pickB (List.take x W.fst) (inP s) = pickB (List.take x W.fst) 
  (inP s) ∧ True) ∧ (decide ((↑x_1 : Int) < (↑(pickB (List.take x W.fst) (inP s)).length : Int)) = false → ∃ (y : Unit), True ∧ pickB (List.take x W.fst) (inP s) = (wakeB W (inP s)).fst ∧ ((dropsB W.fst (List.take x_1 
  (pickB W.fst (inP s))) = (wakeB W (inP s)).snd.fst ∧ W.snd = (wakeB W (inP s)).snd.snd ∧ True) ∧ True) ∧ (True ∧ True) ∧ True))) := by kernel_rfl
end Go.Proofs.Ytfdcmbaoekjkgaa
namespace Go.Proofs.Ytfdcmbaoekjkgaa
open Go.Proofs.Ytfdcmbaoekjkgaa.Gx
set_option maxRecDepth 100000
set_option maxHeartbeats 4000000
set_option linter.unusedSimpArgs false
set_option linter.unusedVariables false
variable {W : Bk}
theorem fewR.few (h : fewR W) : fewB W := ⟨Nat.le_trans h.1 (by decide), Nat.le_trans h.2 (by decide)⟩
theorem waitB_ok : waitBC.ok PP 35 := by
  refine hc_ofP finB mixed (fn := Try.f35) (c := c35) rfl rfl waitBC (fun x => rfl) ?_
  rintro ⟨W, t, s, o⟩ hp
  have hp : fewR W := hp
  have hf := hp.few
  refine ⟨env PP [p48] [m41, m43] [] [] [], env_ok .., rfl, hold (waitB_vc W t s o) ?_⟩
  simp only [true_and, and_true]
  have bad : (!idB t || !idB s || decide (o < 0) || decide (o > 4095)) = true → waitB W t s o = (1, W) := fun h => by unfold waitB; rw [if_pos h]
  refine ⟨fun h1 => ⟨fun h2 => ⟨fun h3 => ⟨fun h4 => ⟨(), ?_⟩, fun h4 => ⟨hf, fun _ _ => ⟨fun h5 => ⟨(), ?_⟩, fun h5 => ⟨hf, fun _ _ _ => ⟨fun h6 => ⟨(), ?_⟩, fun h6 => ⟨by have := hp.1; omega, by have := hp.1; simp; omega, (), ?_⟩⟩⟩⟩⟩⟩, fun h3 => ⟨(), ?_⟩⟩, fun h2 => ⟨(), ?_⟩⟩, fun h1 => ⟨(), ?_⟩⟩
  · rw [bad (by rw [h4]; simp)]; exact ⟨rfl, rfl, rfl⟩
  · have e : waitB W t s o = (8, W) := by
      unfold waitB; rw [if_neg (by rw [h1, h2, h3, h4]; simp), if_pos (by simpa using h5)]
    rw [e]; exact ⟨rfl, rfl, rfl⟩
  · have e : waitB W t s o = (10, W) := by
      unfold waitB; rw [if_neg (by rw [h1, h2, h3, h4]; simp), if_neg (by simpa using h5), if_pos (by intro e; rw [e] at h6; simp at h6)]
    rw [e]; exact ⟨rfl, rfl, rfl⟩
  · have e0 : ofB W.2 t = [] := by
      have : ¬ 0 < (ofB W.2 t).length := by simpa using h6
      exact List.eq_nil_of_length_eq_zero (by omega)
    have e : waitB W t s o = (0, (W.1 ++ [(t, s, o)], W.2)) := by
      unfold waitB; rw [if_neg (by rw [h1, h2, h3, h4]; simp), if_neg (by simpa using h5), if_neg (by rw [e0]; simp)]
    rw [e]; exact ⟨rfl, rfl, rfl⟩
  · rw [bad (by rw [h3]; simp)]; exact ⟨rfl, rfl, rfl⟩
  · rw [bad (by rw [h2]; simp)]; exact ⟨rfl, rfl, rfl⟩
  · rw [bad (by rw [h1]; simp)]; exact ⟨rfl, rfl, rfl⟩
theorem postB_ok : postBC.ok PP 37 := by
  refine hc_ofP finB mixed (fn := Try.f37) (c := c37) rfl rfl postBC (fun x => rfl) ?_
  rintro ⟨W, t, c⟩ hp
  have hp : fewR W := hp
  have hf := hp.few
  refine ⟨env PP [p48, p49] [m41, m43] [] [] [], env_ok .., rfl, hold (postB_vc W t c) ?_⟩
  simp only [true_and, and_true]
  have bad : (!idB t || decide (c < 0) || decide (c > 255)) = true → postB W t c = (false, 1, W) := fun h => by unfold postB; rw [if_pos h]
  refine ⟨fun h1 => ⟨fun h2 => ⟨fun h3 => ⟨(), ?_⟩, fun h3 => ⟨hf, fun _ _ _ => ⟨fun h4 => ⟨(), ?_⟩, fun h4 => ⟨by have := hp.2; omega, by have := hp.2; simp; omega, ⟨hf.1, by have := hp.2; simp; omega⟩, fun _ _ => ⟨by have := hp.1; simp; omega, (), ?_⟩⟩⟩⟩⟩, fun h2 => ⟨(), ?_⟩⟩, fun h1 => ⟨(), ?_⟩⟩
  · rw [bad (by rw [h3]; simp)]; exact ⟨⟨rfl, rfl⟩, rfl, rfl⟩
  · have e : postB W t c = (false, 7, W) := by
      unfold postB; rw [if_neg (by rw [h1, h2, h3]; simp), if_pos (by have : ((ofB W.2 t).length : Int) = 8 := by simpa using h4
                                                                      omega)]
    rw [e]; exact ⟨⟨rfl, rfl⟩, rfl, rfl⟩
  · have e : postB W t c = (decide (atB W.1 t ≥ 0), 0, (dropB W.1 t, W.2 ++ [(t, 0, c)])) := by
      unfold postB; rw [if_neg (by rw [h1, h2, h3]; simp), if_neg (by have : ¬ ((ofB W.2 t).length : Int) = 8 := by simpa using h4
                                                                      omega)]
    rw [e]; exact ⟨⟨rfl, rfl⟩, rfl, rfl⟩
  · rw [bad (by rw [h2]; simp)]; exact ⟨⟨rfl, rfl⟩, rfl, rfl⟩
  · rw [bad (by rw [h1]; simp)]; exact ⟨⟨rfl, rfl⟩, rfl, rfl⟩
theorem takeB_ok : takeBC.ok PP 38 := by
  refine hc_ofP finB mixed (fn := Try.f38) (c := c38) rfl rfl takeBC (fun x => rfl) ?_
  rintro ⟨W, t⟩ hp
  have hp : fewR W := hp
  have hf := hp.few
  refine ⟨env PP [p49] [m43] [] [] [], env_ok .., rfl, hold (takeB_vc W t) ?_⟩
  simp only [true_and, and_true]
  unfold takeB
  cases ho : ofB W.2 t with
  | nil => exact ⟨hf, fun _ _ _ => ⟨fun _ => ⟨(), ⟨rfl, rfl⟩, rfl, rfl⟩, fun h => (by simp at h)⟩⟩
  | cons c l => exact ⟨hf, fun _ _ _ => ⟨fun h => (by simp at h; try omega), fun _ => ⟨by have := hf.2; simpa using this, by simp, fun y hy => ⟨(), ⟨by simpa using hy.symm, rfl⟩, rfl, rfl⟩⟩⟩⟩
theorem ofB_hasB {B : List One} {t : Int} (h : ¬ (ofB B t).length > 0) : B.filter (fun x => x.1 != t) = B := by
  refine List.filter_eq_self.2 fun x hx => ?_
  have e : B.filter (fun x => x.1 == t) = [] := by
    have : (ofB B t).length = (B.filter fun x => x.1 == t).length := by unfold ofB; rw [List.length_map]
    exact List.eq_nil_of_length_eq_zero (by omega)
  have := List.filter_eq_nil_iff.1 e x hx
  simpa using this
theorem dropB_flt : (B : List One) → (t : Int) → (dropB B t).filter (fun x => x.1 != t) = B.filter fun x => x.1 != t
  | [], _ => rfl
  | b :: B, t => by
    simp only [dropB]
    split
    · rename_i e; rw [List.filter_cons, if_neg (by simp [e])]
    · rename_i e; rw [List.filter_cons, if_pos (by simpa using e), List.filter_cons, if_pos (by simpa using e), dropB_flt B t]
theorem dropB_less : {B : List One} → {t : Int} → (ofB B t).length > 0 → (dropB B t).length < B.length
  | [], _, h => by simp [ofB] at h
  | b :: B, t, h => by
    simp only [dropB]
    split
    · simp
    · rename_i e
      have : ofB (b :: B) t = ofB B t := by unfold ofB; rw [List.filter_cons, if_neg (by simpa using e)]
      rw [this] at h
      have := dropB_less h
      simp only [List.length_cons]; omega
theorem forgetB_ok : forgetBC.ok PP 40 := by
  refine hc_ofP finB mixed (fn := Try.f40) (c := c40) rfl rfl forgetBC (fun x => rfl) ?_
  rintro ⟨W, t⟩ hp
  have hp : fewR W := hp
  have hf := hp.few
  refine ⟨env PP [p49] [m41, m43] [] [] (forgetLoop W t), env_ok .., rfl, hold (forgetB_vc W t) ?_⟩
  simp only [true_and, and_true]
  have hd := dropB_len W.1 t
  have h1 := hf.1
  refine ⟨hf, fun _ _ => ⟨by simpa using h1, W.2, ⟨rfl, Nat.le_refl _⟩, rfl, ?_⟩⟩
  rintro B ⟨hB, hl⟩
  have h2 := hf.2
  refine ⟨⟨by omega, by omega⟩, fun _ _ _ => ⟨fun hlt => ?_, fun hge => ⟨(), rfl, rfl, ?_⟩⟩⟩
  · have hlt : (ofB B t).length > 0 := by simpa using hlt
    have := dropB_less hlt
    exact ⟨by simp; omega, dropB B t, ⟨(dropB_flt B t).trans hB, by omega⟩, this, rfl⟩
  · have hge : ¬ (ofB B t).length > 0 := by simpa using hge
    show B = W.2.filter _
    rw [← hB, ofB_hasB hge]
theorem drops_len (l : List Int) : ∀ A : List One, (dropsB A l).length ≤ A.length := by
  induction l with
  | nil => exact fun A => Nat.le_refl _
  | cons x l ih => exact fun A => Nat.le_trans (ih (dropB A x)) (dropB_len A x)
theorem drops_snoc {l : List Int} {i : Nat} {x : Int} (A : List One) (h : l[i]? = some x) : dropB (dropsB A (l.take i)) x = dropsB A (l.take (i + 1)) := by
  rw [take_snoc h, dropsB, dropsB, List.foldl_append]; rfl
theorem wakeB_ok : wakeBC.ok PP 36 := by
  refine hc_ofP finB mixed (fn := Try.f36) (c := c36) rfl rfl wakeBC (fun x => rfl) ?_
  rintro ⟨W, s, o⟩ hp
  have hp : fewR W := hp
  have hf := hp.few
  refine ⟨env PP [p49] [m42] [] [] (wakeBLoop W (atP s o)), env_ok .., rfl, hold (wakeB_vc W s o) ?_⟩
  simp only [true_and, and_true]
  refine ⟨hf, fun _ _ hA => ⟨0, Nat.zero_le _, ⟨rfl, rfl⟩, fun i hi => ⟨fun hlt => ?_, fun hge => ⟨(), rfl, ?_, rfl⟩⟩⟩⟩
  · have hlt : i < (pickB W.1 (atP s o)).length := by simpa using hlt
    refine ⟨⟨by omega, by omega⟩, fun y hy => ⟨?_, i + 1, hlt, by omega, wrap_succ hlt hA, drops_snoc _ (show _ = some y from hy)⟩⟩
    have := drops_len ((pickB W.1 (atP s o)).take i) W.1
    have := hf.1
    simp; omega
  · have : i = (pickB W.1 (atP s o)).length := by
      have h2 : ¬ i < (pickB W.1 (atP s o)).length := by simpa using hge
      have : i ≤ (pickB W.1 (atP s o)).length := hi
      omega
    subst this
    rw [List.take_length]; rfl
theorem closeB_ok : closeBC.ok PP 39 := by
  refine hc_ofP finB mixed (fn := Try.f39) (c := c39) rfl rfl closeBC (fun x => rfl) ?_
  rintro ⟨W, s⟩ hp
  have hp : fewR W := hp
  have hf := hp.few
  refine ⟨env PP [p49] [] [] [] (closeBLoop W s), env_ok .., rfl, hold (closeB_vc W s) ?_⟩
  simp only [true_and, and_true]
  intro hA
  refine ⟨0, Nat.zero_le _, ⟨rfl, rfl⟩, fun i hi => ⟨fun hlt => ?_, fun hge => ?_⟩⟩
  · have hlt : i < W.1.length := by simpa using hlt
    refine ⟨⟨by omega, by omega⟩, fun y hy => ⟨fun he => ⟨?_, i + 1, hlt, by omega, wrap_succ hlt hA, ?_⟩, fun he => ⟨i + 1, hlt, by omega, wrap_succ hlt hA, ?_⟩⟩⟩
    · have := pick_len (W.1.take i) (inP s)
      have := take_len W.1 i
      have := hf.1
      simp only [List.length_singleton]; omega
    · rw [pick_snoc (get_at hy), if_pos (show inP s y.2 = true from he)]
    · rw [pick_snoc (get_at hy), if_neg (by rw [show inP s y.2 = false from he]; simp)]
  · have : i = W.1.length := by
      have h2 : ¬ i < W.1.length := by simpa using hge
      have : i ≤ W.1.length := hi
      omega
    subst this
    rw [List.take_length]
    refine fun hB => ⟨0, Nat.zero_le _, ⟨rfl, rfl⟩, fun j hj => ⟨fun hlt => ?_, fun hge => ⟨(), rfl, ?_, rfl⟩⟩⟩
    · have hlt : j < (pickB W.1 (inP s)).length := by simpa using hlt
      refine ⟨⟨by omega, by omega⟩, hlt, fun y hy => ⟨?_, j + 1, hlt, by omega, wrap_succ hlt hB, drops_snoc _ (show _ = some y from hy)⟩⟩
      have := drops_len ((pickB W.1 (inP s)).take j) W.1
      have := hf.1
      simp; omega
    · have : j = (pickB W.1 (inP s)).length := by
        have h2 : ¬ j < (pickB W.1 (inP s)).length := by simpa using hge
        have : j ≤ (pickB W.1 (inP s)).length := hj
        omega
      subst this
      rw [List.take_length]; rfl
noncomputable def m35 : Sv PP := ⟨35, useBk waitBC fun W ss => match ss with | [.int .i64 t, .int .i64 s, .int .i64 o] => some (W, t, s, o) | _ => none, ⟨rfl, preB_ok (hspec_ok waitB_ok _ _)⟩⟩
noncomputable def m36 : Sv PP := ⟨36, useBk wakeBC fun W ss => match ss with | [.int .i64 s, .int .i64 o] => some (W, s, o) | _ => none, ⟨rfl, preB_ok (hspec_ok wakeB_ok _ _)⟩⟩
noncomputable def m37 : Sv PP := ⟨37, useBk postBC fun W ss => match ss with | [.int .i64 t, .int .i64 c] => some (W, t, c) | _ => none, ⟨rfl, preB_ok (hspec_ok postB_ok _ _)⟩⟩
noncomputable def m38 : Sv PP := ⟨38, useBk takeBC fun W ss => match ss with | [.int .i64 t] => some (W, t) | _ => none, ⟨rfl, preB_ok (hspec_ok takeB_ok _ _)⟩⟩
noncomputable def m39 : Sv PP := ⟨39, useBk closeBC fun W ss => match ss with | [.int .i64 s] => some (W, s) | _ => none, ⟨rfl, preB_ok (hspec_ok closeB_ok _ _)⟩⟩
noncomputable def m40 : Sv PP := ⟨40, useBk forgetBC fun W ss => match ss with | [.int .i64 t] => some (W, t) | _ => none, ⟨rfl, preB_ok (hspec_ok forgetB_ok _ _)⟩⟩
end Go.Proofs.Ytfdcmbaoekjkgaa
