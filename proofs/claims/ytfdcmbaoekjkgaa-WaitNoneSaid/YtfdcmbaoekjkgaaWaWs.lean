/- What the functions of the program give, one by one, and the law. -/
import Derived.Test.YtfdcmbaoekjkgaaGdWs
import Derived.Test.YtfdcmbaoekjkgaaProg
import Derived.Shelf.SlSortCmp.Whole1
import Derived.Shelf.SlSortCmp.NoneTotal
import Derived.Shelf.SlMaps.Clone
import Derived.Shelf.SlicesG.Cmp
namespace Go.Proofs.Ytfdcmbaoekjkgaa
open Go.Proofs.Ytfdcmbaoekjkgaa.Gx
set_option linter.unusedSimpArgs false
set_option linter.unusedVariables false
abbrev i64 : Ty := .int .i64
abbrev ints : Ty := .slice i64
abbrev tkT : Ty := .pair (.pair i64 i64) i64
abbrev rmT : Ty := .pair i64 (.pair (.slice (.pair i64 tkT)) (.slice (.pair i64 ints)))
noncomputable abbrev PP : Program := Try.prog
theorem mixed : PP.follows .mixedOrders = true := by rfl
noncomputable def e0 : Env := env PP [] [] [] [] []
noncomputable def eL (l : List (Nat × (St → Option LoopSpec))) : Env := env PP [] [] [] [] l
noncomputable def eP (l : List (Pv PP)) : Env := env PP l [] [] [] []
noncomputable def c3 : Code := Try.f3.body.getD .skip
noncomputable def c4 : Code := Try.f4.body.getD .skip
noncomputable def c5 : Code := Try.f5.body.getD .skip
noncomputable def c6 : Code := Try.f6.body.getD .skip
noncomputable def c7 : Code := Try.f7.body.getD .skip
noncomputable def c8 : Code := Try.f8.body.getD .skip
noncomputable def c9 : Code := Try.f9.body.getD .skip
noncomputable def c10 : Code := Try.f10.body.getD .skip
noncomputable def c11 : Code := Try.f11.body.getD .skip
noncomputable def c12 : Code := Try.f12.body.getD .skip
noncomputable def c13 : Code := Try.f13.body.getD .skip
noncomputable def c14 : Code := Try.f14.body.getD .skip
noncomputable def c15 : Code := Try.f15.body.getD .skip
noncomputable def c16 : Code := Try.f16.body.getD .skip
noncomputable def c17 : Code := Try.f17.body.getD .skip
noncomputable def c18 : Code := Try.f18.body.getD .skip
noncomputable def c19 : Code := Try.f19.body.getD .skip
noncomputable def c20 : Code := Try.f20.body.getD .skip
noncomputable def c21 : Code := Try.f21.body.getD .skip
noncomputable def c22 : Code := Try.f22.body.getD .skip
noncomputable def c23 : Code := Try.f23.body.getD .skip
noncomputable def c24 : Code := Try.f24.body.getD .skip
noncomputable def c25 : Code := Try.f25.body.getD .skip
noncomputable def c26 : Code := Try.f26.body.getD .skip
noncomputable def c27 : Code := Try.f27.body.getD .skip
noncomputable def c28 : Code := Try.f28.body.getD .skip
noncomputable def c29 : Code := Try.f29.body.getD .skip
noncomputable def c30 : Code := Try.f30.body.getD .skip
noncomputable def c31 : Code := Try.f31.body.getD .skip
noncomputable def c32 : Code := Try.f32.body.getD .skip
noncomputable def c33 : Code := Try.f33.body.getD .skip
noncomputable def c34 : Code := Try.f34.body.getD .skip
noncomputable def c35 : Code := Try.f35.body.getD .skip
noncomputable def c36 : Code := Try.f36.body.getD .skip
noncomputable def c37 : Code := Try.f37.body.getD .skip
noncomputable def c38 : Code := Try.f38.body.getD .skip
noncomputable def c39 : Code := Try.f39.body.getD .skip
noncomputable def c40 : Code := Try.f40.body.getD .skip
noncomputable def c41 : Code := Try.f41.body.getD .skip
noncomputable def c42 : Code := Try.f42.body.getD .skip
noncomputable def c43 : Code := Try.f43.body.getD .skip
noncomputable def c44 : Code := Try.f44.body.getD .skip
noncomputable def c45 : Code := Try.f45.body.getD .skip
noncomputable def c46 : Code := Try.f46.body.getD .skip
noncomputable def c48 : Code := Try.f48.body.getD .skip
noncomputable def c49 : Code := Try.f49.body.getD .skip
noncomputable def c52 : Code := Try.f52.body.getD .skip
/-! ### Rooms -/
abbrev Tk := (Int × Int) × Int
abbrev Rm := Int × List (Int × Tk) × List (Int × List Int)
def last (R : Rm) : Int := R.1
def tks (R : Rm) : List (Int × Tk) := R.2.1
def als (R : Rm) : List (Int × List Int) := R.2.2
def alOf (R : Rm) (t : Int) : List Int := (lookL (als R) t).getD []
def idB (n : Int) : Bool := decide (n ≥ 1) && decide (n ≤ 2305843009213693951)
def sameI (a b : List Int) : Bool := decide (a = b)
def inL (l : List Int) (x : Int) : Bool := l.any fun y => y == x
def cmpI (a b : Int) : Int := if a < b then -1 else if a > b then 1 else 0
/-- How rooms lie in memory. -/
structure RmIn where
  la : Int
  ts : List (Int × Tk)
  hs : List (Int × Hd)
  os : List (Nat × (Nat × List Int))
def blks (hs : List (Int × Hd)) : List Nat := hs.filterMap fun x => x.2.b
structure RmRel (R : rmT.den) (y : RmIn) : Prop where
  la : last R = y.la
  ts : tks R = y.ts
  als : als R = y.hs.map fun x => (x.1, rdH y.os x.2)
  keys : (y.hs.map (·.1)).Nodup
  tkeys : (y.ts.map (·.1)).Nodup
  hin : ∀ x ∈ y.hs, hdIn y.os x.2
  apart : (blks y.hs).Nodup
def rmRs (y : RmIn) : List Res := [.blk 59 [.int .i64 y.la, .mp 1, .mp 2], .mapr .i64 true tkT y.ts none, .mapr .i64 true (.hd 3) y.hs none, .fam 3 i64 y.os]
def KR : Pk rmT where
  β := RmIn
  rel := RmRel
  n := 4
  Rs := rmRs
  hn := by decide
  hl := fun _ => rfl
  hp := fun _ => rfl
  h0 := fun _ r h => by cases h; rfl
end Go.Proofs.Ytfdcmbaoekjkgaa
namespace Go.Proofs.Ytfdcmbaoekjkgaa
open Go.Proofs.Ytfdcmbaoekjkgaa.Gx
set_option maxRecDepth 100000
set_option linter.unusedVariables false
set_option maxHeartbeats 0
theorem id_vc (n : Int) : (fvc PP e0 Try.f26 c26 (ofArgs [i64] (n, ())) St0 (gives [.bool] (idB n, ()))) = (
  ∃ (v : Bool), ((decide (n ≥ (1 : Int)) = true → decide (n ≤ (2305843009213693951 : Int)) = v) ∧ (decide (n ≥ (1 : Int)) = !true → false = v)) ∧ v = idB n ∧ True) := by kernel_rfl
theorem rid_vc (n : Int) : (fvc PP e0 Try.f48 c48 (ofArgs [i64] (n, ())) St0 (gives [.bool] (idB n, ()))) = (
  ∃ (v : Bool), ((decide (n ≥ (1 : Int)) = true → decide (n ≤ (2305843009213693951 : Int)) = v) ∧ (decide (n ≥ (1 : Int)) = !true → false = v)) ∧ v = idB n ∧ True) := by kernel_rfl
theorem nan_vc (n : Int) : (fvc PP e0 Try.f52 c52 (ofArgs [i64] (n, ())) St0 (gives [.bool] (false, ()))) = (
  (n != n) = false ∧ True) := by kernel_rfl
noncomputable def s52 : Sv PP := ⟨52, inl PP e0 Try.f52 c52, ⟨rfl, inl_ok (env_ok ..) rfl mixed rfl rfl⟩⟩
theorem cmp_vc (a b : Int) : (fvc PP (env PP [] [s52] [] [] []) Try.f46 c46 (ofArgs [i64, i64] (a, b, ())) St0 (gives [i64] (cmpI a b, ()))) = (
  ((a != a) = true → ((b != b) = true → (0 : Int) = cmpI a b ∧ True) ∧ ((b != b) = false → (-1 : Int) = cmpI a b ∧ True)) ∧ ((a != a) = false → ((b != b) = true → (1 : Int) = cmpI a b ∧ True) ∧ ((b != b) = false → 
  (decide (a < b) = true → (-1 : Int) = cmpI a b ∧ True) ∧ (decide (a < b) = false → (decide (a > b) = true → (1 : Int) = cmpI a b ∧ True) ∧ (decide (a > b) = false → (0 : Int) = cmpI a b ∧ True))))) := by kernel_rfl
def sameLoop (a b : List Int) : List (Nat × (St → Option LoopSpec)) :=
  [(4, fun _ => some { α := Nat, inv := fun i => i ≤ a.length ∧ a.take i = b.take i, ov := fun i => [(13, .int .i64 (i : Int))], rov := fun _ => [], meas := fun i => a.length - i })]
theorem sameI_vc (a b : List Int) : (fvc PP (eL (sameLoop a b)) Try.f15 c15 (ofArgs [ints, ints] (a, b, ())) St0 (gives [.bool] (sameI a b, ()))) = (
  a.length ≤ maxLen → b.length ≤ maxLen → (((↑a.length : Int) != (↑b.length : Int)) = true → false = sameI a b ∧ True) ∧ (((↑a.length : Int) != (↑b.length : Int)) = false → a.length ≤ maxLen → ∃ (x0 : Nat), (x0 ≤ 
  a.length ∧ List.take x0 a = List.take x0 b) ∧ ((True ∧ True) ∧ ((0 : Int) = (↑x0 : Int) ∧ (↑a.length : Int) = (↑a.length : Int) ∧ false = false ∧ a = a ∧ b = b ∧ True) ∧ True) ∧ ∀ (x : Nat), x ≤ a.length ∧ List.take x 
  a = List.take x b → (decide ((↑x : Int) < (↑a.length : Int)) = true → ((0 : Int) ≤ (↑x : Int) ∧ (↑x : Int) < (↑a.length : Int)) ∧ ∀ (y : Int), a[(↑x : Int).toNat]? = some y → ((0 : Int) ≤ (↑x : Int) ∧ (↑x : Int) < 
  (↑b.length : Int)) ∧ ∀ (y_1 : Int), b[(↑x : Int).toNat]? = some y_1 → ((y != y_1) = true → false = sameI a b ∧ True) ∧ ((y != y_1) = false → ∃ (x' : Nat), (x' ≤ a.length ∧ List.take x' a = List.take x' b) ∧ a.length - 
  x' < a.length - x ∧ (True ∧ True) ∧ (IntKind.i64.wrap ((↑x : Int) + (1 : Int)) = (↑x' : Int) ∧ (↑a.length : Int) = (↑a.length : Int) ∧ false = false ∧ a = a ∧ b = b ∧ True) ∧ True)) ∧ (decide ((↑x : Int) < (↑a.length : 
  Int)) = false → true = sameI a b ∧ True))) := by kernel_rfl
def inLoop (l : List Int) (x : Int) : List (Nat × (St → Option LoopSpec)) :=
  [(2, fun _ => some { α := Nat, inv := fun i => i ≤ l.length ∧ inL (l.drop i) x = inL l x, ov := fun i => [(9, .int .i64 (i : Int))], rov := fun _ => [], meas := fun i => l.length - i })]
theorem inL_vc (l : List Int) (x : Int) : (fvc PP (eL (inLoop l x)) Try.f19 c19 (ofArgs [ints, i64] (l, x, ())) St0 (gives [.bool] (inL l x, ()))) = (
  l.length ≤ maxLen → ∃ (x0 : Nat), (x0 ≤ l.length ∧ inL (List.drop x0 l) x = inL l x) ∧ ((True ∧ True) ∧ ((0 : Int) = (↑x0 : Int) ∧ (↑l.length : Int) = (↑l.length : Int) ∧ l = l ∧ l = l ∧ x = x ∧ True) ∧ True) ∧ ∀ (x_1 
  : Nat), x_1 ≤ l.length ∧ inL (List.drop x_1 l) x = inL l x → (decide ((↑x_1 : Int) < (↑l.length : Int)) = true → ((0 : Int) ≤ (↑x_1 : Int) ∧ (↑x_1 : Int) < (↑l.length : Int)) ∧ ∀ (y : Int), l[(↑x_1 : Int).toNat]? = 
  some y → ((y == x) = true → true = inL l x ∧ True) ∧ ((y == x) = false → ∃ (x' : Nat), (x' ≤ l.length ∧ inL (List.drop x' l) x = inL l x) ∧ l.length - x' < l.length - x_1 ∧ (True ∧ True) ∧ (IntKind.i64.wrap ((↑x_1 : 
  Int) + (1 : Int)) = (↑x' : Int) ∧ (↑l.length : Int) = (↑l.length : Int) ∧ l = l ∧ l = l ∧ x = x ∧ True) ∧ True)) ∧ (decide ((↑x_1 : Int) < (↑l.length : Int)) = false → false = inL l x ∧ True)) := by kernel_rfl
theorem clone_vc (l : List Int) : (fvc PP e0 Try.f32 c32 (ofArgs [ints] (l, ())) St0 (givesRow 3 i64 l)) = (
  ∀ (b : Bool), (b = true → l = []) → (b = true → l = []) ∧ (b = false → ((0 : Nat) + l.length) * (8 : Nat) ≤ (140737488355328 : Nat) ∧ [] ++ l = l)) := by kernel_rfl
end Go.Proofs.Ytfdcmbaoekjkgaa
namespace Go.Proofs.Ytfdcmbaoekjkgaa
open Go.Proofs.Ytfdcmbaoekjkgaa.Gx
set_option maxRecDepth 100000
set_option maxHeartbeats 4000000
set_option linter.unusedSimpArgs false
set_option linter.unusedVariables false
theorem toNat_cast (i : Nat) : (i : Int).toNat = i := rfl
theorem take_snoc {α : Type} {l : List α} {i : Nat} {y : α} (h : l[i]? = some y) : l.take (i + 1) = l.take i ++ [y] := by
  obtain ⟨h1, rfl⟩ := List.getElem?_eq_some_iff.1 h
  exact List.take_succ_eq_append_getElem h1
theorem id_ok : PSpecOk PP 26 (Q [i64] [.bool] (fun _ => true) (fun x => (idB x.1, ()))) := by
  refine pspec_Q mixed (fn := Try.f26) (c := c26) rfl rfl _ _ rfl ?_
  rintro ⟨n, ⟨⟩⟩ - -
  refine ⟨e0, env_ok .., rfl, hold (id_vc n) ?_⟩
  simp only [true_and, and_true]
  refine ⟨idB n, ⟨fun h => ?_, fun h => ?_⟩, rfl⟩
  · simp only [idB, h, Bool.true_and]
  · simp only [idB, h]; rfl
theorem rid_ok : PSpecOk PP 48 (Q [i64] [.bool] (fun _ => true) (fun x => (idB x.1, ()))) := by
  refine pspec_Q mixed (fn := Try.f48) (c := c48) rfl rfl _ _ rfl ?_
  rintro ⟨n, ⟨⟩⟩ - -
  refine ⟨e0, env_ok .., rfl, hold (rid_vc n) ?_⟩
  simp only [true_and, and_true]
  refine ⟨idB n, ⟨fun h => ?_, fun h => ?_⟩, rfl⟩
  · simp only [idB, h, Bool.true_and]
  · simp only [idB, h]; rfl
theorem cmp_ok : PSpecOk PP 46 (Q [i64, i64] [i64] (fun _ => true) (fun x => (cmpI x.1 x.2.1, ()))) := by
  refine pspec_Q mixed (fn := Try.f46) (c := c46) rfl rfl _ _ rfl ?_
  rintro ⟨a, b, ⟨⟩⟩ - -
  refine ⟨env PP [] [s52] [] [] [], env_ok .., rfl, hold (cmp_vc a b) ?_⟩
  simp only [true_and, and_true, bne_self_eq_false, Bool.false_eq_true, false_implies, implies_true, forall_const]
  refine ⟨fun h => ?_, fun h => ⟨fun h2 => ?_, fun h2 => ?_⟩⟩
  · simp at h; simp [cmpI, h]
  · simp at h h2; simp [cmpI, h2, Int.not_lt.2 h]
  · simp at h h2; simp [cmpI, Int.not_lt.2 h, Int.not_lt.2 h2]
theorem sameI_ok : PSpecOk PP 15 (Q [ints, ints] [.bool] (fun _ => true) (fun x => (sameI x.1 x.2.1, ()))) := by
  refine pspec_Q mixed (fn := Try.f15) (c := c15) rfl rfl _ _ rfl ?_
  rintro ⟨a, b, ⟨⟩⟩ - -
  refine ⟨eL (sameLoop a b), env_ok .., rfl, hold (sameI_vc a b) ?_⟩
  simp only [true_and, and_true, Prod.eta, eq_self_iff_true, toNat_cast]
  intro hA hB
  refine ⟨fun h => ?_, fun h _ => ⟨0, ⟨Nat.zero_le _, rfl⟩, rfl, ?_⟩⟩
  · have h : (a.length : Int) ≠ b.length := by simpa using h
    have : a ≠ b := fun e => h (by rw [e])
    simp [sameI, this]
  have hl : a.length = b.length := by simp at h; omega
  rintro i ⟨hi, hinv⟩
  refine ⟨fun hlt => ?_, fun hge => ?_⟩
  · have hlt : i < a.length := by simp at hlt; omega
    refine ⟨⟨by omega, by omega⟩, fun y hy => ⟨⟨by omega, by omega⟩, fun z hz => ⟨fun hne => ?_, fun he => ?_⟩⟩⟩
    · have : a ≠ b := fun e => by subst e; rw [hy] at hz; cases hz; simp at hne
      simp [sameI, this]
    · have : y = z := by simpa using he
      subst this
      exact ⟨i + 1, ⟨by omega, by rw [take_snoc hy, take_snoc hz, hinv]⟩, by omega, wrap_succ hlt hA⟩
  · have hie : i = a.length := by simp at hge; omega
    subst hie
    rw [List.take_length, hl, List.take_length] at hinv
    simp [sameI, hinv]
theorem inL_ok : PSpecOk PP 19 (Q [ints, i64] [.bool] (fun _ => true) (fun x => (inL x.1 x.2.1, ()))) := by
  refine pspec_Q mixed (fn := Try.f19) (c := c19) rfl rfl _ _ rfl ?_
  rintro ⟨l, x, ⟨⟩⟩ - -
  refine ⟨eL (inLoop l x), env_ok .., rfl, hold (inL_vc l x) ?_⟩
  simp only [true_and, and_true, Prod.eta, eq_self_iff_true, toNat_cast]
  intro hA
  refine ⟨0, ⟨Nat.zero_le _, rfl⟩, rfl, ?_⟩
  rintro i ⟨hi, hinv⟩
  refine ⟨fun hlt => ?_, fun hge => ?_⟩
  · have hlt : i < l.length := by simp at hlt; omega
    refine ⟨⟨by omega, by omega⟩, fun y hy => ?_⟩
    obtain ⟨_, rfl⟩ := List.getElem?_eq_some_iff.1 hy
    rw [List.drop_eq_getElem_cons hlt] at hinv
    refine ⟨fun he => ?_, fun hne => ⟨i + 1, ⟨by omega, ?_⟩, by omega, wrap_succ hlt hA⟩⟩
    · rw [← hinv]; simp only [inL, List.any_cons, he, Bool.true_or]
    · rw [← hinv]; simp only [inL, List.any_cons, hne, Bool.false_or]
  · have hie : i = l.length := by simp at hge; omega
    rw [← hinv, hie, List.drop_length]; rfl
def shortB (l : List Int) : Bool := decide (l.length ≤ 1000000000000)
theorem clone_ok : OwnOk PP 32 [ints] 3 i64 (fun x => shortB x.1) (fun x => x.1) := by
  refine own_Q mixed (fn := Try.f32) (c := c32) rfl rfl [ints] 3 i64 rfl ?_
  rintro ⟨l, ⟨⟩⟩ - hp
  have hp : l.length ≤ 1000000000000 := by simpa [shortB] using hp
  refine ⟨e0, env_ok .., rfl, hold (clone_vc l) ?_⟩
  intro b hb
  exact ⟨hb, fun _ => ⟨by omega, by simp⟩⟩
noncomputable def p26 : Pv PP := ⟨26, _, ⟨rfl, id_ok⟩⟩
noncomputable def p48 : Pv PP := ⟨48, _, ⟨rfl, rid_ok⟩⟩
noncomputable def p46 : Pv PP := ⟨46, _, ⟨rfl, cmp_ok⟩⟩
noncomputable def p15 : Pv PP := ⟨15, _, ⟨rfl, sameI_ok⟩⟩
noncomputable def p19 : Pv PP := ⟨19, _, ⟨rfl, inL_ok⟩⟩
noncomputable def p32 : Pv PP := ⟨32, _, ⟨rfl, pspec_of_own clone_ok⟩⟩
noncomputable def b15 : Sv PP := ⟨15, specB _, ⟨rfl, specB_ok sameI_ok⟩⟩
noncomputable def b19 : Sv PP := ⟨19, specB _, ⟨rfl, specB_ok inL_ok⟩⟩
noncomputable def b32 : Sv PP := ⟨32, specOB [ints] 3 i64 (fun x => shortB x.1) (fun x => x.1), ⟨rfl, specOB_ok rfl clone_ok⟩⟩
end Go.Proofs.Ytfdcmbaoekjkgaa
namespace Go.Proofs.Ytfdcmbaoekjkgaa
open Go.Proofs.Ytfdcmbaoekjkgaa.Gx
set_option linter.unusedSimpArgs false
set_option linter.unusedVariables false
/-- A method that leaves the rooms as they are. -/
def looks (α : Type) (inn : α → rmT.den) (ss : α → List SV) (pre : α → Prop) (r : α → SV) : PC1 KR where
  α := α
  inn := inn
  ss := ss
  pre := pre
  alts := [{ β := Unit, k := 1, post := fun _ _ => True, r := fun x _ => r x, outs := fun x _ => [inn x] }]
/-- A method that gives something, and other rooms. -/
def turns (α : Type) (inn : α → rmT.den) (ss : α → List SV) (pre : α → Prop) (r : α → SV) (out : α → rmT.den) : PC1 KR where
  α := α
  inn := inn
  ss := ss
  pre := pre
  alts := [{ β := Unit, k := 1, post := fun _ _ => True, r := fun x _ => r x, outs := fun x _ => [out x] }]
def newC : PC0 KR where
  α := Unit
  ss := fun _ => []
  pre := fun _ => True
  alts := [{ β := Unit, k := 1, post := fun _ _ => True, r := fun _ _ => .ptr 0 0, outs := fun _ _ => [(0, [], [])] }]
def lenC : PC1 KR := looks Rm (fun R => R) (fun _ => [.ptr 0 0]) (fun _ => True) (fun R => .int .i64 (tks R).length)
def placeOf (R : Rm) (t : Int) : Int × Int := (((lookL (tks R) t).map (·.1)).getD (0, 0))
def whereC : PC1 KR := looks (Rm × Int) (fun x => x.1) (fun x => [.ptr 0 0, .int .i64 x.2]) (fun _ => True) (fun x => .tup [.int .i64 (placeOf x.1 x.2).1, .int .i64 (placeOf x.1 x.2).2, .bool (lookL (tks x.1) x.2).isSome])
def waitR (R : Rm) (t seg off : Int) : Int × Rm :=
  if !idB t || !idB seg || decide (off < 0) || decide (off ≥ 4096) then (1, R)
  else if (lookL (tks R) t).isSome then (8, R)
  else if alOf R t ≠ [] then (10, R)
  else (0, (IntKind.i64.wrap (last R + 1), insL (tks R) t ((seg, off), IntKind.i64.wrap (last R + 1)), als R))
def waitC : PC1 KR := turns (Rm × Int × Int × Int) (fun x => x.1) (fun x => [.ptr 0 0, .int .i64 x.2.1, .int .i64 x.2.2.1, .int .i64 x.2.2.2]) (fun _ => True)
  (fun x => .int .i64 (waitR x.1 x.2.1 x.2.2.1 x.2.2.2).1) (fun x => (waitR x.1 x.2.1 x.2.2.1 x.2.2.2).2)
def forgetR (R : Rm) (t : Int) : Rm := (last R, delL (tks R) t, delL (als R) t)
def forgetC : PC1 KR := turns (Rm × Int) (fun x => x.1) (fun x => [.ptr 0 0, .int .i64 x.2]) (fun _ => True) (fun x => .bool (lookL (tks x.1) x.2).isSome) (fun x => forgetR x.1 x.2)
def postR (R : Rm) (t c : Int) : Bool × Int × Rm :=
  if !idB t || decide (c < 0) || decide (c > 255) then (false, 1, R)
  else if (alOf R t).length ≥ 8 then (false, 7, R)
  else ((lookL (tks R) t).isSome, 0, (last R, delL (tks R) t, insL (als R) t (alOf R t ++ [c])))
def postC : PC1 KR := turns (Rm × Int × Int) (fun x => x.1) (fun x => [.ptr 0 0, .int .i64 x.2.1, .int .i64 x.2.2]) (fun _ => True)
  (fun x => .tup [.bool (postR x.1 x.2.1 x.2.2).1, .int .i64 (postR x.1 x.2.1 x.2.2).2.1]) (fun x => (postR x.1 x.2.1 x.2.2).2.2)
def takeR (R : Rm) (t : Int) : Int × Bool × Rm := match alOf R t with
  | [] => (0, false, (last R, tks R, delL (als R) t))
  | c :: l => (c, true, (last R, tks R, if l = [] then delL (als R) t else insL (als R) t l))
def takeC : PC1 KR := turns (Rm × Int) (fun x => x.1) (fun x => [.ptr 0 0, .int .i64 x.2]) (fun _ => True)
  (fun x => .tup [.int .i64 (takeR x.1 x.2).1, .bool (takeR x.1 x.2).2.1]) (fun x => (takeR x.1 x.2).2.2)
/-- No row of alerts is beyond bounds. -/
def shortA (R : Rm) : Prop := ∀ x ∈ als R, x.2.length ≤ 1000000000000
def alertsC : PC1 KR := looks (Rm × Int) (fun x => x.1) (fun x => [.ptr 0 0, .int .i64 x.2]) (fun x => shortA x.1) (fun x => .rs i64 (alOf x.1 x.2))
end Go.Proofs.Ytfdcmbaoekjkgaa
namespace Go.Proofs.Ytfdcmbaoekjkgaa
open Go.Proofs.Ytfdcmbaoekjkgaa.Gx
set_option maxRecDepth 100000
set_option linter.unusedVariables false
set_option maxHeartbeats 0
theorem new_vc : (fvc PP e0 Try.f9 c9 (newC.U.ss ()) (St1 (newC.U.Rs ())) (fun r S => (Fin.perm fun _ => [3, 0, 1, 2]).T r S fun r S => altsOk 0 () r S newC.U.alts)) = (
  ∃ (y : Unit × Tup KR (1 : Nat)), (True ∧ RmRel ((0 : Int), [], []) y.snd.fst ∧ True) ∧ True ∧ (((0 : Int) = y.snd.fst.la ∧ True ∧ True ∧ True) ∧ ([] = y.snd.fst.ts ∧ True) ∧ ([] = y.snd.fst.hs ∧ True) ∧ [] = 
  y.snd.fst.os ∧ True) ∧ True ∧ True) := by kernel_rfl
theorem len_vc (R : Rm) (y : RmIn) : (fvc PP e0 Try.f12 c12 (lenC.U.ss (R, y)) (St1 (lenC.U.Rs (R, y))) (fun r S => altsOk 4 (R, y) r S lenC.U.alts)) = (
  ∃ (y_1 : Unit × Tup KR (1 : Nat)), (True ∧ RmRel R y_1.snd.fst ∧ True) ∧ (↑y.ts.length : Int) = (↑(tks R).length : Int) ∧ ((y.la = y_1.snd.fst.la ∧ True ∧ True ∧ True) ∧ (y.ts = y_1.snd.fst.ts ∧ True) ∧ (y.hs = 
  y_1.snd.fst.hs ∧ True) ∧ y.os = y_1.snd.fst.os ∧ True) ∧ (True ∧ True ∧ True ∧ True ∧ True) ∧ True) := by kernel_rfl
theorem where_vc (R : Rm) (t : Int) (y : RmIn) : (fvc PP e0 Try.f21 c21 (whereC.U.ss ((R, t), y)) (St1 (whereC.U.Rs ((R, t), y))) (fun r S => altsOk 4 ((R, t), y) r S whereC.U.alts)) = (
  ∃ (y_1 : Unit × Tup KR (1 : Nat)), (True ∧ RmRel R y_1.snd.fst ∧ True) ∧ (((lookL y.ts t).getD (((0 : Int), (0 : Int)), (0 : Int))).fst.fst = (placeOf R t).fst ∧ ((lookL y.ts t).getD (((0 : Int), (0 : Int)), (0 : 
  Int))).fst.snd = (placeOf R t).snd ∧ (lookL y.ts t).isSome = (lookL (tks R) t).isSome ∧ True) ∧ ((y.la = y_1.snd.fst.la ∧ True ∧ True ∧ True) ∧ (y.ts = y_1.snd.fst.ts ∧ True) ∧ (y.hs = y_1.snd.fst.hs ∧ True) ∧ y.os = 
  y_1.snd.fst.os ∧ True) ∧ (True ∧ True ∧ True ∧ True ∧ True) ∧ True) := by kernel_rfl
theorem wait_vc (R : Rm) (t seg off : Int) (y : RmIn) : (fvc PP (eP [p26]) Try.f10 c10 (waitC.U.ss ((R, t, seg, off), y)) (St1 (waitC.U.Rs ((R, t, seg, off), y))) (fun r S => altsOk 4 ((R, t, seg, off), y) r S waitC.U.alts)) = (
  true = true ∧ ((!idB t) = false → true = true ∧ ((!idB seg) = false → (decide (off < (0 : Int)) = false → (decide (off ≥ (4096 : Int)) = true → ∃ (y_1 : Unit × Tup KR (1 : Nat)), (True ∧ RmRel (waitR R t seg off).snd 
  y_1.snd.fst ∧ True) ∧ (1 : Int) = (waitR R t seg off).fst ∧ ((y.la = y_1.snd.fst.la ∧ True ∧ True ∧ True) ∧ (y.ts = y_1.snd.fst.ts ∧ True) ∧ (y.hs = y_1.snd.fst.hs ∧ True) ∧ y.os = y_1.snd.fst.os ∧ True) ∧ (True ∧ True 
  ∧ True ∧ True ∧ True) ∧ True) ∧ (decide (off ≥ (4096 : Int)) = false → ((lookL y.ts t).isSome = true → ∃ (y_1 : Unit × Tup KR (1 : Nat)), (True ∧ RmRel (waitR R t seg off).snd y_1.snd.fst ∧ True) ∧ (8 : Int) = (waitR R 
  t seg off).fst ∧ ((y.la = y_1.snd.fst.la ∧ True ∧ True ∧ True) ∧ (y.ts = y_1.snd.fst.ts ∧ True) ∧ (y.hs = y_1.snd.fst.hs ∧ True) ∧ y.os = y_1.snd.fst.os ∧ True) ∧ (True ∧ True ∧ True ∧ True ∧ True) ∧ True) ∧ ((lookL 
  y.ts t).isSome = false → ((lookL y.hs t).getD nilHd).len ≤ maxLen → (decide ((↑((lookL y.hs t).getD nilHd).len : Int) > (0 : Int)) = true → ∃ (y_1 : Unit × Tup KR (1 : Nat)), (True ∧ RmRel (waitR R t seg off).snd 
  y_1.snd.fst ∧ True) ∧ (10 : Int) = (waitR R t seg off).fst ∧ ((y.la = y_1.snd.fst.la ∧ True ∧ True ∧ True) ∧ (y.ts = y_1.snd.fst.ts ∧ True) ∧ (y.hs = y_1.snd.fst.hs ∧ True) ∧ y.os = y_1.snd.fst.os ∧ True) ∧ (True ∧ 
  True ∧ True ∧ True ∧ True) ∧ True) ∧ (decide ((↑((lookL y.hs t).getD nilHd).len : Int) > (0 : Int)) = false → ∃ (y_1 : Unit × Tup KR (1 : Nat)), (True ∧ RmRel (waitR R t seg off).snd y_1.snd.fst ∧ True) ∧ (0 : Int) = 
  (waitR R t seg off).fst ∧ ((IntKind.i64.wrap (y.la + (1 : Int)) = y_1.snd.fst.la ∧ True ∧ True ∧ True) ∧ (insL y.ts t ((seg, off), IntKind.i64.wrap (y.la + (1 : Int))) = y_1.snd.fst.ts ∧ True) ∧ (y.hs = y_1.snd.fst.hs 
  ∧ True) ∧ y.os = y_1.snd.fst.os ∧ True) ∧ (True ∧ True ∧ True ∧ True ∧ True) ∧ True)))) ∧ (decide (off < (0 : Int)) = !false → ∃ (y_1 : Unit × Tup KR (1 : Nat)), (True ∧ RmRel (waitR R t seg off).snd y_1.snd.fst ∧ 
  True) ∧ (1 : Int) = (waitR R t seg off).fst ∧ ((y.la = y_1.snd.fst.la ∧ True ∧ True ∧ True) ∧ (y.ts = y_1.snd.fst.ts ∧ True) ∧ (y.hs = y_1.snd.fst.hs ∧ True) ∧ y.os = y_1.snd.fst.os ∧ True) ∧ (True ∧ True ∧ True ∧ True 
  ∧ True) ∧ True)) ∧ ((!idB seg) = !false → ∃ (y_1 : Unit × Tup KR (1 : Nat)), (True ∧ RmRel (waitR R t seg off).snd y_1.snd.fst ∧ True) ∧ (1 : Int) = (waitR R t seg off).fst ∧ ((y.la = y_1.snd.fst.la ∧ True ∧ True ∧ 
  True) ∧ (y.ts = y_1.snd.fst.ts ∧ True) ∧ (y.hs = y_1.snd.fst.hs ∧ True) ∧ y.os = y_1.snd.fst.os ∧ True) ∧ (True ∧ True ∧ True ∧ True ∧ True) ∧ True)) ∧ ((!idB t) = !false → ∃ (y_1 : Unit × Tup KR (1 : Nat)), (True ∧ 
  RmRel (waitR R t seg off).snd y_1.snd.fst ∧ True) ∧ (1 : Int) = (waitR R t seg off).fst ∧ ((y.la = y_1.snd.fst.la ∧ True ∧ True ∧ True) ∧ (y.ts = y_1.snd.fst.ts ∧ True) ∧ (y.hs = y_1.snd.fst.hs ∧ True) ∧ y.os = 
  y_1.snd.fst.os ∧ True) ∧ (True ∧ True ∧ True ∧ True ∧ True) ∧ True)) := by kernel_rfl
theorem forget_vc (R : Rm) (t : Int) (y : RmIn) : (fvc PP e0 Try.f11 c11 (forgetC.U.ss ((R, t), y)) (St1 (forgetC.U.Rs ((R, t), y))) (fun r S => altsOk 4 ((R, t), y) r S forgetC.U.alts)) = (
  ∃ (y_1 : Unit × Tup KR (1 : Nat)), (True ∧ RmRel (forgetR R t) y_1.snd.fst ∧ True) ∧ (lookL y.ts t).isSome = (lookL (tks R) t).isSome ∧ ((y.la = y_1.snd.fst.la ∧ True ∧ True ∧ True) ∧ (delL y.ts t = y_1.snd.fst.ts ∧ 
  True) ∧ (delL y.hs t = y_1.snd.fst.hs ∧ True) ∧ y.os = y_1.snd.fst.os ∧ True) ∧ (True ∧ True ∧ True ∧ True ∧ True) ∧ True) := by kernel_rfl
noncomputable def s30 : Sv PP := ⟨30, inl PP e0 Try.f30 c30, ⟨rfl, inl_ok (env_ok ..) rfl mixed rfl rfl⟩⟩
noncomputable def s31 : Sv PP := ⟨31, inl PP e0 Try.f31 c31, ⟨rfl, inl_ok (env_ok ..) rfl mixed rfl rfl⟩⟩
theorem post_vc (R : Rm) (t c : Int) (y : RmIn) : (fvc PP (env PP [p26] [s30] [] [] []) Try.f16 c16 (postC.U.ss ((R, t, c), y)) (St1 (postC.U.Rs ((R, t, c), y))) (fun r S => altsOk 4 ((R, t, c), y) r S postC.U.alts)) = (
  true = true ∧ ((!idB t) = false → (decide (c < (0 : Int)) = false → (decide (c > (255 : Int)) = true → ∃ (y_1 : Unit × Tup KR (1 : Nat)), (True ∧ RmRel (postR R t c).snd.snd y_1.snd.fst ∧ True) ∧ (false = (postR R t 
  c).fst ∧ (1 : Int) = (postR R t c).snd.fst ∧ True) ∧ ((y.la = y_1.snd.fst.la ∧ True ∧ True ∧ True) ∧ (y.ts = y_1.snd.fst.ts ∧ True) ∧ (y.hs = y_1.snd.fst.hs ∧ True) ∧ y.os = y_1.snd.fst.os ∧ True) ∧ (True ∧ True ∧ True 
  ∧ True ∧ True) ∧ True) ∧ (decide (c > (255 : Int)) = false → ((lookL y.hs t).getD nilHd).len ≤ maxLen → (decide ((↑((lookL y.hs t).getD nilHd).len : Int) ≥ (8 : Int)) = true → ∃ (y_1 : Unit × Tup KR (1 : Nat)), (True ∧ 
  RmRel (postR R t c).snd.snd y_1.snd.fst ∧ True) ∧ (false = (postR R t c).fst ∧ (7 : Int) = (postR R t c).snd.fst ∧ True) ∧ ((y.la = y_1.snd.fst.la ∧ True ∧ True ∧ True) ∧ (y.ts = y_1.snd.fst.ts ∧ True) ∧ (y.hs = 
  y_1.snd.fst.hs ∧ True) ∧ y.os = y_1.snd.fst.os ∧ True) ∧ (True ∧ True ∧ True ∧ True ∧ True) ∧ True) ∧ (decide ((↑((lookL y.hs t).getD nilHd).len : Int) ≥ (8 : Int)) = false → HdIn y.os ((lookL y.hs t).getD nilHd) ∧ 
  (((lookL y.hs t).getD nilHd).len + [c].length) * (8 : Nat) ≤ (140737488355328 : Nat) ∧ ∀ (h' : Hd) (os' : List (Nat × Nat × List Int)), AppPost y.os ((lookL y.hs t).getD nilHd) [c] h' os' → ∃ (y_1 : Unit × Tup KR (1 : 
  Nat)), (True ∧ RmRel (postR R t c).snd.snd y_1.snd.fst ∧ True) ∧ ((lookL y.ts t).isSome = (postR R t c).fst ∧ (0 : Int) = (postR R t c).snd.fst ∧ True) ∧ ((y.la = y_1.snd.fst.la ∧ True ∧ True ∧ True) ∧ (delL y.ts t = 
  y_1.snd.fst.ts ∧ True) ∧ (insL y.hs t h' = y_1.snd.fst.hs ∧ True) ∧ os' = y_1.snd.fst.os ∧ True) ∧ (True ∧ True ∧ True ∧ True ∧ True) ∧ True))) ∧ (decide (c < (0 : Int)) = !false → ∃ (y_1 : Unit × Tup KR (1 : Nat)), 
  (True ∧ RmRel (postR R t c).snd.snd y_1.snd.fst ∧ True) ∧ (false = (postR R t c).fst ∧ (1 : Int) = (postR R t c).snd.fst ∧ True) ∧ ((y.la = y_1.snd.fst.la ∧ True ∧ True ∧ True) ∧ (y.ts = y_1.snd.fst.ts ∧ True) ∧ (y.hs 
  = y_1.snd.fst.hs ∧ True) ∧ y.os = y_1.snd.fst.os ∧ True) ∧ (True ∧ True ∧ True ∧ True ∧ True) ∧ True)) ∧ ((!idB t) = !false → ∃ (y_1 : Unit × Tup KR (1 : Nat)), (True ∧ RmRel (postR R t c).snd.snd y_1.snd.fst ∧ True) ∧ 
  (false = (postR R t c).fst ∧ (1 : Int) = (postR R t c).snd.fst ∧ True) ∧ ((y.la = y_1.snd.fst.la ∧ True ∧ True ∧ True) ∧ (y.ts = y_1.snd.fst.ts ∧ True) ∧ (y.hs = y_1.snd.fst.hs ∧ True) ∧ y.os = y_1.snd.fst.os ∧ True) ∧ 
  (True ∧ True ∧ True ∧ True ∧ True) ∧ True)) := by kernel_rfl
theorem take_vc (R : Rm) (t : Int) (y : RmIn) : (fvc PP (env PP [] [s31] [] [] []) Try.f17 c17 (takeC.U.ss ((R, t), y)) (St1 (takeC.U.Rs ((R, t), y))) (fun r S => altsOk 4 ((R, t), y) r S takeC.U.alts)) = (
  ((lookL y.hs t).getD nilHd).len ≤ maxLen → (((↑((lookL y.hs t).getD nilHd).len : Int) == (0 : Int)) = true → ((lookL y.hs t).getD nilHd).len ≤ maxLen → (((↑((lookL y.hs t).getD nilHd).len : Int) == (0 : Int)) = true → 
  ∃ (y_1 : Unit × Tup KR (1 : Nat)), (True ∧ RmRel (takeR R t).snd.snd y_1.snd.fst ∧ True) ∧ ((0 : Int) = (takeR R t).fst ∧ false = (takeR R t).snd.fst ∧ True) ∧ ((y.la = y_1.snd.fst.la ∧ True ∧ True ∧ True) ∧ (y.ts = 
  y_1.snd.fst.ts ∧ True) ∧ (delL (insL y.hs t ((lookL y.hs t).getD nilHd)) t = y_1.snd.fst.hs ∧ True) ∧ y.os = y_1.snd.fst.os ∧ True) ∧ (True ∧ True ∧ True ∧ True ∧ True) ∧ True) ∧ (((↑((lookL y.hs t).getD nilHd).len : 
  Int) == (0 : Int)) = false → ∃ (y_1 : Unit × Tup KR (1 : Nat)), (True ∧ RmRel (takeR R t).snd.snd y_1.snd.fst ∧ True) ∧ ((0 : Int) = (takeR R t).fst ∧ false = (takeR R t).snd.fst ∧ True) ∧ ((y.la = y_1.snd.fst.la ∧ 
  True ∧ True ∧ True) ∧ (y.ts = y_1.snd.fst.ts ∧ True) ∧ (insL y.hs t ((lookL y.hs t).getD nilHd) = y_1.snd.fst.hs ∧ True) ∧ y.os = y_1.snd.fst.os ∧ True) ∧ (True ∧ True ∧ True ∧ True ∧ True) ∧ True)) ∧ (((↑((lookL y.hs 
  t).getD nilHd).len : Int) == (0 : Int)) = false → ((0 : Int) ≤ (0 : Int) ∧ (0 : Int) < (↑((lookL y.hs t).getD nilHd).len : Int)) ∧ (∃ (y_1 : Int), famGet y.os (((lookL y.hs t).getD nilHd).b.getD (0 : Nat)) (((lookL 
  y.hs t).getD nilHd).off + (0 : Nat)) = some y_1) ∧ ∀ (y_1 : Int), famGet y.os (((lookL y.hs t).getD nilHd).b.getD (0 : Nat)) (((lookL y.hs t).getD nilHd).off + (0 : Nat)) = some y_1 → ((0 : Int) ≤ none.getD (↑((lookL 
  y.hs t).getD nilHd).len : Int) ∧ none.getD (↑((lookL y.hs t).getD nilHd).len : Int) ≤ (↑((lookL y.hs t).getD nilHd).len : Int) ∧ (0 : Int) ≤ (some (1 : Int)).getD (0 : Int) ∧ (some (1 : Int)).getD (0 : Int) ≤ none.getD 
  (↑((lookL y.hs t).getD nilHd).len : Int)) ∧ ((subH ((lookL y.hs t).getD nilHd) (1 : Nat) (none.getD (↑((lookL y.hs t).getD nilHd).len : Int)).toNat).len ≤ maxLen → (((↑(subH ((lookL y.hs t).getD nilHd) (1 : Nat) 
  (none.getD (↑((lookL y.hs t).getD nilHd).len : Int)).toNat).len : Int) == (0 : Int)) = true → ∃ (y_2 : Unit × Tup KR (1 : Nat)), (True ∧ RmRel (takeR R t).snd.snd y_2.snd.fst ∧ True) ∧ (y_1 = (takeR R t).fst ∧ true = 
  (takeR R t).snd.fst ∧ True) ∧ ((y.la = y_2.snd.fst.la ∧ True ∧ True ∧ True) ∧ (y.ts = y_2.snd.fst.ts ∧ True) ∧ (delL (insL y.hs t (subH ((lookL y.hs t).getD nilHd) (1 : Nat) (none.getD (↑((lookL y.hs t).getD nilHd).len 
  : Int)).toNat)) t = y_2.snd.fst.hs ∧ True) ∧ y.os = y_2.snd.fst.os ∧ True) ∧ (True ∧ True ∧ True ∧ True ∧ True) ∧ True) ∧ (((↑(subH ((lookL y.hs t).getD nilHd) (1 : Nat) (none.getD (↑((lookL y.hs t).getD nilHd).len : 
  Int)).toNat).len : Int) == (0 : Int)) = false → ∃ (y_2 : Unit × Tup KR (1 : Nat)), (True ∧ RmRel (takeR R t).snd.snd y_2.snd.fst ∧ True) ∧ (y_1 = (takeR R t).fst ∧ true = (takeR R t).snd.fst ∧ True) ∧ ((y.la = 
  y_2.snd.fst.la ∧ True ∧ True ∧ True) ∧ (y.ts = y_2.snd.fst.ts ∧ True) ∧ (insL y.hs t (subH ((lookL y.hs t).getD nilHd) (1 : Nat) (none.getD (↑((lookL y.hs t).getD nilHd).len : Int)).toNat) = y_2.snd.fst.hs ∧ True) ∧ 
  y.os = y_2.snd.fst.os ∧ True) ∧ (True ∧ True ∧ True ∧ True ∧ True) ∧ True)))) := by kernel_rfl
theorem alerts_vc (R : Rm) (t : Int) (y : RmIn) : (fvc PP (env PP [] [b32] [] [] []) Try.f18 c18 (alertsC.U.ss ((R, t), y)) (St1 (alertsC.U.Rs ((R, t), y))) (fun r S => Fin.frz.T r S fun r S => altsOk 4 ((R, t), y) r S alertsC.U.alts)) = (
  HdIn y.os ((lookL y.hs t).getD nilHd) ∧ shortB (rdH y.os ((lookL y.hs t).getD nilHd)) = true ∧ ∃ (y_1 : Unit × Tup KR (1 : Nat)), (True ∧ RmRel R y_1.snd.fst ∧ True) ∧ rdH y.os ((lookL y.hs t).getD nilHd) = alOf R t ∧ 
  ((y.la = y_1.snd.fst.la ∧ True ∧ True ∧ True) ∧ (y.ts = y_1.snd.fst.ts ∧ True) ∧ (y.hs = y_1.snd.fst.hs ∧ True) ∧ y.os = y_1.snd.fst.os ∧ True) ∧ (True ∧ True ∧ True ∧ True ∧ True) ∧ True) := by kernel_rfl
end Go.Proofs.Ytfdcmbaoekjkgaa
namespace Go.Proofs.Ytfdcmbaoekjkgaa
open Go.Proofs.Ytfdcmbaoekjkgaa.Gx
set_option linter.unusedSimpArgs false
set_option linter.unusedVariables false
section
variable {α β : Type}
theorem lookL_map (f : α → β) : (l : List (Int × α)) → (k : Int) → lookL (l.map fun x => (x.1, f x.2)) k = (lookL l k).map f
  | [], _ => rfl
  | x :: l, k => by
    simp only [List.map_cons, lookL]
    split
    · rfl
    · exact lookL_map f l k
theorem insL_map (f : α → β) : (l : List (Int × α)) → (k : Int) → (v : α) → insL (l.map fun x => (x.1, f x.2)) k (f v) = (insL l k v).map fun x => (x.1, f x.2)
  | [], _, _ => rfl
  | x :: l, k, v => by
    simp only [List.map_cons, insL]
    split
    · rfl
    · simp only [List.map_cons, insL_map f l k v]
theorem delL_map (f : α → β) : (l : List (Int × α)) → (k : Int) → delL (l.map fun x => (x.1, f x.2)) k = (delL l k).map fun x => (x.1, f x.2)
  | [], _ => rfl
  | x :: l, k => by
    simp only [List.map_cons, delL]
    split
    · rfl
    · simp only [List.map_cons, delL_map f l k]
theorem delL_insL : (l : List (Int × α)) → (k : Int) → (v : α) → delL (insL l k v) k = delL l k
  | [], k, v => by simp [insL, delL]
  | x :: l, k, v => by
    simp only [insL]
    split
    · rename_i e; simp [delL, e]
    · rename_i e; simp only [delL, e, if_false, delL_insL l k v]
theorem mem_insL : (l : List (Int × α)) → (k : Int) → (v : α) → (l.map (·.1)).Nodup → ∀ x ∈ insL l k v, x = (k, v) ∨ (x ∈ l ∧ x.1 ≠ k)
  | [], k, v, _, x, h => by simp [insL] at h; exact .inl h
  | y :: l, k, v, hn, x, h => by
    simp only [List.map_cons, List.nodup_cons] at hn
    simp only [insL] at h
    split at h
    · rename_i e
      rcases List.mem_cons.1 h with rfl | h
      · exact .inl rfl
      · refine .inr ⟨by simp [h], fun e2 => hn.1 (List.mem_map.2 ⟨x, h, by rw [e, e2]⟩)⟩
    · rename_i e
      rcases List.mem_cons.1 h with rfl | h
      · exact .inr ⟨by simp, e⟩
      · rcases mem_insL l k v hn.2 x h with h | ⟨h1, h2⟩
        · exact .inl h
        · exact .inr ⟨by simp [h1], h2⟩
theorem mem_delL : (l : List (Int × α)) → (k : Int) → ∀ x ∈ delL l k, x ∈ l
  | [], _, x, h => by simp [delL] at h
  | y :: l, k, x, h => by
    simp only [delL] at h
    split at h
    · simp [h]
    · rcases List.mem_cons.1 h with rfl | h
      · simp
      · simp [mem_delL l k x h]
theorem delL_sub (l : List (Int × α)) (k : Int) : (delL l k).Sublist l := by
  induction l with
  | nil => exact List.Sublist.refl _
  | cons x l ih =>
    simp only [delL]
    split
    · exact List.sublist_cons_self x l
    · exact ih.cons_cons x
theorem delL_none : (l : List (Int × α)) → (k : Int) → (l.map (·.1)).Nodup → k ∉ (delL l k).map (·.1)
  | [], _, _ => by simp [delL]
  | x :: l, k, hn => by
    simp only [List.map_cons, List.nodup_cons] at hn
    simp only [delL]
    split
    · rename_i e; rw [← e]; exact hn.1
    · rename_i e
      simp only [List.map_cons, List.mem_cons, not_or]
      exact ⟨fun h => e h.symm, delL_none l k hn.2⟩
theorem keys_insL : (l : List (Int × α)) → (k : Int) → (v : α) → ∀ j, j ∈ (insL l k v).map (·.1) ↔ j = k ∨ j ∈ l.map (·.1)
  | [], k, v, j => by simp [insL]
  | x :: l, k, v, j => by
    simp only [insL]
    split
    · rename_i e
      simp only [List.map_cons, List.mem_cons, e, or_self_left]
    · have ih := keys_insL l k v j
      simp only [List.map_cons, List.mem_cons, ih]
      constructor
      · rintro (h | h | h) <;> simp [h]
      · rintro (h | h | h) <;> simp [h]
theorem nodup_insL : (l : List (Int × α)) → (k : Int) → (v : α) → (l.map (·.1)).Nodup → ((insL l k v).map (·.1)).Nodup
  | [], k, v, _ => by simp [insL]
  | x :: l, k, v, hn => by
    simp only [List.map_cons, List.nodup_cons] at hn
    simp only [insL]
    split
    · rename_i e
      simp only [List.map_cons, List.nodup_cons]
      exact ⟨by rw [← e]; exact hn.1, hn.2⟩
    · rename_i e
      simp only [List.map_cons, List.nodup_cons]
      refine ⟨fun h => ?_, nodup_insL l k v hn.2⟩
      rcases (keys_insL l k v x.1).1 h with h | h
      · exact e h
      · exact hn.1 h
theorem lookL_mem : {l : List (Int × α)} → {k : Int} → {v : α} → lookL l k = some v → (k, v) ∈ l
  | x :: l, k, v, h => by
    simp only [lookL] at h
    split at h
    · rename_i e; cases h; subst e; simp
    · exact List.mem_cons_of_mem _ (lookL_mem h)
theorem lookL_some {l : List (Int × α)} {k : Int} (hn : (l.map (·.1)).Nodup) {v : α} (h : (k, v) ∈ l) : lookL l k = some v := by
  induction l with
  | nil => simp at h
  | cons x l ih =>
    simp only [List.map_cons, List.nodup_cons] at hn
    simp only [lookL]
    rcases List.mem_cons.1 h with rfl | h
    · simp
    · rw [if_neg (fun e => hn.1 (List.mem_map.2 ⟨_, h, e.symm⟩))]; exact ih hn.2 h
theorem lookL_insL : (l : List (Int × α)) → (k : Int) → (v : α) → (j : Int) → lookL (insL l k v) j = if j = k then some v else lookL l j
  | [], k, v, j => by
    simp only [insL, lookL]
    by_cases e : k = j
    · simp [e]
    · rw [if_neg e, if_neg (fun h => e h.symm)]
  | x :: l, k, v, j => by
    simp only [insL]
    split
    · rename_i e
      simp only [lookL]
      by_cases e2 : k = j
      · simp [e2]
      · rw [if_neg e2, if_neg (fun h => e2 h.symm), if_neg (by rw [e]; exact e2)]
    · rename_i e
      simp only [lookL]
      by_cases e2 : x.1 = j
      · have e3 : ¬ j = k := fun h => e (e2.trans h)
        simp [e2, e3]
      · rw [if_neg e2, if_neg e2, lookL_insL l k v j]
theorem lookL_delL : (l : List (Int × α)) → (k : Int) → (l.map (·.1)).Nodup → (j : Int) → lookL (delL l k) j = if j = k then none else lookL l j
  | [], k, _, j => by simp [delL, lookL]
  | x :: l, k, hn, j => by
    simp only [List.map_cons, List.nodup_cons] at hn
    simp only [delL]
    split
    · rename_i e
      by_cases e2 : j = k
      · rw [if_pos e2]
        cases hl : lookL l j with
        | none => rfl
        | some v => exact absurd (List.mem_map.2 ⟨_, lookL_mem hl, by rw [e, e2]⟩) hn.1
      · rw [if_neg e2]
        simp only [lookL]
        rw [if_neg (fun h => e2 (h.symm.trans e))]
    · rename_i e
      simp only [lookL]
      by_cases e2 : x.1 = j
      · have e3 : ¬ j = k := fun h => e (e2.trans h)
        simp [e2, e3]
      · rw [if_neg e2, if_neg e2, lookL_delL l k hn.2 j]
end
/-! ### Heads -/
theorem rd_nil (os : List (Nat × (Nat × List Int))) : rdH os nilHd = [] := rfl
theorem rd_len {os : List (Nat × (Nat × List Int))} {h : Hd} (hin : hdIn os h) : (rdH os h).length = h.len := by
  obtain ⟨b, off, len, cap⟩ := h
  cases b with
  | none => have : len = 0 := hin; simp [rdH, this]
  | some g =>
    obtain ⟨n, xs, hl, h1, h2, h3⟩ := hin
    simp only at h1 h2 h3
    simp only [rdH, hl, Option.map_some, Option.getD_some, List.length_take, List.length_drop]
    omega
theorem in_nil (os : List (Nat × (Nat × List Int))) : hdIn os nilHd := rfl
/-- What another block's slice reads, behind an appending. -/
theorem app_other {os os' : List (Nat × (Nat × List Int))} {h h' x : Hd} {ys : List Int} (ha : AppPost os h ys h' os') (hin : hdIn os x) (hne : ∀ g, x.b = some g → h.b ≠ some g) : hdIn os' x ∧ rdH os' x = rdH os x := by
  obtain ⟨b, off, len, cap⟩ := x
  cases b with
  | none => exact ⟨hin, rfl⟩
  | some g =>
    obtain ⟨n, xs, hl, h1⟩ := hin
    have hk := ha.keep g (hne g rfl) (by rw [hl]; simp)
    exact ⟨⟨n, xs, hk.trans hl, h1⟩, by simp [rdH, hk]⟩
theorem sub_rd {os : List (Nat × (Nat × List Int))} {h : Hd} (hin : hdIn os h) (hpos : 0 < h.len) (hok : h.len ≤ h.cap) : hdIn os (subH h 1 h.len) ∧ rdH os (subH h 1 h.len) = (rdH os h).drop 1 := by
  obtain ⟨b, off, len, cap⟩ := h
  simp only at hpos hok
  cases b with
  | none => have : len = 0 := hin; omega
  | some g =>
    obtain ⟨n, xs, hl, h1, h2, h3⟩ := hin
    simp only at h1 h2 h3
    by_cases e : cap = 1
    · have e1 : len = 1 := by omega
      subst e; subst e1
      refine ⟨⟨n, xs, hl, ?_, ?_, ?_⟩, ?_⟩
      · simp [subH]; omega
      · simp [subH]; omega
      · simp [subH]
      · simp only [subH, rdH, hl, Option.map_some, Option.getD_some]
        rw [show 1 - 1 = 0 by omega, List.take_zero, List.drop_take]; simp
    · refine ⟨⟨n, xs, hl, ?_, ?_, ?_⟩, ?_⟩
      · simp only [subH, e, if_false]; omega
      · simp only [subH, e, if_false]; omega
      · simp only [subH]; omega
      · simp only [subH, e, if_false, rdH, hl, Option.map_some, Option.getD_some]
        rw [List.drop_take, List.drop_drop]
/-! ### Rooms -/
section
variable {R : Rm} {y : RmIn} {t : Int}
theorem rel_al (h : RmRel R y) (t : Int) : alOf R t = rdH y.os ((lookL y.hs t).getD nilHd) := by
  unfold alOf
  rw [h.als, lookL_map]
  cases lookL y.hs t <;> rfl
theorem rel_in (h : RmRel R y) (t : Int) : hdIn y.os ((lookL y.hs t).getD nilHd) := by
  cases hl : lookL y.hs t with
  | none => exact in_nil _
  | some x => exact h.hin _ (lookL_mem hl)
theorem rel_len (h : RmRel R y) (t : Int) : (alOf R t).length = ((lookL y.hs t).getD nilHd).len := by rw [rel_al h, rd_len (rel_in h t)]
theorem blks_cons (x : Int × Hd) (l : List (Int × Hd)) : blks (x :: l) = (match x.2.b with | some g => g :: blks l | none => blks l) := by
  simp only [blks, List.filterMap_cons]
  cases x.2.b <;> rfl
theorem mem_blks {l : List (Int × Hd)} {g : Nat} : g ∈ blks l ↔ ∃ x ∈ l, x.2.b = some g := by simp [blks, List.mem_filterMap]
/-- Two entries have no block in common. -/
theorem blks_apart : {l : List (Int × Hd)} → (l.map (·.1)).Nodup → (blks l).Nodup → ∀ x ∈ l, ∀ z ∈ l, x.1 ≠ z.1 → ∀ g, x.2.b = some g → z.2.b ≠ some g
  | [], _, _, x, hx, _, _, _, _, _ => by simp at hx
  | a :: l, hn, hb, x, hx, z, hz, hne, g, hg => by
    simp only [List.map_cons, List.nodup_cons] at hn
    rw [blks_cons] at hb
    intro hg2
    have hl : (blks l).Nodup := by cases ha : a.2.b with
      | none => rw [ha] at hb; exact hb
      | some u => rw [ha] at hb; exact (List.nodup_cons.1 hb).2
    have hno : ∀ u, a.2.b = some u → u ∉ blks l := fun u ha => by rw [ha] at hb; exact (List.nodup_cons.1 hb).1
    rcases List.mem_cons.1 hx with e1 | hx1 <;> rcases List.mem_cons.1 hz with e2 | hz1
    · exact hne (by rw [e1, e2])
    · exact hno g (by rw [← e1]; exact hg) (mem_blks.2 ⟨z, hz1, hg2⟩)
    · exact hno g (by rw [← e2]; exact hg2) (mem_blks.2 ⟨x, hx1, hg⟩)
    · exact blks_apart hn.2 hl x hx1 z hz1 hne g hg hg2
theorem blks_ins : (l : List (Int × Hd)) → (k : Int) → (h : Hd) → (l.map (·.1)).Nodup → (blks l).Nodup → (∀ g, h.b = some g → ∀ x ∈ l, x.1 ≠ k → x.2.b ≠ some g) → (blks (insL l k h)).Nodup
  | [], k, h, _, _, _ => by
    simp only [insL, blks_cons]
    cases h.b <;> simp [blks]
  | a :: l, k, h, hn, hb, hf => by
    simp only [List.map_cons, List.nodup_cons] at hn
    rw [blks_cons] at hb
    have hl : (blks l).Nodup := by cases ha : a.2.b with
      | none => rw [ha] at hb; exact hb
      | some u => rw [ha] at hb; exact (List.nodup_cons.1 hb).2
    have hno : ∀ u, a.2.b = some u → u ∉ blks l := fun u ha => by rw [ha] at hb; exact (List.nodup_cons.1 hb).1
    simp only [insL]
    split
    · rename_i e
      rw [blks_cons]
      cases hh : h.b with
      | none => exact hl
      | some g =>
        refine List.nodup_cons.2 ⟨fun hm => ?_, hl⟩
        obtain ⟨x, hx, hg⟩ := mem_blks.1 hm
        exact hf g hh x (by simp [hx]) (fun e2 => hn.1 (List.mem_map.2 ⟨x, hx, by rw [e, e2]⟩)) hg
    · rename_i e
      rw [blks_cons]
      have ih := blks_ins l k h hn.2 hl (fun g hg x hx => hf g hg x (by simp [hx]))
      cases ha : a.2.b with
      | none => exact ih
      | some u =>
        refine List.nodup_cons.2 ⟨fun hm => ?_, ih⟩
        obtain ⟨x, hx, hg⟩ := mem_blks.1 hm
        rcases mem_insL l k h hn.2 x hx with rfl | ⟨hx, _⟩
        · exact hf u hg a (by simp) e ha
        · exact hno u ha (mem_blks.2 ⟨x, hx, hg⟩)
theorem blks_sub {l l' : List (Int × Hd)} (h : l'.Sublist l) (hb : (blks l).Nodup) : (blks l').Nodup := List.Nodup.sublist (h.filterMap _) hb
/-- Another head for one of them, other blocks as they are. -/
theorem rel_put (h : RmRel R y) {h' : Hd} {os' : List (Nat × (Nat × List Int))} (hin : hdIn os' h') (hoth : ∀ x ∈ y.hs, x.1 ≠ t → hdIn os' x.2 ∧ rdH os' x.2 = rdH y.os x.2) (hb : ∀ g, h'.b = some g → ∀ x ∈ y.hs, x.1 ≠ t → x.2.b ≠ some g) :
    RmRel (last R, tks R, insL (als R) t (rdH os' h')) ⟨y.la, y.ts, insL y.hs t h', os'⟩ where
  la := h.la
  ts := h.ts
  als := by
    show insL (als R) t (rdH os' h') = (insL y.hs t h').map fun x => (x.1, rdH os' x.2)
    rw [← insL_map (rdH os'), h.als]
    have key : ∀ (l : List (Int × Hd)), (l.map (·.1)).Nodup → (∀ x ∈ l, x.1 ≠ t → rdH os' x.2 = rdH y.os x.2) → insL (l.map fun x => (x.1, rdH y.os x.2)) t (rdH os' h') = insL (l.map fun x => (x.1, rdH os' x.2)) t (rdH os' h') := by
      intro l
      induction l with
      | nil => intro _ _; rfl
      | cons a l ih =>
        intro hn hl
        simp only [List.map_cons, List.nodup_cons] at hn
        simp only [List.map_cons, insL]
        split
        · rename_i e
          congr 1
          apply List.map_congr_left
          intro x hx
          rw [hl x (by simp [hx]) (fun e2 => hn.1 (List.mem_map.2 ⟨x, hx, by rw [e, e2]⟩))]
        · rename_i e
          rw [hl a (by simp) e, ih hn.2 (fun x hx => hl x (by simp [hx]))]
    exact key y.hs h.keys (fun x hx hne => (hoth x hx hne).2)
  keys := nodup_insL _ _ _ h.keys
  tkeys := h.tkeys
  hin := fun x hx => by
    rcases mem_insL _ _ _ h.keys x hx with rfl | ⟨h1, h2⟩
    · exact hin
    · exact (hoth x h1 h2).1
  apart := blks_ins _ _ _ h.keys h.apart hb
theorem rel_app (h : RmRel R y) {ys : List Int} {h' : Hd} {os' : List (Nat × (Nat × List Int))} (ha : AppPost y.os ((lookL y.hs t).getD nilHd) ys h' os') :
    RmRel (last R, tks R, insL (als R) t (alOf R t ++ ys)) ⟨y.la, y.ts, insL y.hs t h', os'⟩ := by
  rw [rel_al h, ← ha.rd]
  have hap : ∀ x ∈ y.hs, x.1 ≠ t → ∀ g, x.2.b = some g → ((lookL y.hs t).getD nilHd).b ≠ some g := by
    intro x hx hne g hg hg2
    cases hl : lookL y.hs t with
    | none => rw [hl] at hg2; cases hg2
    | some u =>
      rw [hl] at hg2
      exact blks_apart h.keys h.apart x hx _ (lookL_mem hl) hne g hg hg2
  refine rel_put h ha.hin (fun x hx hne => app_other ha (h.hin x hx) (hap x hx hne)) (fun g hg x hx hne hx2 => ?_)
  rcases ha.blk with e | ⟨g2, e, hn⟩
  · exact hap x hx hne g hx2 (by rw [← e]; exact hg)
  · rw [hg] at e
    cases e
    have := h.hin x hx
    unfold hdIn at this
    rw [hx2] at this
    obtain ⟨n, xs, hl, _⟩ := this
    rw [hn] at hl; cases hl
theorem rel_cut (h : RmRel R y) (hpos : 0 < ((lookL y.hs t).getD nilHd).len) (hok : ((lookL y.hs t).getD nilHd).len ≤ ((lookL y.hs t).getD nilHd).cap) :
    RmRel (last R, tks R, insL (als R) t ((alOf R t).drop 1)) ⟨y.la, y.ts, insL y.hs t (subH ((lookL y.hs t).getD nilHd) 1 ((lookL y.hs t).getD nilHd).len), y.os⟩ := by
  obtain ⟨h1, h2⟩ := sub_rd (rel_in h t) hpos hok
  rw [rel_al h, ← h2]
  refine rel_put h h1 (fun x hx _ => ⟨h.hin x hx, rfl⟩) (fun g hg x hx hne hx2 => ?_)
  have hg : ((lookL y.hs t).getD nilHd).b = some g := hg
  cases hl : lookL y.hs t with
  | none => rw [hl] at hg; cases hg
  | some u =>
    rw [hl] at hg
    exact blks_apart h.keys h.apart x hx _ (lookL_mem hl) hne g hx2 hg
theorem rel_del (h : RmRel R y) : RmRel (last R, tks R, delL (als R) t) ⟨y.la, y.ts, delL y.hs t, y.os⟩ where
  la := h.la
  ts := h.ts
  als := by
    show delL (als R) t = _
    rw [h.als, delL_map]
  keys := List.Nodup.sublist ((delL_sub _ _).map _) h.keys
  tkeys := h.tkeys
  hin := fun x hx => h.hin x (mem_delL _ _ x hx)
  apart := blks_sub (delL_sub _ _) h.apart
theorem rel_tk (h : RmRel R y) {la : Int} {ts : List (Int × Tk)} (hn : (ts.map (·.1)).Nodup) : RmRel (la, ts, als R) ⟨la, ts, y.hs, y.os⟩ :=
  ⟨rfl, rfl, h.als, h.keys, hn, h.hin, h.apart⟩
end
end Go.Proofs.Ytfdcmbaoekjkgaa
namespace Go.Proofs.Ytfdcmbaoekjkgaa
open Go.Proofs.Ytfdcmbaoekjkgaa.Gx
set_option maxRecDepth 100000
set_option maxHeartbeats 4000000
set_option linter.unusedSimpArgs false
set_option linter.unusedVariables false
theorem one_wf {α : Type} {inn : α → rmT.den} {ss : α → List SV} {pre : α → Prop} {r : α → SV} {out : α → rmT.den} (hr : ∀ x, SV.wf 1 (r x) = true) : ∀ A ∈ (turns α inn ss pre r out).alts, ∀ x y, SV.wf (A.outs x y).length (A.r x y) = true ∧ 1 ≤ (A.outs x y).length := by
  intro A hA
  obtain rfl := List.mem_singleton.1 hA
  exact fun x y => ⟨hr x, Nat.le_refl 1⟩
theorem one_wfl {α : Type} {inn : α → rmT.den} {ss : α → List SV} {pre : α → Prop} {r : α → SV} (hr : ∀ x, SV.wf 1 (r x) = true) : ∀ A ∈ (looks α inn ss pre r).alts, ∀ x y, SV.wf (A.outs x y).length (A.r x y) = true ∧ 1 ≤ (A.outs x y).length := by
  intro A hA
  obtain rfl := List.mem_singleton.1 hA
  exact fun x y => ⟨hr x, Nat.le_refl 1⟩
theorem new_ok : newC.H.ok PP 9 := by
  refine newC.ok_of (fun A hA => by obtain rfl := List.mem_singleton.1 hA; exact fun x y => rfl) ?_
  refine hc_ofP (Fin.perm fun _ => [3, 0, 1, 2]) mixed (fn := Try.f9) (c := c9) rfl rfl newC.U (fun x => rfl) ?_
  rintro ⟨⟩ -
  refine ⟨e0, env_ok .., rfl, hold new_vc ?_⟩
  simp only [true_and, and_true]
  exact ⟨((), ⟨0, [], [], []⟩, ()), ⟨rfl, rfl, rfl, by simp, by simp, fun x hx => by simp at hx, by simp [blks]⟩, rfl, rfl, rfl, rfl⟩
theorem len_ok : lenC.H.ok PP 12 := by
  refine lenC.ok_of (one_wfl fun _ => rfl) ?_
  refine hc_of mixed (fn := Try.f12) (c := c12) rfl rfl lenC.U (fun x => rfl) ?_
  rintro ⟨R, (y : RmIn)⟩ ⟨-, hrel⟩
  have hrel : RmRel R y := hrel
  refine ⟨e0, env_ok .., rfl, hold (len_vc R y) ?_⟩
  simp only [true_and, and_true]
  exact ⟨((), y, ()), hrel, by rw [hrel.ts], rfl, rfl, rfl, rfl⟩
theorem where_ok : whereC.H.ok PP 21 := by
  refine whereC.ok_of (one_wfl fun _ => rfl) ?_
  refine hc_of mixed (fn := Try.f21) (c := c21) rfl rfl whereC.U (fun x => rfl) ?_
  rintro ⟨⟨R, t⟩, (y : RmIn)⟩ ⟨-, hrel⟩
  have hrel : RmRel R y := hrel
  refine ⟨e0, env_ok .., rfl, hold (where_vc R t y) ?_⟩
  simp only [true_and, and_true]
  refine ⟨((), y, ()), hrel, ⟨?_, ?_, by rw [hrel.ts]⟩, rfl, rfl, rfl, rfl⟩ <;>
  · unfold placeOf
    rw [hrel.ts]
    cases lookL y.ts t <;> rfl
theorem forget_ok : forgetC.H.ok PP 11 := by
  refine forgetC.ok_of (one_wf fun _ => rfl) ?_
  refine hc_of mixed (fn := Try.f11) (c := c11) rfl rfl forgetC.U (fun x => rfl) ?_
  rintro ⟨⟨R, t⟩, (y : RmIn)⟩ ⟨-, hrel⟩
  have hrel : RmRel R y := hrel
  refine ⟨e0, env_ok .., rfl, hold (forget_vc R t y) ?_⟩
  simp only [true_and, and_true]
  refine ⟨((), ⟨y.la, delL y.ts t, delL y.hs t, y.os⟩, ()), ?_, by rw [hrel.ts], rfl, rfl, rfl, rfl⟩
  have h1 := rel_del (t := t) hrel
  have h2 := rel_tk h1 (la := y.la) (ts := delL y.ts t) (List.Nodup.sublist ((delL_sub _ _).map _) hrel.tkeys)
  have : forgetR R t = (y.la, delL y.ts t, als (last R, tks R, delL (als R) t)) := by
    unfold forgetR
    rw [hrel.la, hrel.ts]; rfl
  rw [this]; exact h2
theorem wait_ok : waitC.H.ok PP 10 := by
  refine waitC.ok_of (one_wf fun _ => rfl) ?_
  refine hc_of mixed (fn := Try.f10) (c := c10) rfl rfl waitC.U (fun x => rfl) ?_
  rintro ⟨⟨R, t, seg, off⟩, (y : RmIn)⟩ ⟨-, hrel⟩
  have hrel : RmRel R y := hrel
  refine ⟨eP [p26], env_ok .., rfl, hold (wait_vc R t seg off y) ?_⟩
  simp only [true_and, and_true]
  have bad : waitR R t seg off = (1, R) → ∃ (y_1 : Unit × Tup KR (1 : Nat)), RmRel (waitR R t seg off).snd y_1.snd.fst ∧ (1 : Int) = (waitR R t seg off).fst ∧ y.la = y_1.snd.fst.la ∧ y.ts = y_1.snd.fst.ts ∧ y.hs = y_1.snd.fst.hs ∧ y.os = y_1.snd.fst.os := by
    intro e; rw [e]; exact ⟨((), y, ()), hrel, rfl, rfl, rfl, rfl, rfl⟩
  refine ⟨fun h1 => ⟨fun h2 => ⟨fun h3 => ⟨fun h4 => bad ?_, fun h4 => ⟨fun h5 => ?_, fun h5 hl => ⟨fun h6 => ?_, fun h6 => ?_⟩⟩⟩, fun h3 => bad ?_⟩, fun h2 => bad ?_⟩, fun h1 => bad ?_⟩
  · simp [waitR, h4]
  · have hc : (!idB t || !idB seg || decide (off < 0) || decide (off ≥ 4096)) = false := by simp only [h1, h2, h3, h4]; rfl
    have h5' : (lookL (tks R) t).isSome = true := by rw [hrel.ts]; exact h5
    have : waitR R t seg off = (8, R) := by simp only [waitR, hc, h5']; rfl
    rw [this]; exact ⟨((), y, ()), hrel, rfl, rfl, rfl, rfl, rfl⟩
  · have hc : (!idB t || !idB seg || decide (off < 0) || decide (off ≥ 4096)) = false := by simp only [h1, h2, h3, h4]; rfl
    have h5' : (lookL (tks R) t).isSome = false := by rw [hrel.ts]; exact h5
    have h6' : alOf R t ≠ [] := fun e => by have := rel_len hrel t; rw [e] at this; simp at h6 this; omega
    have : waitR R t seg off = (10, R) := by simp only [waitR, hc, h5', h6']; simp [h6']
    rw [this]; exact ⟨((), y, ()), hrel, rfl, rfl, rfl, rfl, rfl⟩
  · have hc : (!idB t || !idB seg || decide (off < 0) || decide (off ≥ 4096)) = false := by simp only [h1, h2, h3, h4]; rfl
    have h5' : (lookL (tks R) t).isSome = false := by rw [hrel.ts]; exact h5
    have h6' : alOf R t = [] := List.eq_nil_of_length_eq_zero (by rw [rel_len hrel t]; simp at h6; omega)
    have : waitR R t seg off = (0, (IntKind.i64.wrap (y.la + 1), insL y.ts t ((seg, off), IntKind.i64.wrap (y.la + 1)), als R)) := by
      unfold waitR
      rw [hc, h5', h6', hrel.la, hrel.ts]; simp
    rw [this]
    exact ⟨((), ⟨IntKind.i64.wrap (y.la + 1), insL y.ts t ((seg, off), IntKind.i64.wrap (y.la + 1)), y.hs, y.os⟩, ()), rel_tk hrel (nodup_insL _ _ _ hrel.tkeys), rfl, rfl, rfl, rfl, rfl⟩
  · have h3' : decide (off < 0) = true := by simpa using h3
    simp [waitR, h3']
  · have h2' : (!idB seg) = true := by simpa using h2
    simp only [waitR, h2']; simp
  · have h1' : (!idB t) = true := by simpa using h1
    simp only [waitR, h1']; simp
theorem post_ok : postC.H.ok PP 16 := by
  refine postC.ok_of (one_wf fun _ => rfl) ?_
  refine hc_of mixed (fn := Try.f16) (c := c16) rfl rfl postC.U (fun x => rfl) ?_
  rintro ⟨⟨R, t, c⟩, (y : RmIn)⟩ ⟨-, hrel⟩
  have hrel : RmRel R y := hrel
  refine ⟨env PP [p26] [s30] [] [] [], env_ok .., rfl, hold (post_vc R t c y) ?_⟩
  simp only [true_and, and_true]
  have bad : ∀ e : Int, postR R t c = (false, e, R) → ∃ (y_1 : Unit × Tup KR (1 : Nat)), RmRel (postR R t c).snd.snd y_1.snd.fst ∧ (false = (postR R t c).fst ∧ e = (postR R t c).snd.fst) ∧ y.la = y_1.snd.fst.la ∧ y.ts = y_1.snd.fst.ts ∧ y.hs = y_1.snd.fst.hs ∧ y.os = y_1.snd.fst.os := by
    intro e he; rw [he]; exact ⟨((), y, ()), hrel, ⟨rfl, rfl⟩, rfl, rfl, rfl, rfl⟩
  refine ⟨fun h1 => ⟨fun h2 => ⟨fun h3 => bad 1 ?_, fun h3 hl => ⟨fun h4 => bad 7 ?_, fun h4 => ⟨⟨rel_in hrel t⟩, ?_, fun h' os' ha => ?_⟩⟩⟩, fun h2 => bad 1 ?_⟩, fun h1 => bad 1 ?_⟩
  · simp [postR, h3]
  · have hc : (!idB t || decide (c < 0) || decide (c > 255)) = false := by simp only [h1, h2, h3]; rfl
    have h4' : (alOf R t).length ≥ 8 := by rw [rel_len hrel t]; simp at h4; omega
    unfold postR
    rw [hc, if_neg (by simp), if_pos h4']
  · simp at h4
    simp only [List.length_singleton]; omega
  · have hc : (!idB t || decide (c < 0) || decide (c > 255)) = false := by simp only [h1, h2, h3]; rfl
    have h4' : ¬ (alOf R t).length ≥ 8 := by rw [rel_len hrel t]; simp at h4; omega
    have hp : postR R t c = ((lookL (tks R) t).isSome, 0, (y.la, delL y.ts t, insL (als R) t (alOf R t ++ [c]))) := by
      unfold postR
      rw [hc, if_neg (by simp), if_neg h4', hrel.la, hrel.ts]
    rw [hp]
    refine ⟨((), ⟨y.la, delL y.ts t, insL y.hs t h', os'⟩, ()), ?_, ⟨by rw [hrel.ts], rfl⟩, rfl, rfl, rfl, rfl⟩
    exact rel_tk (rel_app hrel ha) (la := y.la) (ts := delL y.ts t) (List.Nodup.sublist ((delL_sub _ _).map _) hrel.tkeys)
  · have h2' : decide (c < 0) = true := by simpa using h2
    simp [postR, h2']
  · have h1' : (!idB t) = true := by simpa using h1
    simp only [postR, h1']; simp
theorem take_ok : takeC.H.ok PP 17 := by
  refine takeC.ok_of (one_wf fun _ => rfl) ?_
  refine hc_of mixed (fn := Try.f17) (c := c17) rfl rfl takeC.U (fun x => rfl) ?_
  rintro ⟨⟨R, t⟩, (y : RmIn)⟩ ⟨-, hrel⟩
  have hrel : RmRel R y := hrel
  refine ⟨env PP [] [s31] [] [] [], env_ok .., rfl, hold (take_vc R t y) ?_⟩
  simp only [true_and, and_true, Option.getD_none, Option.getD_some, Int.toNat_natCast]
  have hlen := rel_len hrel t
  intro hl
  refine ⟨fun h1 _ => ⟨fun _ => ?_, fun h2 => by rw [h1] at h2; cases h2⟩, fun h1 => ⟨⟨by omega, by simp at h1; omega⟩, ?_, ?_⟩⟩
  · have hz : alOf R t = [] := List.eq_nil_of_length_eq_zero (by rw [hlen]; simp at h1; omega)
    have hT : takeR R t = (0, false, (y.la, y.ts, delL (als R) t)) := by unfold takeR; rw [hz, hrel.la, hrel.ts]
    rw [hT]
    refine ⟨((), ⟨y.la, y.ts, delL y.hs t, y.os⟩, ()), ?_, ⟨rfl, rfl⟩, rfl, rfl, by rw [delL_insL], rfl⟩
    exact rel_tk (rel_del hrel) hrel.tkeys
  all_goals
    have hpos : 0 < ((lookL y.hs t).getD nilHd).len := by simp at h1; omega
    have hfirst : famGet y.os (((lookL y.hs t).getD nilHd).b.getD 0) (((lookL y.hs t).getD nilHd).off + 0) = (alOf R t).head? := by
      rw [rel_al hrel]
      have hin := rel_in hrel t
      generalize (lookL y.hs t).getD nilHd = hh at hin hpos ⊢
      obtain ⟨b, off, len, cap⟩ := hh
      simp only at hpos
      cases b with
      | none => have : len = 0 := hin; omega
      | some g =>
        obtain ⟨n, xs, hl2, i1, i2, i3⟩ := hin
        simp only at i1 i2 i3
        simp only [famGet, Option.getD_some, hl2, Option.bind_some, rdH, Option.map_some, Nat.add_zero]
        rw [List.head?_eq_getElem?, List.getElem?_take_of_lt hpos, List.getElem?_drop, Nat.add_zero]
  · cases ha : alOf R t with
    | nil => rw [ha] at hlen; simp at hlen; omega
    | cons c l => exact ⟨c, by rw [hfirst, ha]; rfl⟩
  · intro c hc
    rw [hfirst] at hc
    cases ha : alOf R t with
    | nil => rw [ha] at hc; cases hc
    | cons c' l =>
      rw [ha] at hc
      obtain rfl : c' = c := by simpa using hc
      have hll : l.length + 1 = ((lookL y.hs t).getD nilHd).len := by rw [← hlen, ha]; rfl
      refine ⟨⟨by omega, by omega, by omega, by omega⟩, fun _ => ⟨fun h2 => ?_, fun h2 => ?_⟩⟩
      · have hz : l = [] := List.eq_nil_of_length_eq_zero (by simp [subH] at h2; omega)
        have hT : takeR R t = (c', true, (y.la, y.ts, delL (als R) t)) := by unfold takeR; rw [ha, hrel.la, hrel.ts]; simp [hz]
        rw [hT]
        refine ⟨((), ⟨y.la, y.ts, delL y.hs t, y.os⟩, ()), ?_, ⟨rfl, rfl⟩, rfl, rfl, by rw [delL_insL], rfl⟩
        exact rel_tk (rel_del hrel) hrel.tkeys
      · have hz : l ≠ [] := fun e => by subst e; simp [subH] at h2 hll; omega
        have hT : takeR R t = (c', true, (y.la, y.ts, insL (als R) t l)) := by unfold takeR; rw [ha, hrel.la, hrel.ts]; simp [hz]
        rw [hT]
        refine ⟨((), ⟨y.la, y.ts, insL y.hs t (subH ((lookL y.hs t).getD nilHd) 1 ((lookL y.hs t).getD nilHd).len), y.os⟩, ()), ?_, ⟨rfl, rfl⟩, rfl, rfl, rfl, rfl⟩
        have hin := rel_in hrel t
        have hcap : ((lookL y.hs t).getD nilHd).len ≤ ((lookL y.hs t).getD nilHd).cap := by
          unfold hdIn at hin
          split at hin
          · obtain ⟨_, _, _, _, _, h⟩ := hin; exact h
          · omega
        have := rel_cut hrel hpos hcap
        rw [ha] at this
        exact rel_tk this hrel.tkeys
theorem alerts_ok : alertsC.H.ok PP 18 := by
  refine alertsC.ok_of (one_wfl fun _ => rfl) ?_
  refine hc_ofP Fin.frz mixed (fn := Try.f18) (c := c18) rfl rfl alertsC.U (fun x => rfl) ?_
  rintro ⟨⟨R, t⟩, (y : RmIn)⟩ ⟨hsh, hrel⟩
  have hrel : RmRel R y := hrel
  have hsh : shortA R := hsh
  refine ⟨env PP [] [b32] [] [] [], env_ok .., rfl, hold (alerts_vc R t y) ?_⟩
  simp only [true_and, and_true]
  refine ⟨⟨rel_in hrel t⟩, ?_, ((), y, ()), hrel, (rel_al hrel t).symm, rfl, rfl, rfl, rfl⟩
  rw [← rel_al hrel]
  simp only [shortB, decide_eq_true_eq]
  unfold alOf
  cases hl : lookL (als R) t with
  | none => simp
  | some x => exact hsh _ (lookL_mem hl)
end Go.Proofs.Ytfdcmbaoekjkgaa
namespace Go.Proofs.Ytfdcmbaoekjkgaa
open Go.Proofs.Ytfdcmbaoekjkgaa.Gx
set_option linter.unusedSimpArgs false
set_option linter.unusedVariables false
def tkOf (ts : List (Int × Tk)) (k : Int) : Tk := (lookL ts k).getD ((0, 0), 0)
def noOf (ts : List (Int × Tk)) (k : Int) : Int := (tkOf ts k).2
/-- In the order in which they came. -/
structure Row (ts : List (Int × Tk)) (xs ys : List Int) : Prop where
  perm : ys.Perm xs
  sorted : ys.Pairwise fun a b => noOf ts a ≤ noOf ts b
def sortS : Gx.Spec := fun ss S K => match ss with
  | [.row j, .fn f [.ptr q 0]] => match Nat.beq f 45, S.res[j]?, S.res[q]? with
    | true, some (.row e t xs), some (.blk _ [.ptr r 0]) => match Nat.beq e 3, decEq t i64, S.res[r]? with
      | true, .isTrue h, some (.blk _ [_, .mp m, _]) => match S.res[m]? with
        | some (.mapr kk ag vt ts none) => match decEq kk .i64, ag, decEq vt tkT with
          | .isTrue _, true, .isTrue h2 => xs.length < 4611686018427387904 ∧ ∀ ys : List Int, Row (Eq.rec (motive := fun u _ => List (Int × u.den)) ts h2) (Eq.rec (motive := fun u _ => List u.den) xs h) ys → K (.tup []) { S with res := S.res.set j (.row 3 i64 ys) }
          | _, _, _ => False
        | _ => False
      | _, _, _ => False
    | _, _, _ => False
  | _ => False
def keysAt (ts : List (Int × Tk)) (p : Int × Int → Bool) : List Int := (ts.map (·.1)).filter fun k => p (tkOf ts k).1
def fewT (R : Rm) : Prop := (tks R).length ≤ 1000000000000
/-- A method that gives some of those that wait. -/
def those (α : Type) (inn : α → rmT.den) (ss : α → List SV) (p : α → Int × Int → Bool) : PC1 KR where
  α := α
  inn := inn
  ss := ss
  pre := fun x => fewT (inn x)
  alts := [{ β := List Int, k := 1, post := fun x ys => Row (tks (inn x)) (keysAt (tks (inn x)) (p x)) ys, r := fun _ ys => .rs i64 ys, outs := fun x _ => [inn x] }]
def atP (seg off : Int) (q : Int × Int) : Bool := q.1 == seg && q.2 == off
def inP (seg : Int) (q : Int × Int) : Bool := q.1 == seg
def listC : PC1 KR := those (Rm × Int × Int) (fun x => x.1) (fun x => [.ptr 0 0, .int .i64 x.2.1, .int .i64 x.2.2]) (fun x => atP x.2.1 x.2.2)
def delAll (ts : List (Int × Tk)) (l : List Int) : List (Int × Tk) := l.foldl delL ts
def freeC : PC1 KR := turns (Rm × List Int) (fun x => x.1) (fun x => [.ptr 0 0, .rs i64 x.2]) (fun _ => True) (fun x => .rs i64 x.2) (fun x => (last x.1, delAll (tks x.1) x.2, als x.1))
/-- The same, and they wait no more. -/
def wakes (α : Type) (inn : α → rmT.den) (ss : α → List SV) (p : α → Int × Int → Bool) : PC1 KR where
  α := α
  inn := inn
  ss := ss
  pre := fun x => fewT (inn x)
  alts := [{ β := List Int, k := 1, post := fun x ys => Row (tks (inn x)) (keysAt (tks (inn x)) (p x)) ys, r := fun _ ys => .rs i64 ys, outs := fun x ys => [(last (inn x), delAll (tks (inn x)) ys, als (inn x))] }]
def wakeC : PC1 KR := wakes (Rm × Int × Int) (fun x => x.1) (fun x => [.ptr 0 0, .int .i64 x.2.1, .int .i64 x.2.2]) (fun x => atP x.2.1 x.2.2)
def closeC : PC1 KR := wakes (Rm × Int) (fun x => x.1) (fun x => [.ptr 0 0, .int .i64 x.2]) (fun x => inP x.2)
def useRm (C : PC1 KR) (rs : List Nat) (mk : rmT.den → List SV → Option C.α) : Gx.Spec := hspec C.H rs fun ss S => match ss with
  | .ptr j 0 :: rest => match S.res[j]? with
    | some (.cust t _ x) => match decEq t rmT with
      | .isTrue h => match mk (h ▸ x) rest with
        | some a => some ([j], a)
        | none => none
      | _ => none
    | _ => none
  | _ => none
end Go.Proofs.Ytfdcmbaoekjkgaa
namespace Go.Proofs.Ytfdcmbaoekjkgaa
open Go.Proofs.Ytfdcmbaoekjkgaa.Gx
set_option maxRecDepth 100000
set_option linter.unusedVariables false
set_option maxHeartbeats 0
def cmpQ : PSpecs := fun f => match Nat.beq f 46 with
  | true => some (Q [i64, i64] [i64] (fun _ => true) (fun x => (cmpI x.1 x.2.1, ())))
  | false => none
def cmpS (ty1 ty2 : TypeId) (x0 x2 : SV) (ts : List (Int × Tk)) : St := { fr := { n := 0, tm := [] }, stk := [], res := [.blk ty1 [.ptr 1 0], .blk ty2 [x0, .mp 2, x2], .mapr .i64 true tkT ts none] }
theorem less_vc (x y : Int) (ty1 ty2 : TypeId) (x0 x2 : SV) (ts : List (Int × Tk)) : (rvc PP cmpQ c45 (enterS 21 [.int .i64 x, .int .i64 y, .ptr 0 0] (cmpS ty1 ty2 x0 x2 ts)) fun S' => retS PP S' Try.f45.results.toList fun rs => resSV rs = .int .i64 (cmpI (noOf ts x) (noOf ts y))) = (
  true = true ∧ SV.int IntKind.i64 (cmpI ((lookL ts x).getD (((0 : Int), (0 : Int)), (0 : Int))).snd ((lookL ts y).getD (((0 : Int), (0 : Int)), (0 : Int))).snd) = SV.int IntKind.i64 (cmpI (noOf ts x) (noOf ts y))) := by kernel_rfl
end Go.Proofs.Ytfdcmbaoekjkgaa
namespace Go.Proofs.Ytfdcmbaoekjkgaa
open Go.Shelf
def Try.sort44_ren : Go.Shelf.Ren := ⟨fun | 6 => 44 | 15 => 51 | 14 => 50 | 28 => 61 | 29 => 62 | 20 => 53 | 21 => 54 | 22 => 55 | 23 => 56 | 24 => 57 | 25 => 58 | 26 => 59 | 27 => 60 | 46 => 63 | 47 => 64 | 48 => 65 | 49 => 66 | 50 => 67 | 57 => 68 | n => n, fun | 22 => 22 | 24 => 3 | 25 => 77 | 3 => 3 | 39 => 83 | 0 => 0 | 53 => 92 | 55 => 94 | 4 => 4 | 46 => 86 | 45 => 85 | 50 => 36 | 5 => 5 | 9 => 9 | 66 => 95 | 70 => 99 | 76 => 101 | 77 => 102 | n => n, fun | n => n⟩
theorem Try.sort44 : Go.Proofs.SlLaysF.n6 Try.prog Try.sort44_ren := {
  mixed := by kernel_rfl
  f6 := ⟨Try.f44.name, by decide, Try.func44.trans (congrArg some (by kernel_rfl))⟩
  f14 := ⟨Try.f50.name, by decide, Try.func50.trans (congrArg some (by kernel_rfl))⟩
  f15 := Try.func51.trans (congrArg some (by kernel_rfl))
  f20 := ⟨Try.f53.name, by decide, Try.func53.trans (congrArg some (by kernel_rfl))⟩
  f21 := ⟨Try.f54.name, by decide, Try.func54.trans (congrArg some (by kernel_rfl))⟩
  f22 := ⟨Try.f55.name, by decide, Try.func55.trans (congrArg some (by kernel_rfl))⟩
  f23 := ⟨Try.f56.name, by decide, Try.func56.trans (congrArg some (by kernel_rfl))⟩
  f24 := ⟨Try.f57.name, by decide, Try.func57.trans (congrArg some (by kernel_rfl))⟩
  f25 := ⟨Try.f58.name, by decide, Try.func58.trans (congrArg some (by kernel_rfl))⟩
  f26 := ⟨Try.f59.name, by decide, Try.func59.trans (congrArg some (by kernel_rfl))⟩
  f27 := ⟨Try.f60.name, by decide, Try.func60.trans (congrArg some (by kernel_rfl))⟩
  f28 := Try.func61.trans (congrArg some (by kernel_rfl))
  f29 := Try.func62.trans (congrArg some (by kernel_rfl))
  f46 := ⟨Try.f63.name, by decide, Try.func63.trans (congrArg some (by kernel_rfl))⟩
  f47 := Try.func64.trans (congrArg some (by kernel_rfl))
  f48 := Try.func65.trans (congrArg some (by kernel_rfl))
  f49 := ⟨Try.f66.name, by decide, Try.func66.trans (congrArg some (by kernel_rfl))⟩
  f50 := ⟨Try.f67.name, by decide, Try.func67.trans (congrArg some (by kernel_rfl))⟩
  f57 := ⟨Try.f68.name, by decide, Try.func68.trans (congrArg some (by kernel_rfl))⟩
  t0 := Try.underlying0
  a0 := Try.isAgg0
  z0 := Try.sizeOf0
  v0 := Try.zeroValue0
  t3 := Try.underlying3
  a3 := Try.isAgg3
  z3 := Try.sizeOf3
  v3 := Try.zeroValue3
  t4 := Try.underlying4
  a4 := Try.isAgg4
  z4 := Try.sizeOf4
  v4 := Try.zeroValue4
  t5 := Try.underlying5
  a5 := Try.isAgg5
  z5 := Try.sizeOf5
  v5 := Try.zeroValue5
  t9 := Try.underlying9
  a9 := Try.isAgg9
  z9 := Try.sizeOf9
  v9 := Try.zeroValue9
  t22 := Try.underlying22
  a22 := Try.isAgg22
  z22 := Try.sizeOf22
  v22 := Try.zeroValue22
  a24 := Try.isAgg3
  z24 := Try.sizeOf3
  t25 := Try.underlying77
  a25 := Try.isAgg77
  z25 := Try.sizeOf77
  v25 := Try.zeroValue77
  t39 := Try.underlying83
  a39 := Try.isAgg83
  z39 := Try.sizeOf83
  v39 := Try.zeroValue83
  t45 := Try.underlying85
  a45 := Try.isAgg85
  z45 := Try.sizeOf85
  v45 := Try.zeroValue85
  t46 := Try.underlying86
  a46 := Try.isAgg86
  z46 := Try.sizeOf86
  v46 := Try.zeroValue86
  t50 := Try.underlying36
  a50 := Try.isAgg36
  z50 := Try.sizeOf36
  v50 := Try.zeroValue36
  t53 := Try.underlying92
  a53 := Try.isAgg92
  z53 := Try.sizeOf92
  v53 := Try.zeroValue92
  t55 := Try.underlying94
  a55 := Try.isAgg94
  z55 := Try.sizeOf94
  v55 := Try.zeroValue94
  t66 := Try.underlying95
  a66 := Try.isAgg95
  z66 := Try.sizeOf95
  v66 := Try.zeroValue95
  t70 := Try.underlying99
  a70 := Try.isAgg99
  z70 := Try.sizeOf99
  v70 := Try.zeroValue99
  t76 := Try.underlying101
  a76 := Try.isAgg101
  z76 := Try.sizeOf101
  v76 := Try.zeroValue101
  t77 := Try.underlying102
  a77 := Try.isAgg102
  z77 := Try.sizeOf102
  v77 := Try.zeroValue102 }
def Try.clone34_ren : Go.Shelf.Ren := ⟨fun | 5 => 34 | 7 => 47 | n => n, fun | 23 => 56 | 25 => 3 | 3 => 63 | 4 => 4 | 20 => 20 | n => n, fun | n => n⟩
theorem Try.clone34 : Go.Proofs.SlLaysW.n5 Try.prog Try.clone34_ren := {
  mixed := by kernel_rfl
  f5 := ⟨Try.f34.name, by decide, Try.func34.trans (congrArg some (by kernel_rfl))⟩
  f7 := Try.func47.trans (congrArg some (by kernel_rfl))
  t4 := Try.underlying4
  a4 := Try.isAgg4
  z4 := Try.sizeOf4
  v4 := Try.zeroValue4
  t20 := Try.underlying20
  a20 := Try.isAgg20
  z20 := Try.sizeOf20
  v20 := Try.zeroValue20
  t23 := Try.underlying56
  a23 := Try.isAgg56
  z23 := Try.sizeOf56
  v23 := Try.zeroValue56 }
def Try.cmp46_ren : Go.Shelf.Ren := ⟨fun | 5 => 46 | 7 => 52 | n => n, fun | 22 => 3 | 3 => 3 | 4 => 4 | n => n, fun | n => n⟩
theorem Try.cmp46 : Go.Proofs.SlLaysC2.n5 Try.prog Try.cmp46_ren := {
  mixed := by kernel_rfl
  f5 := ⟨Try.f46.name, by decide, Try.func46.trans (congrArg some (by kernel_rfl))⟩
  f7 := ⟨Try.f52.name, by decide, Try.func52.trans (congrArg some (by kernel_rfl))⟩
  t3 := Try.underlying3
  a3 := Try.isAgg3
  z3 := Try.sizeOf3
  v3 := Try.zeroValue3
  t4 := Try.underlying4
  a4 := Try.isAgg4
  z4 := Try.sizeOf4
  v4 := Try.zeroValue4
  t22 := Try.underlying3
  a22 := Try.isAgg3
  z22 := Try.sizeOf3
  v22 := Try.zeroValue3 }
end Go.Proofs.Ytfdcmbaoekjkgaa
namespace Go.Proofs.Ytfdcmbaoekjkgaa
open Go.Proofs.Ytfdcmbaoekjkgaa.Gx Go.RowKit Go.Sort Go.Shelf
set_option maxRecDepth 100000
set_option maxHeartbeats 4000000
set_option linter.unusedSimpArgs false
set_option linter.unusedVariables false
theorem cmpI_eq (a b : Int) : Lib.compareInt a b = cmpI a b := by
  unfold Lib.compareInt cmpI
  by_cases h1 : a < b
  · simp [h1]
  · by_cases h2 : b < a <;> simp [h1, h2]
theorem cmp_exact : PSpecs.exact PP cmpQ := by
  intro f q hq
  unfold cmpQ at hq
  split at hq
  · rename_i e
    obtain rfl : f = 46 := Nat.eq_of_beq_eq_true e
    cases hq
    refine ⟨rfl, ?_⟩
    intro ρ I w ss vs pre s hd hqs hpre
    unfold Q at hqs
    split at hqs
    · rename_i x hx
      simp only [Option.some.injEq, Prod.mk.injEq] at hqs
      obtain ⟨_, rfl⟩ := hqs
      have hd' := asArgs_den _ hd hx
      obtain ⟨a, b, ⟨⟩⟩ := x
      have hvs : vs = [.int .i64 a, .int .i64 b] := by
        have hd'' : SV.denL ρ I w [.int .i64 a, .int .i64 b] vs := hd'
        simp only [SV.denL, SV.den] at hd''
        obtain ⟨v, vs', rfl, rfl, v2, vs2, rfl, rfl, rfl⟩ := hd''
        rfl
      subst hvs
      refine (AnyG.cmp_Compare_int Try.cmp46 a b w).mono ?_
      rintro e w' ⟨rfl, rfl⟩
      refine ⟨_, rfl, rfl, ?_⟩
      show SV.den [] I w' (.int .i64 (cmpI a b)) _
      unfold SV.den
      rw [cmpI_eq]
    · cases hqs
  · cases hq
def lessOf (ts : List (Int × Tk)) (x y : Int) : Int := cmpI (noOf ts x) (noOf ts y)
theorem less_iff (ts : List (Int × Tk)) (x y : Int) : ltOf (lessOf ts) x y = decide (noOf ts x < noOf ts y) := by
  unfold ltOf lessOf cmpI
  by_cases h1 : noOf ts x < noOf ts y
  · simp [h1]
  · by_cases h2 : noOf ts x > noOf ts y <;> simp [h1, h2]
theorem less_swo (ts : List (Int × Tk)) : SWO (ltOf (lessOf ts)) where
  irrefl x := by rw [less_iff]; simp
  trans x y z h1 h2 := by rw [less_iff] at *; simp at *; omega
  ntrans x y z h1 h2 := by rw [less_iff] at *; simp at *; omega
theorem ints_of {I : Nat → Prop} {w : World} : (xs : List Int) → {cs : List Value} → RdL I w i64 xs cs → cs = xs.map (Value.int .i64)
  | [], _, h => h
  | x :: xs, _, h => by
    obtain ⟨c1, c2, rfl, h1, h2⟩ := h
    rw [ints_of xs h2, show c1 = [Value.int .i64 x] from h1]; rfl
theorem of_ints {I : Nat → Prop} {w : World} : (xs : List Int) → RdL I w i64 xs (xs.map (Value.int .i64))
  | [] => rfl
  | x :: xs => ⟨[.int .i64 x], _, rfl, rfl, of_ints xs⟩
theorem row_of {ts : List (Int × Tk)} {d d' : Array Int} (hp : PermIn 0 d.size d d') (hs : SortedIn (ltOf (lessOf ts)) 0 d.size d') : Row ts d.toList d'.toList := by
  obtain ⟨h1, _, h3⟩ := hp
  refine ⟨?_, ?_⟩
  · have e1 : d'.extract 0 d.size = d' := by rw [← h1]; simp
    rw [e1] at h3
    simpa using h3
  · rw [List.pairwise_iff_getElem]
    intro i j hi hj hij
    have := hs i j (Nat.zero_le _) hij (by simp at hj; omega)
    rw [less_iff] at this
    simp only [decide_eq_false_iff_not, Int.not_lt] at this
    have hi' : i < d'.size := by simpa using hi
    have hj' : j < d'.size := by simpa using hj
    rw [getElem!_pos d' i hi', getElem!_pos d' j hj'] at this
    simpa using this
theorem sort_ok : hasBody PP 44 = true ∧ SpecOk PP 44 sortS := by
  refine ⟨rfl, ?_⟩
  intro cx S a w sv ss vs K h hk
  unfold sortS at hk
  split at hk
  rotate_left
  · exact hk.elim
  rename_i j f q
  split at hk
  rotate_left
  · exact hk.elim
  rename_i e t xs tyq r hf45 hj hq
  obtain rfl : f = 45 := Nat.eq_of_beq_eq_true hf45
  split at hk
  rotate_left
  · exact hk.elim
  rename_i ht tyr x0 m x2 he3 hteq hr
  obtain rfl : e = 3 := Nat.eq_of_beq_eq_true he3
  subst ht
  split at hk
  rotate_left
  · exact hk.elim
  rename_i kk ag vt ts hm
  split at hk
  rotate_left
  · exact hk.elim
  rename_i _ hkk hvt _ _
  subst hkk
  subst hvt
  obtain ⟨hlen, hk⟩ := hk
  simp only at hlen hk
  obtain ⟨ρ, I, F, hM, hfr, hs, hd⟩ := h
  have hjl := (List.getElem?_eq_some_iff.1 hj).1
  obtain ⟨v, cells, hv, ho, hrd, hF⟩ := hM.holds _ _ hj
  obtain ⟨bq, vq, hbq, hhq, hdq, hFq⟩ := hM.holds _ _ hq
  have hvs : vs = [v, .func (.func 45) #[] #[.pointer (some ⟨bq, 0, none⟩)]] := by
    simp only [SV.denL, SV.den] at hd
    obtain ⟨v1, vs1, rfl, ⟨h1, _⟩, v2, vs2, rfl, ⟨us, rfl, v3, vs3, rfl, ⟨b3, h3, rfl⟩, rfl⟩, rfl⟩ := hd
    rw [hv] at h1; cases h1
    rw [hbq] at h3; cases h3
    rfl
  subst hvs
  have hcs := ints_of xs hrd
  have stay : ∀ (w' : World) (ys : List Int), Row ts xs ys → w.heap.size ≤ w'.heap.size → w'.os = w.os → w'.tape = w.tape → w'.output = w.output → (∀ k, k < w.heap.size → v.ownBlock ≠ some k → w'.heap[k]? = w.heap[k]?) → w'.ownsRow 0 3 i64.sz v ys.length (ys.map (Value.int .i64)) → ∃ v' s S', Ending.returned (Value.tuple #[]) = Ending.returned v' ∧ Ok cx S' a w' sv [s] [v'] ∧ K s S' := by
    intro w' ys hrow hsize hos htape hout hsame hown
    have hsameI : ∀ k, I k → w'.heap[k]? = w.heap[k]? := fun k hk => hsame k (hM.Ilt k hk) (fun e => hM.notI j k hjl ((hF k).2 e) hk)
    have hM' := Mem.change (w' := w') (ρ' := ρ) hM hjl (.row 3 i64 ys) (F j) id rfl hM.ones (fun k hk hnf => hsame k hk (fun e => hnf ((hF k).2 e))) hsize hos htape hout
      (fun k hk => ⟨.inl hk, by have := hM.lt j k hjl hk; omega⟩)
      (fun j' y' hji hy hh => Res.keep (fun _ _ h => h) (fun _ h => h) hsameI (fun k hk => hsame k (hM.lt j' k (List.getElem?_eq_some_iff.1 hy).1 hk) (fun e => hM.apart j' j k (List.getElem?_eq_some_iff.1 hy).1 hjl hji hk ((hF k).2 e))) y' hh)
      ⟨v, _, hv, hown, of_ints ys, hF⟩
    rw [List.map_id] at hM'
    refine ⟨_, .tup [], { S with res := S.res.set j (.row 3 i64 ys) }, rfl, ⟨ρ, I, _, hM', hfr.keep (fun _ _ h => h) (fun _ h => h) hsameI, StkOk.keep (fun _ _ h => h) (fun _ h => h) hsameI _ hs, ?_⟩, hk ys hrow⟩
    unfold SV.denL SV.den
    exact ⟨_, [], rfl, ⟨[], rfl, by simp [SV.denL]⟩, by simp [SV.denL]⟩
  rcases ho.2 with ⟨rfl, hn⟩ | ⟨g, cap, cur, rfl, -, hh, hnc, hcap, hsz, htk⟩
  · have hx : xs = [] := List.eq_nil_of_length_eq_zero hn
    subst hx
    refine (AnyF.slices_SortFunc_none (P := PP) (ρ := Try.sort44_ren) { Try.sort44 with } none 0 _ w).mono ?_
    rintro e w' ⟨rfl, rfl⟩
    exact stay w' [] ⟨List.Perm.refl _, List.Pairwise.nil⟩ (Nat.le_refl _) rfl rfl rfl (fun _ _ _ => rfl) (by have hc : cells = [] := hcs; rw [hc] at ho; exact ho)
  · have hgl : g < w.heap.size := (Array.getElem?_eq_some_iff.1 hh).1
    have hs1 : Ty.sz i64 = 1 := rfl
    rw [hs1, Nat.mul_one] at hsz htk
    have hget : ∀ i, i < xs.length → cur[i]? = some (.int .i64 (xs.toArray[i]!)) := by
      intro i hi
      have h1 : (cur.toList.take xs.length)[i]? = some (.int .i64 xs[i]) := by
        rw [htk, hcs, List.getElem?_map, List.getElem?_eq_getElem hi]; rfl
      rw [List.getElem?_take_of_lt hi] at h1
      rw [← Array.getElem?_toList, h1]
      simp [hi]
    have hH : Sort.Holds (Value.int .i64) w g 0 xs.toArray := by
      intro i hi
      have hi : i < xs.length := by simpa using hi
      refine ⟨?_, ?_⟩
      · simp only [World.cell?, hh, Nat.zero_add]
        exact hget i hi
      · simp [World.frozen?, hh]
    have hheap : ∀ (n : Nat) (dk : Array Int) (os : Array Obj) k, k < w.heap.size → (sortWorld (Value.int .i64) w g 0 n dk os).heap[k]? = if k = g then some (.cells (putCells (Value.int .i64) 0 dk cur) 3 (0, 0)) else w.heap[k]? := by
      intro n dk os k hk
      simp only [sortWorld, grow, putRow, mapBlock, Sort.ahead]
      rw [Array.getElem?_append_left (by simpa using hk), Array.getElem?_modify]
      by_cases e : g = k
      · subst e; rw [if_pos rfl, if_pos rfl, hh]; rfl
      · rw [if_neg e, if_neg (fun h => e h.symm)]
    have hsize : ∀ (n : Nat) (dk : Array Int) (os : Array Obj), w.heap.size ≤ (sortWorld (Value.int .i64) w g 0 n dk os).heap.size := by
      intro n dk os
      simp [sortWorld, grow, putRow, mapBlock, Sort.ahead]
    have hFg : ∀ k, F j k ↔ g = k := fun k => by rw [hF k]; simp [Value.ownBlock]
    have hcmp : CmpLays1 PP 45 #[.pointer (some ⟨bq, 0, none⟩)] (Value.int .i64) (lessOf ts) g 0 xs.toArray.size w := by
      intro n os dk hdk x y
      -- what is read, in that world
      have hsame : ∀ k, k < w.heap.size → ¬ F j k → (sortWorld (Value.int .i64) w g 0 n dk os).heap[k]? = w.heap[k]? := fun k hk hnf => by
        rw [hheap n dk os k hk, if_neg (fun e => hnf ((hFg k).2 e.symm))]
      have hsameI : ∀ k, I k → (sortWorld (Value.int .i64) w g 0 n dk os).heap[k]? = w.heap[k]? := fun k hk => hsame k (hM.Ilt k hk) (fun e => hM.notI j k hjl e hk)
      have hM' := Mem.change (w' := sortWorld (Value.int .i64) w g 0 n dk os) (ρ' := ρ) hM hjl .gone (fun _ => False) id rfl hM.ones hsame (hsize n dk os) rfl rfl rfl (fun k hk => hk.elim)
        (fun j' y' hji hy hh => Res.keep (fun _ _ h => h) (fun _ h => h) hsameI (fun k hk => hsame k (hM.lt j' k (List.getElem?_eq_some_iff.1 hy).1 hk) (fun e => hM.apart j' j k (List.getElem?_eq_some_iff.1 hy).1 hjl hji hk e)) y' hh) (fun k hk => hk)
      rw [List.map_id] at hM'
      have hne : ∀ (i : Nat) (x : Res), S.res[i]? = some x → (∀ e t ys, x ≠ .row e t ys) → (S.res.set j .gone)[i]? = some x := fun i x hi hx => by
        rw [List.getElem?_set_ne (fun e => by subst e; rw [hj] at hi; cases hi; exact hx _ _ _ rfl)]; exact hi
      have g1 := hne q _ hq (fun _ _ _ h => by cases h)
      have g2 := hne r _ hr (fun _ _ _ h => by cases h)
      have g3 := hne m _ hm (fun _ _ _ h => by cases h)
      have n1 : q ≠ r := fun e => by subst e; rw [hq] at hr; cases hr
      have n2 : q ≠ m := fun e => by subst e; rw [hq] at hm; cases hm
      have n3 : r ≠ m := fun e => by subst e; rw [hr] at hm; cases hm
      have hnd : [q, r, m].Nodup := by simp [n1, n2, n3]
      obtain ⟨hM2, hto⟩ := Mem.perm (S := { S with res := S.res.set j .gone }) (js := [q, r, m]) hnd (by
        intro k hk
        simp only [List.mem_cons, List.not_mem_nil, or_false] at hk
        rcases hk with rfl | rfl | rfl
        · exact ⟨_, g1, rfl⟩
        · exact ⟨_, g2, rfl⟩
        · exact ⟨_, g3, rfl⟩) hM'
      have p1 : permG [q, r, m] r = some 1 := posOf_at hnd (i := 1) rfl
      have p2 : permG [q, r, m] m = some 2 := posOf_at hnd (i := 2) rfl
      have p0 : permG [q, r, m] q = some 0 := posOf_at hnd (i := 0) rfl
      simp only [List.map_cons, List.map_nil, g1, g2, g3, Option.getD_some, Res.tr, SV.trL, SV.tr, p1, p2] at hM2
      have h0 : Ok cx (cmpS tyq tyr (SV.tr (permG [q, r, m]) x0) (SV.tr (permG [q, r, m]) x2) ts) ⟨#[], []⟩ (sortWorld (Value.int .i64) w g 0 n dk os) [] [.int .i64 x, .int .i64 y, .ptr 0 0] [.int .i64 x, .int .i64 y, .pointer (some ⟨bq, 0, none⟩)] := by
        refine ⟨_, I, _, hM2, ⟨rfl, fun t => by simp [cmpS, getT, SV.den], rfl⟩, rfl, ?_⟩
        simp only [SV.denL, SV.den]
        refine ⟨_, _, rfl, rfl, _, _, rfl, rfl, _, _, rfl, ⟨bq, ?_, rfl⟩, rfl⟩
        rw [hbq]; rfl
      refine (read_fn (P := PP) cmp_exact mixed (fn := Try.f45) (c := c45) rfl rfl h0 (show (3 : Nat) ≤ 21 by decide) (s := .int .i64 (lessOf ts x y)) (cast (less_vc x y tyq tyr _ _ ts).symm ⟨rfl, rfl⟩)).mono ?_
      rintro e w' ⟨u, rfl, ⟨k, rfl⟩, ρ2, I2, hu⟩
      unfold SV.den at hu
      exact ⟨by rw [hu], k, #[], by rw [grow_empty]⟩
    refine (Any.slices_SortFunc Try.sort44 (Value.int .i64) (fun _ => rfl) (lessOf ts) (less_swo ts) 45 #[.pointer (some ⟨bq, 0, none⟩)] g 0 cap xs.toArray w (enters_of Try.func45 (by kernel_rfl) rfl) hcmp hH hgl (by simpa using hlen)).mono ?_
    rintro e w' ⟨rfl, d', n, os, hp, hso, rfl⟩
    have hd' : d'.toList.length = xs.length := by have := hp.1; simpa using this
    refine stay _ d'.toList (by have := row_of hp hso; simpa using this) (hsize n d' os) rfl rfl rfl (fun k hk hne => by rw [hheap n d' os k hk, if_neg (fun e => hne (by rw [e]; rfl))]) ⟨by rw [List.length_map, hs1, Nat.mul_one], .inr ⟨g, cap, putCells (Value.int .i64) 0 d' cur, by rw [hd'], Nat.zero_le _, ?_, by rw [hd']; exact hnc, hcap, ?_, ?_⟩⟩
    · rw [hheap n d' os g hgl, if_pos rfl]
    · rw [hs1, Nat.mul_one]; simp [putCells, hsz]
    · rw [hs1, Nat.mul_one, hd']
      apply List.ext_getElem?
      intro i
      have hd2 : d'.size = xs.length := by simpa using hd'
      by_cases hi : i < xs.length
      · rw [List.getElem?_take_of_lt hi, Array.getElem?_toList]
        simp only [putCells, Array.getElem?_mapIdx, hget i hi, Option.map_some]
        rw [if_pos ⟨Nat.zero_le _, by omega⟩, List.getElem?_map, List.getElem?_eq_getElem (by omega)]
        simp [hd2, hi]
      · rw [List.getElem?_eq_none (by simp; omega), List.getElem?_eq_none (by simp; omega)]
end Go.Proofs.Ytfdcmbaoekjkgaa
namespace Go.Proofs.Ytfdcmbaoekjkgaa
open Go.Proofs.Ytfdcmbaoekjkgaa.Gx
set_option maxRecDepth 100000
set_option linter.unusedVariables false
set_option maxHeartbeats 0
def thoseLoop (p : Int × Int → Bool) : List (Nat × (St → Option LoopSpec)) :=
  [(5, fun (S : St) => match getT S.fr.tm 14 with
      | .ptr jt _ => match S.res[jt]? with
        | some (.mit mi) => match S.res[mi]? with
          | some (.mapr .i64 true (.pair (.pair (.int .i64) (.int .i64)) (.int .i64)) ts (some _)) => some { α := Option Int × List Int × List Int, inv := fun x => List.Perm (x.2.2 ++ x.2.1.filter fun k => p (tkOf ts k).1) (keysAt ts p) ∧ ∀ k ∈ x.2.1, k ∈ ts.map (·.1), ov := fun _ => [(5, .row S.res.length)], rov := fun x => [(mi, .mapr .i64 true tkT ts (some (jt, x.1, x.2.1))), (S.res.length, .row 0 i64 x.2.2)], meas := fun x => x.2.1.length, nil := [(.slot 5, 3, i64)] }
          | _ => none
        | _ => none
      | _ => none)]
noncomputable def s44 : Sv PP := ⟨44, sortS, sort_ok⟩
noncomputable def s28 : Sv PP := ⟨28, inl PP e0 Try.f28 c28, ⟨rfl, inl_ok (env_ok ..) rfl mixed rfl rfl⟩⟩
noncomputable def s33 : Sv PP := ⟨33, inl PP e0 Try.f33 c33, ⟨rfl, inl_ok (env_ok ..) rfl mixed rfl rfl⟩⟩
noncomputable def s27 (p : Int × Int → Bool) : Sv PP := ⟨27, inl PP (env PP [] [s28, s33, s44] [] [] (thoseLoop p)) Try.f27 c27, ⟨rfl, inl_ok (env_ok ..) rfl mixed rfl rfl⟩⟩
theorem list_vc (R : Rm) (seg off : Int) (y : RmIn) : (fvc PP (env PP [] [s27 (atP seg off)] [] [] []) Try.f13 c13 (listC.U.ss ((R, seg, off), y)) (St1 (listC.U.Rs ((R, seg, off), y))) (fun r S => Fin.frz.T r S fun r S => altsOk 4 ((R, seg, off), y) r S listC.U.alts)) = (
  ∃ (x0 : Option Int × List Int × List Int), ((x0.snd.snd ++ List.filter (fun (k : Int) => atP seg off (tkOf y.ts k).fst) x0.snd.fst).Perm (keysAt y.ts (atP seg off)) ∧ ∀ (k : Int), List.Mem k x0.snd.fst → List.Mem k 
  (List.map (fun (x : Int × (Int × Int) × Int) => x.fst) y.ts)) ∧ ((((True ∧ True ∧ True) ∧ True ∧ SV.val (Value.slice none (0 : Nat) (0 : Nat)) = SV.val (Value.slice none (0 : Nat) (0 : Nat)) ∧ True ∧ True ∧ True ∧ seg 
  = seg ∧ off = off ∧ True) ∧ (True ∧ True ∧ True ∧ True ∧ True) ∧ True) ∧ (True ∧ True ∧ false = false ∧ SV.val (Value.slice none (0 : Nat) (0 : Nat)) = SV.val (Value.slice none (0 : Nat) (0 : Nat)) ∧ True ∧ True ∧ 
  (True ∧ True ∧ True) ∧ True) ∧ (y.la = y.la ∧ True ∧ True ∧ True) ∧ (y.ts = y.ts ∧ none = x0.fst ∧ List.map (fun (x : Int × (Int × Int) × Int) => x.fst) y.ts = x0.snd.fst) ∧ (y.hs = y.hs ∧ True) ∧ y.os = y.os ∧ (seg = 
  seg ∧ True) ∧ (off = off ∧ True) ∧ (True ∧ True) ∧ True ∧ [] = x0.snd.snd ∧ True) ∧ ∀ (x : Option Int × List Int × List Int), ((x.snd.snd ++ List.filter (fun (k : Int) => atP seg off (tkOf y.ts k).fst) x.snd.fst).Perm 
  (keysAt y.ts (atP seg off)) ∧ ∀ (k : Int), List.Mem k x.snd.fst → List.Mem k (List.map (fun (x : Int × (Int × Int) × Int) => x.fst) y.ts)) → (x.snd.fst = [] → x.snd.snd.length < (4611686018427387904 : Nat) ∧ ∀ (ys : 
  List Int), Row y.ts x.snd.snd ys → ∃ (y_1 : List Int × Tup KR (1 : Nat)), (Row (tks R) (keysAt (tks R) (atP seg off)) y_1.fst ∧ RmRel R y_1.snd.fst ∧ True) ∧ ys = y_1.fst ∧ ((y.la = y_1.snd.fst.la ∧ True ∧ True ∧ True) 
  ∧ (y.ts = y_1.snd.fst.ts ∧ True) ∧ (y.hs = y_1.snd.fst.hs ∧ True) ∧ y.os = y_1.snd.fst.os ∧ True) ∧ (True ∧ True ∧ True ∧ True ∧ True) ∧ True) ∧ ∀ (n : Nat) (key : Int), x.snd.fst[n]? = some key → ∀ (y_1 : (Int × Int) 
  × Int), lookL y.ts key = some y_1 → ((y_1.fst.fst == seg && (y_1.fst.snd == off && true)) = true → (x.snd.snd.length + [key].length) * (8 : Nat) ≤ (140737488355328 : Nat) ∧ ∃ (x' : Option Int × List Int × List Int), 
  ((x'.snd.snd ++ List.filter (fun (k : Int) => atP seg off (tkOf y.ts k).fst) x'.snd.fst).Perm (keysAt y.ts (atP seg off)) ∧ ∀ (k : Int), List.Mem k x'.snd.fst → List.Mem k (List.map (fun (x : Int × (Int × Int) × Int) 
  => x.fst) y.ts)) ∧ x'.snd.fst.length < x.snd.fst.length ∧ (((True ∧ True ∧ True) ∧ True ∧ SV.val (Value.slice none (0 : Nat) (0 : Nat)) = SV.val (Value.slice none (0 : Nat) (0 : Nat)) ∧ True ∧ True ∧ True ∧ seg = seg ∧ 
  off = off ∧ True) ∧ (True ∧ True ∧ True ∧ True ∧ True) ∧ True) ∧ (True ∧ True ∧ false = false ∧ SV.val (Value.slice none (0 : Nat) (0 : Nat)) = SV.val (Value.slice none (0 : Nat) (0 : Nat)) ∧ True ∧ True ∧ (True ∧ True 
  ∧ True) ∧ True) ∧ (y.la = y.la ∧ True ∧ True ∧ True) ∧ (y.ts = y.ts ∧ some key = x'.fst ∧ x.snd.fst.eraseIdx n = x'.snd.fst) ∧ (y.hs = y.hs ∧ True) ∧ y.os = y.os ∧ (seg = seg ∧ True) ∧ (off = off ∧ True) ∧ (True ∧ 
  True) ∧ True ∧ x.snd.snd ++ [key] = x'.snd.snd ∧ True) ∧ ((y_1.fst.fst == seg && (y_1.fst.snd == off && true)) = false → ∃ (x' : Option Int × List Int × List Int), ((x'.snd.snd ++ List.filter (fun (k : Int) => atP seg 
  off (tkOf y.ts k).fst) x'.snd.fst).Perm (keysAt y.ts (atP seg off)) ∧ ∀ (k : Int), List.Mem k x'.snd.fst → List.Mem k (List.map (fun (x : Int × (Int × Int) × Int) => x.fst) y.ts)) ∧ x'.snd.fst.length < x.snd.fst.length 
  ∧ (((True ∧ True ∧ True) ∧ True ∧ SV.val (Value.slice none (0 : Nat) (0 : Nat)) = SV.val (Value.slice none (0 : Nat) (0 : Nat)) ∧ True ∧ True ∧ True ∧ seg = seg ∧ off = off ∧ True) ∧ (True ∧ True ∧ True ∧ True ∧ True) 
  ∧ True) ∧ (True ∧ True ∧ false = false ∧ SV.val (Value.slice none (0 : Nat) (0 : Nat)) = SV.val (Value.slice none (0 : Nat) (0 : Nat)) ∧ True ∧ True ∧ (True ∧ True ∧ True) ∧ True) ∧ (y.la = y.la ∧ True ∧ True ∧ True) ∧ 
  (y.ts = y.ts ∧ some key = x'.fst ∧ x.snd.fst.eraseIdx n = x'.snd.fst) ∧ (y.hs = y.hs ∧ True) ∧ y.os = y.os ∧ (seg = seg ∧ True) ∧ (off = off ∧ True) ∧ (True ∧ True) ∧ True ∧ x.snd.snd = x'.snd.snd ∧ True)) := by kernel_rfl
def freeLoop (y : RmIn) (l : List Int) : List (Nat × (St → Option LoopSpec)) :=
  [(2, fun _ => some { α := Nat, inv := fun i => i ≤ l.length, ov := fun i => [(9, .int .i64 (i : Int))], rov := fun i => [(1, .mapr .i64 true tkT (delAll y.ts (l.take i)) none)], meas := fun i => l.length - i })]
theorem free_vc (R : Rm) (l : List Int) (y : RmIn) : (fvc PP (eL (freeLoop y l)) Try.f29 c29 (freeC.U.ss ((R, l), y)) (St1 (freeC.U.Rs ((R, l), y))) (fun r S => altsOk 4 ((R, l), y) r S freeC.U.alts)) = (
  l.length ≤ maxLen → ∃ (x0 : Nat), x0.le l.length ∧ (((True ∧ True ∧ True ∧ True ∧ True) ∧ True) ∧ ((0 : Int) = (↑x0 : Int) ∧ (↑l.length : Int) = (↑l.length : Int) ∧ l = l ∧ SV.val (Value.slice none (0 : Nat) (0 : Nat)) 
  = SV.val (Value.slice none (0 : Nat) (0 : Nat)) ∧ True ∧ l = l ∧ True) ∧ (y.la = y.la ∧ True ∧ True ∧ True) ∧ (y.ts = delAll y.ts (List.take x0 l) ∧ True) ∧ (y.hs = y.hs ∧ True) ∧ y.os = y.os ∧ True) ∧ ∀ (x : Nat), 
  x.le l.length → (decide ((↑x : Int) < (↑l.length : Int)) = true → ((0 : Int) ≤ (↑x : Int) ∧ (↑x : Int) < (↑l.length : Int)) ∧ ∀ (y_1 : Int), l[(↑x : Int).toNat]? = some y_1 → ∃ (x' : Nat), x'.le l.length ∧ l.length - 
  x' < l.length - x ∧ ((True ∧ True ∧ True ∧ True ∧ True) ∧ True) ∧ (IntKind.i64.wrap ((↑x : Int) + (1 : Int)) = (↑x' : Int) ∧ (↑l.length : Int) = (↑l.length : Int) ∧ l = l ∧ SV.val (Value.slice none (0 : Nat) (0 : Nat)) 
  = SV.val (Value.slice none (0 : Nat) (0 : Nat)) ∧ True ∧ l = l ∧ True) ∧ (y.la = y.la ∧ True ∧ True ∧ True) ∧ (delL (delAll y.ts (List.take x l)) y_1 = delAll y.ts (List.take x' l) ∧ True) ∧ (y.hs = y.hs ∧ True) ∧ y.os 
  = y.os ∧ True) ∧ (decide ((↑x : Int) < (↑l.length : Int)) = false → ∃ (y_1 : Unit × Tup KR (1 : Nat)), (True ∧ RmRel (last R, delAll (tks R) l, als R) y_1.snd.fst ∧ True) ∧ l = l ∧ ((y.la = y_1.snd.fst.la ∧ True ∧ True 
  ∧ True) ∧ (delAll y.ts (List.take x l) = y_1.snd.fst.ts ∧ True) ∧ (y.hs = y_1.snd.fst.hs ∧ True) ∧ y.os = y_1.snd.fst.os ∧ True) ∧ (True ∧ True ∧ True ∧ True ∧ True) ∧ True)) := by kernel_rfl
end Go.Proofs.Ytfdcmbaoekjkgaa
namespace Go.Proofs.Ytfdcmbaoekjkgaa
open Go.Proofs.Ytfdcmbaoekjkgaa.Gx
set_option maxRecDepth 100000
set_option maxHeartbeats 4000000
set_option linter.unusedSimpArgs false
set_option linter.unusedVariables false
theorem erase_perm : {l : List Int} → {n : Nat} → {k : Int} → l[n]? = some k → (k :: l.eraseIdx n).Perm l
  | [], _, _, h => by simp at h
  | x :: l, 0, k, h => by simp at h; subst h; exact List.Perm.refl _
  | x :: l, n + 1, k, h => by
    have := erase_perm (l := l) (n := n) (by simpa using h)
    simp only [List.eraseIdx_cons_succ]
    exact (List.Perm.swap x k _).trans (this.cons x)
/-- A key is gone over. -/
theorem perm_yes {P : Int → Bool} {got left ks : List Int} {n : Nat} {key : Int} (h : (got ++ left.filter P).Perm ks) (hk : left[n]? = some key) (hp : P key = true) : ((got ++ [key]) ++ (left.eraseIdx n).filter P).Perm ks := by
  refine List.Perm.trans ?_ h
  rw [List.append_assoc]
  refine List.Perm.append_left got ?_
  have := (erase_perm hk).filter P
  rw [List.filter_cons, if_pos hp] at this
  simpa using this
theorem perm_no {P : Int → Bool} {got left ks : List Int} {n : Nat} {key : Int} (h : (got ++ left.filter P).Perm ks) (hk : left[n]? = some key) (hp : P key = false) : (got ++ (left.eraseIdx n).filter P).Perm ks := by
  refine List.Perm.trans ?_ h
  refine List.Perm.append_left got ?_
  have := (erase_perm hk).filter P
  rw [List.filter_cons, if_neg (by simp [hp])] at this
  exact this
theorem one_wfp {α : Type} {inn : α → rmT.den} {ss : α → List SV} {p : α → Int × Int → Bool} : ∀ A ∈ (those α inn ss p).alts, ∀ x y, SV.wf (A.outs x y).length (A.r x y) = true ∧ 1 ≤ (A.outs x y).length := by
  intro A hA
  obtain rfl := List.mem_singleton.1 hA
  exact fun x y => ⟨rfl, Nat.le_refl 1⟩
/-- The round over all that wait. -/
theorem those_law {R : Rm} {y : RmIn} {p : Int × Int → Bool} (hrel : RmRel R y) (hfew : fewT R) {G : List Int → Prop} (hG : ∀ ys, Row y.ts (keysAt y.ts p) ys → G ys) :
    ∃ (x0 : Option Int × List Int × List Int),
      ((x0.2.2 ++ List.filter (fun (k : Int) => p (tkOf y.ts k).fst) x0.2.1).Perm (keysAt y.ts p) ∧ ∀ (k : Int), List.Mem k x0.2.1 → List.Mem k (List.map (fun (x : Int × (Int × Int) × Int) => x.fst) y.ts)) ∧
        ((none = x0.1 ∧ List.map (fun (x : Int × (Int × Int) × Int) => x.fst) y.ts = x0.2.1) ∧ [] = x0.2.2) ∧
        ∀ (x : Option Int × List Int × List Int),
          ((x.2.2 ++ List.filter (fun (k : Int) => p (tkOf y.ts k).fst) x.2.1).Perm (keysAt y.ts p) ∧ ∀ (k : Int), List.Mem k x.2.1 → List.Mem k (List.map (fun (x : Int × (Int × Int) × Int) => x.fst) y.ts)) →
            (x.2.1 = [] → x.2.2.length < 4611686018427387904 ∧ ∀ (ys : List Int), Row y.ts x.2.2 ys → G ys) ∧
              ∀ (n : Nat) (key : Int), x.2.1[n]? = some key → ∀ (z : (Int × Int) × Int), lookL y.ts key = some z →
                (p z.1 = true → (x.2.2.length + [key].length) * 8 ≤ 140737488355328 ∧ ∃ (x' : Option Int × List Int × List Int),
                  ((x'.2.2 ++ List.filter (fun (k : Int) => p (tkOf y.ts k).fst) x'.2.1).Perm (keysAt y.ts p) ∧ ∀ (k : Int), List.Mem k x'.2.1 → List.Mem k (List.map (fun (x : Int × (Int × Int) × Int) => x.fst) y.ts)) ∧
                    x'.2.1.length < x.2.1.length ∧ (some key = x'.1 ∧ x.2.1.eraseIdx n = x'.2.1) ∧ x.2.2 ++ [key] = x'.2.2) ∧
                (p z.1 = false → ∃ (x' : Option Int × List Int × List Int),
                  ((x'.2.2 ++ List.filter (fun (k : Int) => p (tkOf y.ts k).fst) x'.2.1).Perm (keysAt y.ts p) ∧ ∀ (k : Int), List.Mem k x'.2.1 → List.Mem k (List.map (fun (x : Int × (Int × Int) × Int) => x.fst) y.ts)) ∧
                    x'.2.1.length < x.2.1.length ∧ (some key = x'.1 ∧ x.2.1.eraseIdx n = x'.2.1) ∧ x.2.2 = x'.2.2) := by
  have hlen : (keysAt y.ts p).length ≤ 1000000000000 := by
    have h1 : (keysAt y.ts p).length ≤ y.ts.length := by
      unfold keysAt
      exact Nat.le_trans (List.length_filter_le _ _) (by simp)
    have h2 : (tks R).length ≤ 1000000000000 := hfew
    rw [hrel.ts] at h2
    omega
  refine ⟨(none, y.ts.map (·.1), []), ⟨by simp [keysAt], fun k hk => hk⟩, ⟨⟨rfl, rfl⟩, rfl⟩, ?_⟩
  rintro ⟨cur, left, got⟩ ⟨hperm, hsub⟩
  simp only at hperm hsub ⊢
  have hgl : got.length + (left.filter fun k => p (tkOf y.ts k).1).length = (keysAt y.ts p).length := by
    have := hperm.length_eq
    simpa using this
  refine ⟨fun hl => ⟨by omega, fun ys hy => ?_⟩, fun n key hk z hz => ?_⟩
  · subst hl
    rw [List.filter_nil, List.append_nil] at hperm
    exact hG ys ⟨hy.perm.trans hperm, hy.sorted⟩
  · have hn := (List.getElem?_eq_some_iff.1 hk).1
    have htk : tkOf y.ts key = z := by simp [tkOf, hz]
    have hless : (left.eraseIdx n).length < left.length := by rw [List.length_eraseIdx_of_lt hn]; omega
    have hsub' : ∀ k, List.Mem k (left.eraseIdx n) → List.Mem k (y.ts.map (·.1)) := fun k hm => hsub k ((List.eraseIdx_sublist left n).subset hm)
    refine ⟨fun hp => ?_, fun hp => ⟨(some key, left.eraseIdx n, got), ⟨perm_no hperm hk (by rw [htk]; exact hp), hsub'⟩, hless, ⟨rfl, rfl⟩, rfl⟩⟩
    have h1 := perm_yes hperm hk (P := fun k => p (tkOf y.ts k).1) (by show p (tkOf y.ts key).1 = true; rw [htk]; exact hp)
    have h2 := h1.length_eq
    refine ⟨?_, (some key, left.eraseIdx n, got ++ [key]), ⟨h1, hsub'⟩, hless, ⟨rfl, rfl⟩, rfl⟩
    simp only [List.length_append, List.length_cons, List.length_nil] at h2 ⊢
    omega
theorem list_ok : listC.H.ok PP 13 := by
  refine listC.ok_of one_wfp ?_
  refine hc_ofP Fin.frz mixed (fn := Try.f13) (c := c13) rfl rfl listC.U (fun x => rfl) ?_
  rintro ⟨⟨R, seg, off⟩, (y : RmIn)⟩ ⟨hfew, hrel⟩
  have hrel : RmRel R y := hrel
  have hfew : fewT R := hfew
  refine ⟨env PP [] [s27 (atP seg off)] [] [] [], env_ok .., rfl, hold (list_vc R seg off y) ?_⟩
  simp only [true_and, and_true, Bool.and_true]
  refine those_law (p := atP seg off) hrel hfew (fun ys hy => ⟨(ys, y, ()), ⟨by rw [hrel.ts]; exact hy, hrel⟩, rfl, rfl, rfl, rfl, rfl⟩)
theorem delAll_take {l : List Int} {i : Nat} {x : Int} (ts : List (Int × Tk)) (h : l[i]? = some x) : delL (delAll ts (l.take i)) x = delAll ts (l.take (i + 1)) := by
  rw [take_snoc h, delAll, delAll, List.foldl_append]; rfl
theorem delAll_sub (l : List Int) : ∀ ts, (delAll ts l).Sublist ts := by
  induction l with
  | nil => exact fun ts => List.Sublist.refl _
  | cons x l ih => exact fun ts => (ih (delL ts x)).trans (delL_sub ts x)
theorem free_ok : freeC.H.ok PP 29 := by
  refine freeC.ok_of (one_wf fun _ => rfl) ?_
  refine hc_of mixed (fn := Try.f29) (c := c29) rfl rfl freeC.U (fun x => rfl) ?_
  rintro ⟨⟨R, l⟩, (y : RmIn)⟩ ⟨-, hrel⟩
  have hrel : RmRel R y := hrel
  refine ⟨eL (freeLoop y l), env_ok .., rfl, hold (free_vc R l y) ?_⟩
  simp only [true_and, and_true, toNat_cast]
  intro hA
  refine ⟨0, Nat.zero_le _, ⟨rfl, by simp [delAll]⟩, fun i hi => ⟨fun hlt => ?_, fun hge => ?_⟩⟩
  · have hlt : i < l.length := by simp at hlt; omega
    exact ⟨⟨by omega, by omega⟩, fun x hx => ⟨i + 1, hlt, by omega, wrap_succ hlt hA, delAll_take _ hx⟩⟩
  · have hi : i ≤ l.length := hi
    have hie : i = l.length := by simp at hge; omega
    subst hie
    rw [List.take_length]
    refine ⟨((), ⟨y.la, delAll y.ts l, y.hs, y.os⟩, ()), ?_, rfl, rfl, rfl, rfl⟩
    have := rel_tk hrel (la := y.la) (ts := delAll y.ts l) (List.Nodup.sublist ((delAll_sub l y.ts).map _) hrel.tkeys)
    rw [hrel.la, hrel.ts]; exact this
end Go.Proofs.Ytfdcmbaoekjkgaa
namespace Go.Proofs.Ytfdcmbaoekjkgaa
open Go.Proofs.Ytfdcmbaoekjkgaa.Gx
set_option maxRecDepth 100000
set_option linter.unusedVariables false
set_option maxHeartbeats 0
def freeLp (ts : List (Int × Tk)) (l : List Int) : LoopSpec := { α := Nat, inv := fun i => i ≤ l.length, ov := fun i => [(9, .int .i64 (i : Int))], rov := fun i => [(1, .mapr .i64 true tkT (delAll ts (l.take i)) none)], meas := fun i => l.length - i }
def freeLoopS : List (Nat × (St → Option LoopSpec)) :=
  [(2, fun (S : St) => match getT S.fr.tm 7 with
    | .row j => match S.res[j]? with
      | some (.row _ (.int .i64) xs) => match S.res[(1 : Nat)]? with
        | some (.mapr .i64 true (.pair (.pair (.int .i64) (.int .i64)) (.int .i64)) ts none) => some (freeLp ts xs)
        | _ => none
      | _ => none
    | _ => none)]
noncomputable def s29 : Sv PP := ⟨29, inl PP (eL freeLoopS) Try.f29 c29, ⟨rfl, inl_ok (env_ok ..) rfl mixed rfl rfl⟩⟩
noncomputable def s13 (p : Int × Int → Bool) : Sv PP := ⟨13, inl PP (env PP [] [s27 p] [] [] []) Try.f13 c13, ⟨rfl, inl_ok (env_ok ..) rfl mixed rfl rfl⟩⟩
theorem wake_vc (R : Rm) (seg off : Int) (y : RmIn) : (fvc PP (env PP [] [s13 (atP seg off), s29] [] [] []) Try.f14 c14 (wakeC.U.ss ((R, seg, off), y)) (St1 (wakeC.U.Rs ((R, seg, off), y))) (fun r S => Fin.frz.T r S fun r S => altsOk 4 ((R, seg, off), y) r S wakeC.U.alts)) = (
  ∃ (x0 : Option Int × List Int × List Int), ((x0.snd.snd ++ List.filter (fun (k : Int) => atP seg off (tkOf y.ts k).fst) x0.snd.fst).Perm (keysAt y.ts (atP seg off)) ∧ ∀ (k : Int), List.Mem k x0.snd.fst → List.Mem k 
  (List.map (fun (x : Int × (Int × Int) × Int) => x.fst) y.ts)) ∧ ((((True ∧ True ∧ True) ∧ True ∧ SV.val (Value.slice none (0 : Nat) (0 : Nat)) = SV.val (Value.slice none (0 : Nat) (0 : Nat)) ∧ True ∧ True ∧ True ∧ seg 
  = seg ∧ off = off ∧ True) ∧ (off = off ∧ seg = seg ∧ True ∧ True ∧ SV.val (Value.slice none (0 : Nat) (0 : Nat)) = SV.val (Value.slice none (0 : Nat) (0 : Nat)) ∧ True ∧ seg = seg ∧ off = off ∧ True) ∧ (True ∧ True ∧ 
  True ∧ True ∧ True) ∧ True) ∧ (True ∧ True ∧ false = false ∧ SV.val (Value.slice none (0 : Nat) (0 : Nat)) = SV.val (Value.slice none (0 : Nat) (0 : Nat)) ∧ True ∧ True ∧ (True ∧ True ∧ True) ∧ True) ∧ (y.la = y.la ∧ 
  True ∧ True ∧ True) ∧ (y.ts = y.ts ∧ none = x0.fst ∧ List.map (fun (x : Int × (Int × Int) × Int) => x.fst) y.ts = x0.snd.fst) ∧ (y.hs = y.hs ∧ True) ∧ y.os = y.os ∧ (seg = seg ∧ True) ∧ (off = off ∧ True) ∧ (True ∧ 
  True) ∧ True ∧ [] = x0.snd.snd ∧ True) ∧ ∀ (x : Option Int × List Int × List Int), ((x.snd.snd ++ List.filter (fun (k : Int) => atP seg off (tkOf y.ts k).fst) x.snd.fst).Perm (keysAt y.ts (atP seg off)) ∧ ∀ (k : Int), 
  List.Mem k x.snd.fst → List.Mem k (List.map (fun (x : Int × (Int × Int) × Int) => x.fst) y.ts)) → (x.snd.fst = [] → x.snd.snd.length < (4611686018427387904 : Nat) ∧ ∀ (ys : List Int), Row y.ts x.snd.snd ys → ys.length 
  ≤ maxLen → ∃ (x0 : Nat), x0.le ys.length ∧ (((True ∧ off = off ∧ seg = seg ∧ True ∧ True ∧ SV.val (Value.slice none (0 : Nat) (0 : Nat)) = SV.val (Value.slice none (0 : Nat) (0 : Nat)) ∧ True ∧ seg = seg ∧ off = off ∧ 
  True) ∧ (True ∧ True ∧ True ∧ True ∧ True) ∧ True) ∧ ((0 : Int) = (↑x0 : Int) ∧ (↑ys.length : Int) = (↑ys.length : Int) ∧ True ∧ SV.val (Value.slice none (0 : Nat) (0 : Nat)) = SV.val (Value.slice none (0 : Nat) (0 : 
  Nat)) ∧ True ∧ True ∧ True) ∧ (y.la = y.la ∧ True ∧ True ∧ True) ∧ (y.ts = delAll y.ts (List.take x0 ys) ∧ True) ∧ (y.hs = y.hs ∧ True) ∧ y.os = y.os ∧ (seg = seg ∧ True) ∧ (off = off ∧ True) ∧ (True ∧ True) ∧ True ∧ 
  ys = ys ∧ True) ∧ ∀ (x : Nat), x.le ys.length → (decide ((↑x : Int) < (↑ys.length : Int)) = true → ((0 : Int) ≤ (↑x : Int) ∧ (↑x : Int) < (↑ys.length : Int)) ∧ (↑x : Int).toNat < ys.length ∧ ∀ (y_1 : Int), ys[(↑x : 
  Int).toNat]? = some y_1 → ∃ (x' : Nat), x'.le ys.length ∧ ys.length - x' < ys.length - x ∧ ((True ∧ off = off ∧ seg = seg ∧ True ∧ True ∧ SV.val (Value.slice none (0 : Nat) (0 : Nat)) = SV.val (Value.slice none (0 : 
  Nat) (0 : Nat)) ∧ True ∧ seg = seg ∧ off = off ∧ True) ∧ (True ∧ True ∧ True ∧ True ∧ True) ∧ True) ∧ (IntKind.i64.wrap ((↑x : Int) + (1 : Int)) = (↑x' : Int) ∧ (↑ys.length : Int) = (↑ys.length : Int) ∧ True ∧ SV.val 
  (Value.slice none (0 : Nat) (0 : Nat)) = SV.val (Value.slice none (0 : Nat) (0 : Nat)) ∧ True ∧ True ∧ True) ∧ (y.la = y.la ∧ True ∧ True ∧ True) ∧ (delL (delAll y.ts (List.take x ys)) y_1 = delAll y.ts (List.take x' 
  ys) ∧ True) ∧ (y.hs = y.hs ∧ True) ∧ y.os = y.os ∧ (seg = seg ∧ True) ∧ (off = off ∧ True) ∧ (True ∧ True) ∧ True ∧ ys = ys ∧ True) ∧ (decide ((↑x : Int) < (↑ys.length : Int)) = false → ∃ (y_1 : List Int × Tup KR (1 : 
  Nat)), (Row (tks R) (keysAt (tks R) (atP seg off)) y_1.fst ∧ RmRel (last R, delAll (tks R) y_1.fst, als R) y_1.snd.fst ∧ True) ∧ ys = y_1.fst ∧ ((y.la = y_1.snd.fst.la ∧ True ∧ True ∧ True) ∧ (delAll y.ts (List.take x 
  ys) = y_1.snd.fst.ts ∧ True) ∧ (y.hs = y_1.snd.fst.hs ∧ True) ∧ y.os = y_1.snd.fst.os ∧ True) ∧ (True ∧ True ∧ True ∧ True ∧ True) ∧ True)) ∧ ∀ (n : Nat) (key : Int), x.snd.fst[n]? = some key → ∀ (y_1 : (Int × Int) × 
  Int), lookL y.ts key = some y_1 → ((y_1.fst.fst == seg && (y_1.fst.snd == off && true)) = true → (x.snd.snd.length + [key].length) * (8 : Nat) ≤ (140737488355328 : Nat) ∧ ∃ (x' : Option Int × List Int × List Int), 
  ((x'.snd.snd ++ List.filter (fun (k : Int) => atP seg off (tkOf y.ts k).fst) x'.snd.fst).Perm (keysAt y.ts (atP seg off)) ∧ ∀ (k : Int), List.Mem k x'.snd.fst → List.Mem k (List.map (fun (x : Int × (Int × Int) × Int) 
  => x.fst) y.ts)) ∧ x'.snd.fst.length < x.snd.fst.length ∧ (((True ∧ True ∧ True) ∧ True ∧ SV.val (Value.slice none (0 : Nat) (0 : Nat)) = SV.val (Value.slice none (0 : Nat) (0 : Nat)) ∧ True ∧ True ∧ True ∧ seg = seg ∧ 
  off = off ∧ True) ∧ (off = off ∧ seg = seg ∧ True ∧ True ∧ SV.val (Value.slice none (0 : Nat) (0 : Nat)) = SV.val (Value.slice none (0 : Nat) (0 : Nat)) ∧ True ∧ seg = seg ∧ off = off ∧ True) ∧ (True ∧ True ∧ True ∧ 
  True ∧ True) ∧ True) ∧ (True ∧ True ∧ false = false ∧ SV.val (Value.slice none (0 : Nat) (0 : Nat)) = SV.val (Value.slice none (0 : Nat) (0 : Nat)) ∧ True ∧ True ∧ (True ∧ True ∧ True) ∧ True) ∧ (y.la = y.la ∧ True ∧ 
  True ∧ True) ∧ (y.ts = y.ts ∧ some key = x'.fst ∧ x.snd.fst.eraseIdx n = x'.snd.fst) ∧ (y.hs = y.hs ∧ True) ∧ y.os = y.os ∧ (seg = seg ∧ True) ∧ (off = off ∧ True) ∧ (True ∧ True) ∧ True ∧ x.snd.snd ++ [key] = 
  x'.snd.snd ∧ True) ∧ ((y_1.fst.fst == seg && (y_1.fst.snd == off && true)) = false → ∃ (x' : Option Int × List Int × List Int), ((x'.snd.snd ++ List.filter (fun (k : Int) => atP seg off (tkOf y.ts k).fst) 
  x'.snd.fst).Perm (keysAt y.ts (atP seg off)) ∧ ∀ (k : Int), List.Mem k x'.snd.fst → List.Mem k (List.map (fun (x : Int × (Int × Int) × Int) => x.fst) y.ts)) ∧ x'.snd.fst.length < x.snd.fst.length ∧ (((True ∧ True ∧ 
  True) ∧ True ∧ SV.val (Value.slice none (0 : Nat) (0 : Nat)) = SV.val (Value.slice none (0 : Nat) (0 : Nat)) ∧ True ∧ True ∧ True ∧ seg = seg ∧ off = off ∧ True) ∧ (off = off ∧ seg = seg ∧ True ∧ True ∧ SV.val 
  (Value.slice none (0 : Nat) (0 : Nat)) = SV.val (Value.slice none (0 : Nat) (0 : Nat)) ∧ True ∧ seg = seg ∧ off = off ∧ True) ∧ (True ∧ True ∧ True ∧ True ∧ True) ∧ True) ∧ (True ∧ True ∧ false = false ∧ SV.val 
  (Value.slice none (0 : Nat) (0 : Nat)) = SV.val (Value.slice none (0 : Nat) (0 : Nat)) ∧ True ∧ True ∧ (True ∧ True ∧ True) ∧ True) ∧ (y.la = y.la ∧ True ∧ True ∧ True) ∧ (y.ts = y.ts ∧ some key = x'.fst ∧ 
  x.snd.fst.eraseIdx n = x'.snd.fst) ∧ (y.hs = y.hs ∧ True) ∧ y.os = y.os ∧ (seg = seg ∧ True) ∧ (off = off ∧ True) ∧ (True ∧ True) ∧ True ∧ x.snd.snd = x'.snd.snd ∧ True)) := by kernel_rfl
theorem close_vc (R : Rm) (seg : Int) (y : RmIn) : (fvc PP (env PP [] [s27 (inP seg), s29] [] [] []) Try.f20 c20 (closeC.U.ss ((R, seg), y)) (St1 (closeC.U.Rs ((R, seg), y))) (fun r S => Fin.frz.T r S fun r S => altsOk 4 ((R, seg), y) r S closeC.U.alts)) = (
  ∃ (x0 : Option Int × List Int × List Int), ((x0.snd.snd ++ List.filter (fun (k : Int) => inP seg (tkOf y.ts k).fst) x0.snd.fst).Perm (keysAt y.ts (inP seg)) ∧ ∀ (k : Int), List.Mem k x0.snd.fst → List.Mem k (List.map 
  (fun (x : Int × (Int × Int) × Int) => x.fst) y.ts)) ∧ ((((True ∧ True) ∧ True ∧ True ∧ SV.val (Value.slice none (0 : Nat) (0 : Nat)) = SV.val (Value.slice none (0 : Nat) (0 : Nat)) ∧ True ∧ True ∧ seg = seg ∧ True) ∧ 
  (True ∧ True ∧ True ∧ True ∧ True) ∧ True) ∧ (True ∧ True ∧ false = false ∧ SV.val (Value.slice none (0 : Nat) (0 : Nat)) = SV.val (Value.slice none (0 : Nat) (0 : Nat)) ∧ True ∧ True ∧ (True ∧ True) ∧ True) ∧ (y.la = 
  y.la ∧ True ∧ True ∧ True) ∧ (y.ts = y.ts ∧ none = x0.fst ∧ List.map (fun (x : Int × (Int × Int) × Int) => x.fst) y.ts = x0.snd.fst) ∧ (y.hs = y.hs ∧ True) ∧ y.os = y.os ∧ (seg = seg ∧ True) ∧ (True ∧ True) ∧ True ∧ [] 
  = x0.snd.snd ∧ True) ∧ ∀ (x : Option Int × List Int × List Int), ((x.snd.snd ++ List.filter (fun (k : Int) => inP seg (tkOf y.ts k).fst) x.snd.fst).Perm (keysAt y.ts (inP seg)) ∧ ∀ (k : Int), List.Mem k x.snd.fst → 
  List.Mem k (List.map (fun (x : Int × (Int × Int) × Int) => x.fst) y.ts)) → (x.snd.fst = [] → x.snd.snd.length < (4611686018427387904 : Nat) ∧ ∀ (ys : List Int), Row y.ts x.snd.snd ys → ys.length ≤ maxLen → ∃ (x0 : 
  Nat), x0.le ys.length ∧ (((True ∧ (True ∧ True) ∧ True ∧ True ∧ SV.val (Value.slice none (0 : Nat) (0 : Nat)) = SV.val (Value.slice none (0 : Nat) (0 : Nat)) ∧ True ∧ True ∧ seg = seg ∧ True) ∧ (True ∧ True ∧ True ∧ 
  True ∧ True) ∧ True) ∧ ((0 : Int) = (↑x0 : Int) ∧ (↑ys.length : Int) = (↑ys.length : Int) ∧ True ∧ SV.val (Value.slice none (0 : Nat) (0 : Nat)) = SV.val (Value.slice none (0 : Nat) (0 : Nat)) ∧ True ∧ True ∧ True) ∧ 
  (y.la = y.la ∧ True ∧ True ∧ True) ∧ (y.ts = delAll y.ts (List.take x0 ys) ∧ True) ∧ (y.hs = y.hs ∧ True) ∧ y.os = y.os ∧ (seg = seg ∧ True) ∧ (True ∧ True) ∧ True ∧ ys = ys ∧ True) ∧ ∀ (x : Nat), x.le ys.length → 
  (decide ((↑x : Int) < (↑ys.length : Int)) = true → ((0 : Int) ≤ (↑x : Int) ∧ (↑x : Int) < (↑ys.length : Int)) ∧ (↑x : Int).toNat < ys.length ∧ ∀ (y_1 : Int), ys[(↑x : Int).toNat]? = some y_1 → ∃ (x' : Nat), x'.le 
  ys.length ∧ ys.length - x' < ys.length - x ∧ ((True ∧ (True ∧ True) ∧ True ∧ True ∧ SV.val (Value.slice none (0 : Nat) (0 : Nat)) = SV.val (Value.slice none (0 : Nat) (0 : Nat)) ∧ True ∧ True ∧ seg = seg ∧ True) ∧ 
  (True ∧ True ∧ True ∧ True ∧ True) ∧ True) ∧ (IntKind.i64.wrap ((↑x : Int) + (1 : Int)) = (↑x' : Int) ∧ (↑ys.length : Int) = (↑ys.length : Int) ∧ True ∧ SV.val (Value.slice none (0 : Nat) (0 : Nat)) = SV.val 
  (Value.slice none (0 : Nat) (0 : Nat)) ∧ True ∧ True ∧ True) ∧ (y.la = y.la ∧ True ∧ True ∧ True) ∧ (delL (delAll y.ts (List.take x ys)) y_1 = delAll y.ts (List.take x' ys) ∧ True) ∧ (y.hs = y.hs ∧ True) ∧ y.os = y.os 
  ∧ (seg = seg ∧ True) ∧ (True ∧ True) ∧ True ∧ ys = ys ∧ True) ∧ (decide ((↑x : Int) < (↑ys.length : Int)) = false → ∃ (y_1 : List Int × Tup KR (1 : Nat)), (Row (tks R) (keysAt (tks R) (inP seg)) y_1.fst ∧ RmRel (last 
  R, delAll (tks R) y_1.fst, als R) y_1.snd.fst ∧ True) ∧ ys = y_1.fst ∧ ((y.la = y_1.snd.fst.la ∧ True ∧ True ∧ True) ∧ (delAll y.ts (List.take x ys) = y_1.snd.fst.ts ∧ True) ∧ (y.hs = y_1.snd.fst.hs ∧ True) ∧ y.os = 
  y_1.snd.fst.os ∧ True) ∧ (True ∧ True ∧ True ∧ True ∧ True) ∧ True)) ∧ ∀ (n : Nat) (key : Int), x.snd.fst[n]? = some key → ∀ (y_1 : (Int × Int) × Int), lookL y.ts key = some y_1 → ((y_1.fst.fst == seg) = true → 
  (x.snd.snd.length + [key].length) * (8 : Nat) ≤ (140737488355328 : Nat) ∧ ∃ (x' : Option Int × List Int × List Int), ((x'.snd.snd ++ List.filter (fun (k : Int) => inP seg (tkOf y.ts k).fst) x'.snd.fst).Perm (keysAt 
  y.ts (inP seg)) ∧ ∀ (k : Int), List.Mem k x'.snd.fst → List.Mem k (List.map (fun (x : Int × (Int × Int) × Int) => x.fst) y.ts)) ∧ x'.snd.fst.length < x.snd.fst.length ∧ (((True ∧ True) ∧ True ∧ True ∧ SV.val 
  (Value.slice none (0 : Nat) (0 : Nat)) = SV.val (Value.slice none (0 : Nat) (0 : Nat)) ∧ True ∧ True ∧ seg = seg ∧ True) ∧ (True ∧ True ∧ True ∧ True ∧ True) ∧ True) ∧ (True ∧ True ∧ false = false ∧ SV.val (Value.slice 
  none (0 : Nat) (0 : Nat)) = SV.val (Value.slice none (0 : Nat) (0 : Nat)) ∧ True ∧ True ∧ (True ∧ True) ∧ True) ∧ (y.la = y.la ∧ True ∧ True ∧ True) ∧ (y.ts = y.ts ∧ some key = x'.fst ∧ x.snd.fst.eraseIdx n = 
  x'.snd.fst) ∧ (y.hs = y.hs ∧ True) ∧ y.os = y.os ∧ (seg = seg ∧ True) ∧ (True ∧ True) ∧ True ∧ x.snd.snd ++ [key] = x'.snd.snd ∧ True) ∧ ((y_1.fst.fst == seg) = false → ∃ (x' : Option Int × List Int × List Int), 
  ((x'.snd.snd ++ List.filter (fun (k : Int) => inP seg (tkOf y.ts k).fst) x'.snd.fst).Perm (keysAt y.ts (inP seg)) ∧ ∀ (k : Int), List.Mem k x'.snd.fst → List.Mem k (List.map (fun (x : Int × (Int × Int) × Int) => x.fst) 
  y.ts)) ∧ x'.snd.fst.length < x.snd.fst.length ∧ (((True ∧ True) ∧ True ∧ True ∧ SV.val (Value.slice none (0 : Nat) (0 : Nat)) = SV.val (Value.slice none (0 : Nat) (0 : Nat)) ∧ True ∧ True ∧ seg = seg ∧ True) ∧ (True ∧ 
  True ∧ True ∧ True ∧ True) ∧ True) ∧ (True ∧ True ∧ false = false ∧ SV.val (Value.slice none (0 : Nat) (0 : Nat)) = SV.val (Value.slice none (0 : Nat) (0 : Nat)) ∧ True ∧ True ∧ (True ∧ True) ∧ True) ∧ (y.la = y.la ∧ 
  True ∧ True ∧ True) ∧ (y.ts = y.ts ∧ some key = x'.fst ∧ x.snd.fst.eraseIdx n = x'.snd.fst) ∧ (y.hs = y.hs ∧ True) ∧ y.os = y.os ∧ (seg = seg ∧ True) ∧ (True ∧ True) ∧ True ∧ x.snd.snd = x'.snd.snd ∧ True)) := by kernel_rfl
end Go.Proofs.Ytfdcmbaoekjkgaa
namespace Go.Proofs.Ytfdcmbaoekjkgaa
open Go.Proofs.Ytfdcmbaoekjkgaa.Gx
set_option maxRecDepth 100000
set_option maxHeartbeats 4000000
set_option linter.unusedSimpArgs false
set_option linter.unusedVariables false
theorem free_tail {R : Rm} {y : RmIn} {p : Int × Int → Bool} (hrel : RmRel R y) (ys : List Int) (hy : Row y.ts (keysAt y.ts p) ys) (hA : ys.length ≤ maxLen) :
    ∃ (x0 : Nat), x0.le ys.length ∧ ((0 : Int) = (x0 : Int) ∧ y.ts = delAll y.ts (List.take x0 ys)) ∧
      ∀ (x : Nat), x.le ys.length →
        (decide ((x : Int) < (ys.length : Int)) = true → ((0 : Int) ≤ (x : Int) ∧ (x : Int) < (ys.length : Int)) ∧ (x : Int).toNat < ys.length ∧
          ∀ (z : Int), ys[(x : Int).toNat]? = some z → ∃ (x' : Nat), x'.le ys.length ∧ ys.length - x' < ys.length - x ∧ IntKind.i64.wrap ((x : Int) + (1 : Int)) = (x' : Int) ∧ delL (delAll y.ts (List.take x ys)) z = delAll y.ts (List.take x' ys)) ∧
        (decide ((x : Int) < (ys.length : Int)) = false → ∃ (w : List Int × Tup KR (1 : Nat)),
          (Row (tks R) (keysAt (tks R) p) w.1 ∧ RmRel (last R, delAll (tks R) w.1, als R) w.2.1) ∧ ys = w.1 ∧ y.la = w.2.1.la ∧ delAll y.ts (List.take x ys) = w.2.1.ts ∧ y.hs = w.2.1.hs ∧ y.os = w.2.1.os) := by
  simp only [toNat_cast]
  refine ⟨0, Nat.zero_le _, ⟨rfl, by simp [delAll]⟩, fun i hi => ⟨fun hlt => ?_, fun hge => ?_⟩⟩
  · have hlt : i < ys.length := by simp at hlt; omega
    exact ⟨⟨by omega, by omega⟩, hlt, fun x hx => ⟨i + 1, hlt, by omega, wrap_succ hlt hA, delAll_take _ hx⟩⟩
  · have hi : i ≤ ys.length := hi
    have hie : i = ys.length := by simp at hge; omega
    subst hie
    rw [List.take_length]
    refine ⟨(ys, ⟨y.la, delAll y.ts ys, y.hs, y.os⟩, ()), ⟨by rw [hrel.ts]; exact hy, ?_⟩, rfl, rfl, rfl, rfl, rfl⟩
    have := rel_tk hrel (la := y.la) (ts := delAll y.ts ys) (List.Nodup.sublist ((delAll_sub ys y.ts).map _) hrel.tkeys)
    rw [hrel.la, hrel.ts]; exact this
theorem wakes_wfp {α : Type} {inn : α → rmT.den} {ss : α → List SV} {p : α → Int × Int → Bool} : ∀ A ∈ (wakes α inn ss p).alts, ∀ x y, SV.wf (A.outs x y).length (A.r x y) = true ∧ 1 ≤ (A.outs x y).length := by
  intro A hA
  obtain rfl := List.mem_singleton.1 hA
  exact fun x y => ⟨rfl, Nat.le_refl 1⟩
theorem wake_ok : wakeC.H.ok PP 14 := by
  refine wakeC.ok_of wakes_wfp ?_
  refine hc_ofP Fin.frz mixed (fn := Try.f14) (c := c14) rfl rfl wakeC.U (fun x => rfl) ?_
  rintro ⟨⟨R, seg, off⟩, (y : RmIn)⟩ ⟨hfew, hrel⟩
  have hrel : RmRel R y := hrel
  have hfew : fewT R := hfew
  refine ⟨env PP [] [s13 (atP seg off), s29] [] [] [], env_ok .., rfl, hold (wake_vc R seg off y) ?_⟩
  simp only [true_and, and_true, Bool.and_true]
  exact those_law (p := atP seg off) hrel hfew (fun ys hy hA => free_tail hrel ys hy hA)
theorem close_ok : closeC.H.ok PP 20 := by
  refine closeC.ok_of wakes_wfp ?_
  refine hc_ofP Fin.frz mixed (fn := Try.f20) (c := c20) rfl rfl closeC.U (fun x => rfl) ?_
  rintro ⟨⟨R, seg⟩, (y : RmIn)⟩ ⟨hfew, hrel⟩
  have hrel : RmRel R y := hrel
  have hfew : fewT R := hfew
  refine ⟨env PP [] [s27 (inP seg), s29] [] [] [], env_ok .., rfl, hold (close_vc R seg y) ?_⟩
  simp only [true_and, and_true, Bool.and_true]
  exact those_law (p := inP seg) hrel hfew (fun ys hy hA => free_tail hrel ys hy hA)
end Go.Proofs.Ytfdcmbaoekjkgaa
namespace Go.Proofs.Ytfdcmbaoekjkgaa
open Go.Proofs.Ytfdcmbaoekjkgaa.Gx
set_option maxRecDepth 100000
set_option linter.unusedVariables false
set_option maxHeartbeats 0
noncomputable def m9 : Sv PP := ⟨9, hspec newC.H [] fun ss S => match ss with | [] => some ([], ()) | _ => none, ⟨rfl, hspec_ok new_ok _ _⟩⟩
noncomputable def m10 : Sv PP := ⟨10, useRm waitC [] fun R ss => match ss with | [.int .i64 t, .int .i64 s, .int .i64 o] => some (R, t, s, o) | _ => none, ⟨rfl, hspec_ok wait_ok _ _⟩⟩
noncomputable def m11 : Sv PP := ⟨11, useRm forgetC [] fun R ss => match ss with | [.int .i64 t] => some (R, t) | _ => none, ⟨rfl, hspec_ok forget_ok _ _⟩⟩
noncomputable def m12 : Sv PP := ⟨12, useRm lenC [] fun R ss => match ss with | [] => some R | _ => none, ⟨rfl, hspec_ok len_ok _ _⟩⟩
noncomputable def m13 : Sv PP := ⟨13, useRm listC [] fun R ss => match ss with | [.int .i64 s, .int .i64 o] => some (R, s, o) | _ => none, ⟨rfl, hspec_ok list_ok _ _⟩⟩
noncomputable def m14 : Sv PP := ⟨14, useRm wakeC [] fun R ss => match ss with | [.int .i64 s, .int .i64 o] => some (R, s, o) | _ => none, ⟨rfl, hspec_ok wake_ok _ _⟩⟩
noncomputable def m16 : Sv PP := ⟨16, useRm postC [] fun R ss => match ss with | [.int .i64 t, .int .i64 c] => some (R, t, c) | _ => none, ⟨rfl, hspec_ok post_ok _ _⟩⟩
noncomputable def m17 : Sv PP := ⟨17, useRm takeC [] fun R ss => match ss with | [.int .i64 t] => some (R, t) | _ => none, ⟨rfl, hspec_ok take_ok _ _⟩⟩
noncomputable def m18 : Sv PP := ⟨18, useRm alertsC [] fun R ss => match ss with | [.int .i64 t] => some (R, t) | _ => none, ⟨rfl, hspec_ok alerts_ok _ _⟩⟩
noncomputable def m20 : Sv PP := ⟨20, useRm closeC [] fun R ss => match ss with | [.int .i64 t] => some (R, t) | _ => none, ⟨rfl, hspec_ok close_ok _ _⟩⟩
noncomputable def m21 : Sv PP := ⟨21, useRm whereC [] fun R ss => match ss with | [.int .i64 t] => some (R, t) | _ => none, ⟨rfl, hspec_ok where_ok _ _⟩⟩
theorem lives_vc : (fvc PP (env PP [] [m9, m10, m12, m14, m16, m17, b15] [] [] []) Try.f8 c8 (ofArgs [] ()) St0 (gives [.bool] (true, ()))) = (
  True ∧ True ∧ True ∧ (∀ (y : Unit), True → True ∧ (True ∧ (5 : Int) = (5 : Int) ∧ (9 : Int) = (9 : Int) ∧ (0 : Int) = (0 : Int) ∧ True) ∧ ((KR.cust = KR.cust ∧ ((0 : Int), [], []) = waitC.inn (((0 : Int), [], []), (5 : 
  Int), (9 : Int), (0 : Int))) ∧ True) ∧ (∀ (y : Unit), True → (((waitR ((0 : Int), [], []) (5 : Int) (9 : Int) (0 : Int)).fst != (0 : Int)) = false → True ∧ (True ∧ (6 : Int) = (6 : Int) ∧ (9 : Int) = (9 : Int) ∧ (8 : 
  Int) = (8 : Int) ∧ True) ∧ ((KR.cust = KR.cust ∧ (waitR ((0 : Int), [], []) (5 : Int) (9 : Int) (0 : Int)).snd = waitC.inn ((waitR ((0 : Int), [], []) (5 : Int) (9 : Int) (0 : Int)).snd, (6 : Int), (9 : Int), (8 : 
  Int))) ∧ True) ∧ (∀ (y : Unit), True → (((waitR (waitR ((0 : Int), [], []) (5 : Int) (9 : Int) (0 : Int)).snd (6 : Int) (9 : Int) (8 : Int)).fst != (0 : Int)) = false → True ∧ (True ∧ (7 : Int) = (7 : Int) ∧ (9 : Int) 
  = (9 : Int) ∧ (0 : Int) = (0 : Int) ∧ True) ∧ ((KR.cust = KR.cust ∧ (waitR (waitR ((0 : Int), [], []) (5 : Int) (9 : Int) (0 : Int)).snd (6 : Int) (9 : Int) (8 : Int)).snd = waitC.inn ((waitR (waitR ((0 : Int), [], []) 
  (5 : Int) (9 : Int) (0 : Int)).snd (6 : Int) (9 : Int) (8 : Int)).snd, (7 : Int), (9 : Int), (0 : Int))) ∧ True) ∧ (∀ (y : Unit), True → (((waitR (waitR (waitR ((0 : Int), [], []) (5 : Int) (9 : Int) (0 : Int)).snd (6 
  : Int) (9 : Int) (8 : Int)).snd (7 : Int) (9 : Int) (0 : Int)).fst != (0 : Int)) = false → Nat.le (3 : Nat) (1000000000000 : Nat) ∧ (True ∧ (9 : Int) = (9 : Int) ∧ (0 : Int) = (0 : Int) ∧ True) ∧ ((KR.cust = KR.cust ∧ 
  (waitR (waitR (waitR ((0 : Int), [], []) (5 : Int) (9 : Int) (0 : Int)).snd (6 : Int) (9 : Int) (8 : Int)).snd (7 : Int) (9 : Int) (0 : Int)).snd = wakeC.inn ((waitR (waitR (waitR ((0 : Int), [], []) (5 : Int) (9 : 
  Int) (0 : Int)).snd (6 : Int) (9 : Int) (8 : Int)).snd (7 : Int) (9 : Int) (0 : Int)).snd, (9 : Int), (0 : Int))) ∧ True) ∧ (∀ (y : List Int), Row (tks (waitR (waitR (waitR ((0 : Int), [], []) (5 : Int) (9 : Int) (0 : 
  Int)).snd (6 : Int) (9 : Int) (8 : Int)).snd (7 : Int) (9 : Int) (0 : Int)).snd) (keysAt (tks (waitR (waitR (waitR ((0 : Int), [], []) (5 : Int) (9 : Int) (0 : Int)).snd (6 : Int) (9 : Int) (8 : Int)).snd (7 : Int) (9 
  : Int) (0 : Int)).snd) (atP (9 : Int) (0 : Int))) y → true = true ∧ ((!sameI y [(5 : Int), (7 : Int)]) = false → True ∧ (True ∧ (6 : Int) = (6 : Int) ∧ (9 : Int) = (9 : Int) ∧ (0 : Int) = (0 : Int) ∧ True) ∧ ((KR.cust 
  = KR.cust ∧ (last (waitR (waitR (waitR ((0 : Int), [], []) (5 : Int) (9 : Int) (0 : Int)).snd (6 : Int) (9 : Int) (8 : Int)).snd (7 : Int) (9 : Int) (0 : Int)).snd, delAll (tks (waitR (waitR (waitR ((0 : Int), [], []) 
  (5 : Int) (9 : Int) (0 : Int)).snd (6 : Int) (9 : Int) (8 : Int)).snd (7 : Int) (9 : Int) (0 : Int)).snd) y, als (waitR (waitR (waitR ((0 : Int), [], []) (5 : Int) (9 : Int) (0 : Int)).snd (6 : Int) (9 : Int) (8 : 
  Int)).snd (7 : Int) (9 : Int) (0 : Int)).snd) = waitC.inn ((last (waitR (waitR (waitR ((0 : Int), [], []) (5 : Int) (9 : Int) (0 : Int)).snd (6 : Int) (9 : Int) (8 : Int)).snd (7 : Int) (9 : Int) (0 : Int)).snd, delAll 
  (tks (waitR (waitR (waitR ((0 : Int), [], []) (5 : Int) (9 : Int) (0 : Int)).snd (6 : Int) (9 : Int) (8 : Int)).snd (7 : Int) (9 : Int) (0 : Int)).snd) y, als (waitR (waitR (waitR ((0 : Int), [], []) (5 : Int) (9 : 
  Int) (0 : Int)).snd (6 : Int) (9 : Int) (8 : Int)).snd (7 : Int) (9 : Int) (0 : Int)).snd), (6 : Int), (9 : Int), (0 : Int))) ∧ True) ∧ (∀ (y_1 : Unit), True → (((waitR (last (waitR (waitR (waitR ((0 : Int), [], []) (5 
  : Int) (9 : Int) (0 : Int)).snd (6 : Int) (9 : Int) (8 : Int)).snd (7 : Int) (9 : Int) (0 : Int)).snd, delAll (tks (waitR (waitR (waitR ((0 : Int), [], []) (5 : Int) (9 : Int) (0 : Int)).snd (6 : Int) (9 : Int) (8 : 
  Int)).snd (7 : Int) (9 : Int) (0 : Int)).snd) y, als (waitR (waitR (waitR ((0 : Int), [], []) (5 : Int) (9 : Int) (0 : Int)).snd (6 : Int) (9 : Int) (8 : Int)).snd (7 : Int) (9 : Int) (0 : Int)).snd) (6 : Int) (9 : 
  Int) (0 : Int)).fst != (8 : Int)) = true → false = true ∧ True) ∧ (((waitR (last (waitR (waitR (waitR ((0 : Int), [], []) (5 : Int) (9 : Int) (0 : Int)).snd (6 : Int) (9 : Int) (8 : Int)).snd (7 : Int) (9 : Int) (0 : 
  Int)).snd, delAll (tks (waitR (waitR (waitR ((0 : Int), [], []) (5 : Int) (9 : Int) (0 : Int)).snd (6 : Int) (9 : Int) (8 : Int)).snd (7 : Int) (9 : Int) (0 : Int)).snd) y, als (waitR (waitR (waitR ((0 : Int), [], []) 
  (5 : Int) (9 : Int) (0 : Int)).snd (6 : Int) (9 : Int) (8 : Int)).snd (7 : Int) (9 : Int) (0 : Int)).snd) (6 : Int) (9 : Int) (0 : Int)).fst != (8 : Int)) = false → True ∧ (True ∧ (6 : Int) = (6 : Int) ∧ (3 : Int) = (3 
  : Int) ∧ True) ∧ ((KR.cust = KR.cust ∧ (waitR (last (waitR (waitR (waitR ((0 : Int), [], []) (5 : Int) (9 : Int) (0 : Int)).snd (6 : Int) (9 : Int) (8 : Int)).snd (7 : Int) (9 : Int) (0 : Int)).snd, delAll (tks (waitR 
  (waitR (waitR ((0 : Int), [], []) (5 : Int) (9 : Int) (0 : Int)).snd (6 : Int) (9 : Int) (8 : Int)).snd (7 : Int) (9 : Int) (0 : Int)).snd) y, als (waitR (waitR (waitR ((0 : Int), [], []) (5 : Int) (9 : Int) (0 : 
  Int)).snd (6 : Int) (9 : Int) (8 : Int)).snd (7 : Int) (9 : Int) (0 : Int)).snd) (6 : Int) (9 : Int) (0 : Int)).snd = postC.inn ((waitR (last (waitR (waitR (waitR ((0 : Int), [], []) (5 : Int) (9 : Int) (0 : Int)).snd 
  (6 : Int) (9 : Int) (8 : Int)).snd (7 : Int) (9 : Int) (0 : Int)).snd, delAll (tks (waitR (waitR (waitR ((0 : Int), [], []) (5 : Int) (9 : Int) (0 : Int)).snd (6 : Int) (9 : Int) (8 : Int)).snd (7 : Int) (9 : Int) (0 : 
  Int)).snd) y, als (waitR (waitR (waitR ((0 : Int), [], []) (5 : Int) (9 : Int) (0 : Int)).snd (6 : Int) (9 : Int) (8 : Int)).snd (7 : Int) (9 : Int) (0 : Int)).snd) (6 : Int) (9 : Int) (0 : Int)).snd, (6 : Int), (3 : 
  Int))) ∧ True) ∧ (∀ (y_2 : Unit), True → True ∧ (True ∧ (6 : Int) = (6 : Int) ∧ (9 : Int) = (9 : Int) ∧ (0 : Int) = (0 : Int) ∧ True) ∧ ((KR.cust = KR.cust ∧ (postR (waitR (last (waitR (waitR (waitR ((0 : Int), [], []) 
  (5 : Int) (9 : Int) (0 : Int)).snd (6 : Int) (9 : Int) (8 : Int)).snd (7 : Int) (9 : Int) (0 : Int)).snd, delAll (tks (waitR (waitR (waitR ((0 : Int), [], []) (5 : Int) (9 : Int) (0 : Int)).snd (6 : Int) (9 : Int) (8 : 
  Int)).snd (7 : Int) (9 : Int) (0 : Int)).snd) y, als (waitR (waitR (waitR ((0 : Int), [], []) (5 : Int) (9 : Int) (0 : Int)).snd (6 : Int) (9 : Int) (8 : Int)).snd (7 : Int) (9 : Int) (0 : Int)).snd) (6 : Int) (9 : 
  Int) (0 : Int)).snd (6 : Int) (3 : Int)).snd.snd = waitC.inn ((postR (waitR (last (waitR (waitR (waitR ((0 : Int), [], []) (5 : Int) (9 : Int) (0 : Int)).snd (6 : Int) (9 : Int) (8 : Int)).snd (7 : Int) (9 : Int) (0 : 
  Int)).snd, delAll (tks (waitR (waitR (waitR ((0 : Int), [], []) (5 : Int) (9 : Int) (0 : Int)).snd (6 : Int) (9 : Int) (8 : Int)).snd (7 : Int) (9 : Int) (0 : Int)).snd) y, als (waitR (waitR (waitR ((0 : Int), [], []) 
  (5 : Int) (9 : Int) (0 : Int)).snd (6 : Int) (9 : Int) (8 : Int)).snd (7 : Int) (9 : Int) (0 : Int)).snd) (6 : Int) (9 : Int) (0 : Int)).snd (6 : Int) (3 : Int)).snd.snd, (6 : Int), (9 : Int), (0 : Int))) ∧ True) ∧ (∀ 
  (y_3 : Unit), True → True ∧ (True ∧ (6 : Int) = (6 : Int) ∧ True) ∧ ((KR.cust = KR.cust ∧ (waitR (postR (waitR (last (waitR (waitR (waitR ((0 : Int), [], []) (5 : Int) (9 : Int) (0 : Int)).snd (6 : Int) (9 : Int) (8 : 
  Int)).snd (7 : Int) (9 : Int) (0 : Int)).snd, delAll (tks (waitR (waitR (waitR ((0 : Int), [], []) (5 : Int) (9 : Int) (0 : Int)).snd (6 : Int) (9 : Int) (8 : Int)).snd (7 : Int) (9 : Int) (0 : Int)).snd) y, als (waitR 
  (waitR (waitR ((0 : Int), [], []) (5 : Int) (9 : Int) (0 : Int)).snd (6 : Int) (9 : Int) (8 : Int)).snd (7 : Int) (9 : Int) (0 : Int)).snd) (6 : Int) (9 : Int) (0 : Int)).snd (6 : Int) (3 : Int)).snd.snd (6 : Int) (9 : 
  Int) (0 : Int)).snd = takeC.inn ((waitR (postR (waitR (last (waitR (waitR (waitR ((0 : Int), [], []) (5 : Int) (9 : Int) (0 : Int)).snd (6 : Int) (9 : Int) (8 : Int)).snd (7 : Int) (9 : Int) (0 : Int)).snd, delAll (tks 
  (waitR (waitR (waitR ((0 : Int), [], []) (5 : Int) (9 : Int) (0 : Int)).snd (6 : Int) (9 : Int) (8 : Int)).snd (7 : Int) (9 : Int) (0 : Int)).snd) y, als (waitR (waitR (waitR ((0 : Int), [], []) (5 : Int) (9 : Int) (0 
  : Int)).snd (6 : Int) (9 : Int) (8 : Int)).snd (7 : Int) (9 : Int) (0 : Int)).snd) (6 : Int) (9 : Int) (0 : Int)).snd (6 : Int) (3 : Int)).snd.snd (6 : Int) (9 : Int) (0 : Int)).snd, (6 : Int))) ∧ True) ∧ (∀ (y_4 : 
  Unit), True → ((postR (waitR (last (waitR (waitR (waitR ((0 : Int), [], []) (5 : Int) (9 : Int) (0 : Int)).snd (6 : Int) (9 : Int) (8 : Int)).snd (7 : Int) (9 : Int) (0 : Int)).snd, delAll (tks (waitR (waitR (waitR ((0 
  : Int), [], []) (5 : Int) (9 : Int) (0 : Int)).snd (6 : Int) (9 : Int) (8 : Int)).snd (7 : Int) (9 : Int) (0 : Int)).snd) y, als (waitR (waitR (waitR ((0 : Int), [], []) (5 : Int) (9 : Int) (0 : Int)).snd (6 : Int) (9 
  : Int) (8 : Int)).snd (7 : Int) (9 : Int) (0 : Int)).snd) (6 : Int) (9 : Int) (0 : Int)).snd (6 : Int) (3 : Int)).fst = true → (((postR (waitR (last (waitR (waitR (waitR ((0 : Int), [], []) (5 : Int) (9 : Int) (0 : 
  Int)).snd (6 : Int) (9 : Int) (8 : Int)).snd (7 : Int) (9 : Int) (0 : Int)).snd, delAll (tks (waitR (waitR (waitR ((0 : Int), [], []) (5 : Int) (9 : Int) (0 : Int)).snd (6 : Int) (9 : Int) (8 : Int)).snd (7 : Int) (9 : 
  Int) (0 : Int)).snd) y, als (waitR (waitR (waitR ((0 : Int), [], []) (5 : Int) (9 : Int) (0 : Int)).snd (6 : Int) (9 : Int) (8 : Int)).snd (7 : Int) (9 : Int) (0 : Int)).snd) (6 : Int) (9 : Int) (0 : Int)).snd (6 : 
  Int) (3 : Int)).snd.fst == (0 : Int)) = true → (((waitR (postR (waitR (last (waitR (waitR (waitR ((0 : Int), [], []) (5 : Int) (9 : Int) (0 : Int)).snd (6 : Int) (9 : Int) (8 : Int)).snd (7 : Int) (9 : Int) (0 : 
  Int)).snd, delAll (tks (waitR (waitR (waitR ((0 : Int), [], []) (5 : Int) (9 : Int) (0 : Int)).snd (6 : Int) (9 : Int) (8 : Int)).snd (7 : Int) (9 : Int) (0 : Int)).snd) y, als (waitR (waitR (waitR ((0 : Int), [], []) 
  (5 : Int) (9 : Int) (0 : Int)).snd (6 : Int) (9 : Int) (8 : Int)).snd (7 : Int) (9 : Int) (0 : Int)).snd) (6 : Int) (9 : Int) (0 : Int)).snd (6 : Int) (3 : Int)).snd.snd (6 : Int) (9 : Int) (0 : Int)).fst == (10 : 
  Int)) = true → (((takeR (waitR (postR (waitR (last (waitR (waitR (waitR ((0 : Int), [], []) (5 : Int) (9 : Int) (0 : Int)).snd (6 : Int) (9 : Int) (8 : Int)).snd (7 : Int) (9 : Int) (0 : Int)).snd, delAll (tks (waitR 
  (waitR (waitR ((0 : Int), [], []) (5 : Int) (9 : Int) (0 : Int)).snd (6 : Int) (9 : Int) (8 : Int)).snd (7 : Int) (9 : Int) (0 : Int)).snd) y, als (waitR (waitR (waitR ((0 : Int), [], []) (5 : Int) (9 : Int) (0 : 
  Int)).snd (6 : Int) (9 : Int) (8 : Int)).snd (7 : Int) (9 : Int) (0 : Int)).snd) (6 : Int) (9 : Int) (0 : Int)).snd (6 : Int) (3 : Int)).snd.snd (6 : Int) (9 : Int) (0 : Int)).snd (6 : Int)).fst == (3 : Int)) = true → 
  ((takeR (waitR (postR (waitR (last (waitR (waitR (waitR ((0 : Int), [], []) (5 : Int) (9 : Int) (0 : Int)).snd (6 : Int) (9 : Int) (8 : Int)).snd (7 : Int) (9 : Int) (0 : Int)).snd, delAll (tks (waitR (waitR (waitR ((0 
  : Int), [], []) (5 : Int) (9 : Int) (0 : Int)).snd (6 : Int) (9 : Int) (8 : Int)).snd (7 : Int) (9 : Int) (0 : Int)).snd) y, als (waitR (waitR (waitR ((0 : Int), [], []) (5 : Int) (9 : Int) (0 : Int)).snd (6 : Int) (9 
  : Int) (8 : Int)).snd (7 : Int) (9 : Int) (0 : Int)).snd) (6 : Int) (9 : Int) (0 : Int)).snd (6 : Int) (3 : Int)).snd.snd (6 : Int) (9 : Int) (0 : Int)).snd (6 : Int)).snd.fst = true → True ∧ (True ∧ True) ∧ ((KR.cust 
  = KR.cust ∧ (takeR (waitR (postR (waitR (last (waitR (waitR (waitR ((0 : Int), [], []) (5 : Int) (9 : Int) (0 : Int)).snd (6 : Int) (9 : Int) (8 : Int)).snd (7 : Int) (9 : Int) (0 : Int)).snd, delAll (tks (waitR (waitR 
  (waitR ((0 : Int), [], []) (5 : Int) (9 : Int) (0 : Int)).snd (6 : Int) (9 : Int) (8 : Int)).snd (7 : Int) (9 : Int) (0 : Int)).snd) y, als (waitR (waitR (waitR ((0 : Int), [], []) (5 : Int) (9 : Int) (0 : Int)).snd (6 
  : Int) (9 : Int) (8 : Int)).snd (7 : Int) (9 : Int) (0 : Int)).snd) (6 : Int) (9 : Int) (0 : Int)).snd (6 : Int) (3 : Int)).snd.snd (6 : Int) (9 : Int) (0 : Int)).snd (6 : Int)).snd.snd = lenC.inn (takeR (waitR (postR 
  (waitR (last (waitR (waitR (waitR ((0 : Int), [], []) (5 : Int) (9 : Int) (0 : Int)).snd (6 : Int) (9 : Int) (8 : Int)).snd (7 : Int) (9 : Int) (0 : Int)).snd, delAll (tks (waitR (waitR (waitR ((0 : Int), [], []) (5 : 
  Int) (9 : Int) (0 : Int)).snd (6 : Int) (9 : Int) (8 : Int)).snd (7 : Int) (9 : Int) (0 : Int)).snd) y, als (waitR (waitR (waitR ((0 : Int), [], []) (5 : Int) (9 : Int) (0 : Int)).snd (6 : Int) (9 : Int) (8 : Int)).snd 
  (7 : Int) (9 : Int) (0 : Int)).snd) (6 : Int) (9 : Int) (0 : Int)).snd (6 : Int) (3 : Int)).snd.snd (6 : Int) (9 : Int) (0 : Int)).snd (6 : Int)).snd.snd) ∧ True) ∧ (∀ (y_5 : Unit), True → ((↑(tks (takeR (waitR (postR 
  (waitR (last (waitR (waitR (waitR ((0 : Int), [], []) (5 : Int) (9 : Int) (0 : Int)).snd (6 : Int) (9 : Int) (8 : Int)).snd (7 : Int) (9 : Int) (0 : Int)).snd, delAll (tks (waitR (waitR (waitR ((0 : Int), [], []) (5 : 
  Int) (9 : Int) (0 : Int)).snd (6 : Int) (9 : Int) (8 : Int)).snd (7 : Int) (9 : Int) (0 : Int)).snd) y, als (waitR (waitR (waitR ((0 : Int), [], []) (5 : Int) (9 : Int) (0 : Int)).snd (6 : Int) (9 : Int) (8 : Int)).snd 
  (7 : Int) (9 : Int) (0 : Int)).snd) (6 : Int) (9 : Int) (0 : Int)).snd (6 : Int) (3 : Int)).snd.snd (6 : Int) (9 : Int) (0 : Int)).snd (6 : Int)).snd.snd).length : Int) == (0 : Int)) = true ∧ True) ∧ True) ∧ ((takeR 
  (waitR (postR (waitR (last (waitR (waitR (waitR ((0 : Int), [], []) (5 : Int) (9 : Int) (0 : Int)).snd (6 : Int) (9 : Int) (8 : Int)).snd (7 : Int) (9 : Int) (0 : Int)).snd, delAll (tks (waitR (waitR (waitR ((0 : Int), 
  [], []) (5 : Int) (9 : Int) (0 : Int)).snd (6 : Int) (9 : Int) (8 : Int)).snd (7 : Int) (9 : Int) (0 : Int)).snd) y, als (waitR (waitR (waitR ((0 : Int), [], []) (5 : Int) (9 : Int) (0 : Int)).snd (6 : Int) (9 : Int) 
  (8 : Int)).snd (7 : Int) (9 : Int) (0 : Int)).snd) (6 : Int) (9 : Int) (0 : Int)).snd (6 : Int) (3 : Int)).snd.snd (6 : Int) (9 : Int) (0 : Int)).snd (6 : Int)).snd.fst = !true → false = true ∧ True)) ∧ (((takeR (waitR 
  (postR (waitR (last (waitR (waitR (waitR ((0 : Int), [], []) (5 : Int) (9 : Int) (0 : Int)).snd (6 : Int) (9 : Int) (8 : Int)).snd (7 : Int) (9 : Int) (0 : Int)).snd, delAll (tks (waitR (waitR (waitR ((0 : Int), [], 
  []) (5 : Int) (9 : Int) (0 : Int)).snd (6 : Int) (9 : Int) (8 : Int)).snd (7 : Int) (9 : Int) (0 : Int)).snd) y, als (waitR (waitR (waitR ((0 : Int), [], []) (5 : Int) (9 : Int) (0 : Int)).snd (6 : Int) (9 : Int) (8 : 
  Int)).snd (7 : Int) (9 : Int) (0 : Int)).snd) (6 : Int) (9 : Int) (0 : Int)).snd (6 : Int) (3 : Int)).snd.snd (6 : Int) (9 : Int) (0 : Int)).snd (6 : Int)).fst == (3 : Int)) = !true → false = true ∧ True)) ∧ (((waitR 
  (postR (waitR (last (waitR (waitR (waitR ((0 : Int), [], []) (5 : Int) (9 : Int) (0 : Int)).snd (6 : Int) (9 : Int) (8 : Int)).snd (7 : Int) (9 : Int) (0 : Int)).snd, delAll (tks (waitR (waitR (waitR ((0 : Int), [], 
  []) (5 : Int) (9 : Int) (0 : Int)).snd (6 : Int) (9 : Int) (8 : Int)).snd (7 : Int) (9 : Int) (0 : Int)).snd) y, als (waitR (waitR (waitR ((0 : Int), [], []) (5 : Int) (9 : Int) (0 : Int)).snd (6 : Int) (9 : Int) (8 : 
  Int)).snd (7 : Int) (9 : Int) (0 : Int)).snd) (6 : Int) (9 : Int) (0 : Int)).snd (6 : Int) (3 : Int)).snd.snd (6 : Int) (9 : Int) (0 : Int)).fst == (10 : Int)) = !true → false = true ∧ True)) ∧ (((postR (waitR (last 
  (waitR (waitR (waitR ((0 : Int), [], []) (5 : Int) (9 : Int) (0 : Int)).snd (6 : Int) (9 : Int) (8 : Int)).snd (7 : Int) (9 : Int) (0 : Int)).snd, delAll (tks (waitR (waitR (waitR ((0 : Int), [], []) (5 : Int) (9 : 
  Int) (0 : Int)).snd (6 : Int) (9 : Int) (8 : Int)).snd (7 : Int) (9 : Int) (0 : Int)).snd) y, als (waitR (waitR (waitR ((0 : Int), [], []) (5 : Int) (9 : Int) (0 : Int)).snd (6 : Int) (9 : Int) (8 : Int)).snd (7 : Int) 
  (9 : Int) (0 : Int)).snd) (6 : Int) (9 : Int) (0 : Int)).snd (6 : Int) (3 : Int)).snd.fst == (0 : Int)) = !true → false = true ∧ True)) ∧ ((postR (waitR (last (waitR (waitR (waitR ((0 : Int), [], []) (5 : Int) (9 : 
  Int) (0 : Int)).snd (6 : Int) (9 : Int) (8 : Int)).snd (7 : Int) (9 : Int) (0 : Int)).snd, delAll (tks (waitR (waitR (waitR ((0 : Int), [], []) (5 : Int) (9 : Int) (0 : Int)).snd (6 : Int) (9 : Int) (8 : Int)).snd (7 : 
  Int) (9 : Int) (0 : Int)).snd) y, als (waitR (waitR (waitR ((0 : Int), [], []) (5 : Int) (9 : Int) (0 : Int)).snd (6 : Int) (9 : Int) (8 : Int)).snd (7 : Int) (9 : Int) (0 : Int)).snd) (6 : Int) (9 : Int) (0 : 
  Int)).snd (6 : Int) (3 : Int)).fst = !true → false = true ∧ True)) ∧ True) ∧ True) ∧ True)) ∧ True) ∧ ((!sameI y [(5 : Int), (7 : Int)]) = !false → false = true ∧ True)) ∧ True) ∧ (((waitR (waitR (waitR ((0 : Int), [], 
  []) (5 : Int) (9 : Int) (0 : Int)).snd (6 : Int) (9 : Int) (8 : Int)).snd (7 : Int) (9 : Int) (0 : Int)).fst != (0 : Int)) = !false → false = true ∧ True)) ∧ True) ∧ (((waitR (waitR ((0 : Int), [], []) (5 : Int) (9 : 
  Int) (0 : Int)).snd (6 : Int) (9 : Int) (8 : Int)).fst != (0 : Int)) = !false → false = true ∧ True)) ∧ True) ∧ (((waitR ((0 : Int), [], []) (5 : Int) (9 : Int) (0 : Int)).fst != (0 : Int)) = !false → false = true ∧ 
  True)) ∧ True) ∧ True) := by kernel_rfl
end Go.Proofs.Ytfdcmbaoekjkgaa
namespace Go.Proofs.Ytfdcmbaoekjkgaa
open Go.Proofs.Ytfdcmbaoekjkgaa.Gx
set_option maxRecDepth 100000
set_option maxHeartbeats 4000000
set_option linter.unusedSimpArgs false
set_option linter.unusedVariables false
theorem row_eq {ts : List (Int × Tk)} : {xs ys : List Int} → Row ts xs ys → xs.Pairwise (fun a b => noOf ts a < noOf ts b) → ys = xs
  | [], ys, h, _ => by have := h.perm.length_eq; exact List.eq_nil_of_length_eq_zero (by simpa using this)
  | x :: xs, [], h, _ => by have := h.perm.length_eq; simp at this
  | x :: xs, y :: ys, h, hs => by
    have hx : x ∈ y :: ys := h.perm.symm.subset (List.mem_cons_self ..)
    have hy : y ∈ x :: xs := h.perm.subset (List.mem_cons_self ..)
    have e : y = x := by
      rcases List.mem_cons.1 hx with e | hx
      · exact e.symm
      rcases List.mem_cons.1 hy with e | hy
      · exact e
      have h1 := (List.pairwise_cons.1 h.sorted).1 x hx
      have h2 := (List.pairwise_cons.1 hs).1 y hy
      omega
    subst e
    have := row_eq ⟨h.perm.cons_inv, (List.pairwise_cons.1 h.sorted).2⟩ (List.pairwise_cons.1 hs).2
    rw [this]
theorem row_iff {ts : List (Int × Tk)} {xs : List Int} (hs : xs.Pairwise fun a b => noOf ts a < noOf ts b) {G : List Int → Prop} : (∀ ys, Row ts xs ys → G ys) ↔ G xs :=
  ⟨fun h => h xs ⟨List.Perm.refl _, hs.imp fun h => Int.le_of_lt h⟩, fun h ys hy => row_eq hy hs ▸ h⟩
abbrev W3 : Rm := (3, [(5, ((9, 0), 1)), (6, ((9, 8), 2)), (7, ((9, 0), 3))], [])
theorem r1 {G : List Int → Prop} : (∀ ys, Row (tks (3, [(5, ((9, 0), 1)), (6, ((9, 8), 2)), (7, ((9, 0), 3))], [])) (keysAt (tks (3, [(5, ((9, 0), 1)), (6, ((9, 8), 2)), (7, ((9, 0), 3))], [])) (atP 9 0)) ys → G ys) ↔ G [5, 7] := by
  have e : keysAt (tks W3) (atP 9 0) = [5, 7] := by rfl
  have := row_iff (ts := tks W3) (xs := [5, 7]) (by decide) (G := G)
  rw [← this, ← e]
theorem r2 : (last (3, [(5, ((9, 0), 1)), (6, ((9, 8), 2)), (7, ((9, 0), 3))], []), delAll (tks (3, [(5, ((9, 0), 1)), (6, ((9, 8), 2)), (7, ((9, 0), 3))], [])) [5, 7], als (3, [(5, ((9, 0), 1)), (6, ((9, 8), 2)), (7, ((9, 0), 3))], [])) = ((3, [(6, ((9, 8), 2))], []) : Rm) := by rfl
theorem r3 : sameI [5, 7] [5, 7] = true := by rfl
theorem w1 : waitR (0, [], []) 5 9 0 = (0, (1, [(5, ((9, 0), 1))], [])) := by rfl
theorem w2 : waitR (1, [(5, ((9, 0), 1))], []) 6 9 8 = (0, (2, [(5, ((9, 0), 1)), (6, ((9, 8), 2))], [])) := by rfl
theorem w3 : waitR (2, [(5, ((9, 0), 1)), (6, ((9, 8), 2))], []) 7 9 0 = (0, (3, [(5, ((9, 0), 1)), (6, ((9, 8), 2)), (7, ((9, 0), 3))], [])) := by rfl
theorem w4 : waitR (3, [(6, ((9, 8), 2))], []) 6 9 0 = (8, (3, [(6, ((9, 8), 2))], [])) := by rfl
theorem w5 : postR (3, [(6, ((9, 8), 2))], []) 6 3 = (true, 0, (3, [], [(6, [3])])) := by rfl
theorem w6 : waitR (3, [], [(6, [3])]) 6 9 0 = (10, (3, [], [(6, [3])])) := by rfl
theorem w7 : takeR (3, [], [(6, [3])]) 6 = (3, true, (3, [], [])) := by rfl
theorem lives_ok : PSpecOk PP 8 (Q [] [.bool] (fun _ => true) (fun _ => (true, ()))) := by
  refine pspec_Q mixed (fn := Try.f8) (c := c8) rfl rfl _ _ rfl ?_
  rintro ⟨⟩ - -
  refine ⟨env PP [] [m9, m10, m12, m14, m16, m17, b15] [] [] [], env_ok .., rfl, hold lives_vc ?_⟩
  simp only [true_and, and_true, waitC, turns, wakeC, wakes, takeC, postC, lenC, looks, w1, w2, w3, bne_self_eq_false, true_implies, implies_true, forall_const, r1, r2, r3, w4, w5, w6, w7]
  have h3 : Nat.le 3 1000000000000 := show (3 : Nat) ≤ 1000000000000 by omega
  simp [tks, h3]
noncomputable def p8 : Pv PP := ⟨8, _, ⟨rfl, lives_ok⟩⟩
end Go.Proofs.Ytfdcmbaoekjkgaa
namespace Go.Proofs.Ytfdcmbaoekjkgaa
open Go.Proofs.Ytfdcmbaoekjkgaa.Gx
set_option maxRecDepth 100000
set_option linter.unusedVariables false
set_option maxHeartbeats 0


def nilLoop : List (Nat × (St → Option LoopSpec)) := [(2, fun _ => some { α := Unit, inv := fun _ => True, ov := fun _ => [(9, .int .i64 0)], rov := fun _ => [], meas := fun _ => 0 })]
noncomputable def n10 : Sv PP := ⟨10, inl PP e0 Try.f10 c10, ⟨rfl, inl_ok (env_ok ..) rfl mixed rfl rfl⟩⟩
noncomputable def n11 : Sv PP := ⟨11, inl PP e0 Try.f11 c11, ⟨rfl, inl_ok (env_ok ..) rfl mixed rfl rfl⟩⟩
noncomputable def n12 : Sv PP := ⟨12, inl PP e0 Try.f12 c12, ⟨rfl, inl_ok (env_ok ..) rfl mixed rfl rfl⟩⟩
noncomputable def n16 : Sv PP := ⟨16, inl PP e0 Try.f16 c16, ⟨rfl, inl_ok (env_ok ..) rfl mixed rfl rfl⟩⟩
noncomputable def n17 : Sv PP := ⟨17, inl PP e0 Try.f17 c17, ⟨rfl, inl_ok (env_ok ..) rfl mixed rfl rfl⟩⟩
noncomputable def n18 : Sv PP := ⟨18, inl PP e0 Try.f18 c18, ⟨rfl, inl_ok (env_ok ..) rfl mixed rfl rfl⟩⟩
noncomputable def n21 : Sv PP := ⟨21, inl PP e0 Try.f21 c21, ⟨rfl, inl_ok (env_ok ..) rfl mixed rfl rfl⟩⟩
noncomputable def n22 : Sv PP := ⟨22, inl PP e0 Try.f22 c22, ⟨rfl, inl_ok (env_ok ..) rfl mixed rfl rfl⟩⟩
noncomputable def n27 : Sv PP := ⟨27, inl PP e0 Try.f27 c27, ⟨rfl, inl_ok (env_ok ..) rfl mixed rfl rfl⟩⟩
noncomputable def n29 : Sv PP := ⟨29, inl PP (eL nilLoop) Try.f29 c29, ⟨rfl, inl_ok (env_ok ..) rfl mixed rfl rfl⟩⟩
noncomputable def n13 : Sv PP := ⟨13, inl PP (env PP [] [n27] [] [] []) Try.f13 c13, ⟨rfl, inl_ok (env_ok ..) rfl mixed rfl rfl⟩⟩
noncomputable def n14 : Sv PP := ⟨14, inl PP (env PP [] [n13, n29] [] [] []) Try.f14 c14, ⟨rfl, inl_ok (env_ok ..) rfl mixed rfl rfl⟩⟩
noncomputable def n20 : Sv PP := ⟨20, inl PP (env PP [] [n27, n29] [] [] []) Try.f20 c20, ⟨rfl, inl_ok (env_ok ..) rfl mixed rfl rfl⟩⟩
theorem none_vc (t s o : Int) : (fvc PP (env PP [p8] [n10, n11, n12, n13, n14, n16, n17, n18, n20, n21, n22] [] [] []) Try.f7 c7 (ofArgs [i64, i64, i64] (t, s, o, ())) St0 (gives [.bool] (true, ()))) = (
  true = true ∧ ((!true) = true → false = true ∧ True) ∧ ((!true) = false → (((4 : Int) == (4 : Int)) = true → ∃ (x0 : Unit), True ∧ (((SV.val (Value.slice none (0 : Nat) (0 : Nat)) = SV.val (Value.slice none (0 : Nat) 
  (0 : Nat)) ∧ o = o ∧ s = s ∧ SV.val (Value.pointer none) = SV.val (Value.pointer none) ∧ SV.val (Value.pointer none) = SV.val (Value.pointer none) ∧ SV.val (Value.slice none (0 : Nat) (0 : Nat)) = SV.val (Value.slice 
  none (0 : Nat) (0 : Nat)) ∧ SV.val (Value.pointer none) = SV.val (Value.pointer none) ∧ s = s ∧ o = o ∧ True) ∧ (o = o ∧ s = s ∧ SV.val (Value.pointer none) = SV.val (Value.pointer none) ∧ true = true ∧ true = true ∧ 
  ((4 : Int) == (4 : Int)) = ((4 : Int) == (4 : Int)) ∧ (4 : Int) = (4 : Int) ∧ o = o ∧ s = s ∧ t = t ∧ SV.val (Value.pointer none) = SV.val (Value.pointer none) ∧ false = false ∧ (0 : Int) = (0 : Int) ∧ (0 : Int) = (0 : 
  Int) ∧ false = false ∧ (0 : Int) = (0 : Int) ∧ (4 : Int) = (4 : Int) ∧ false = false ∧ SV.val (Value.pointer none) = SV.val (Value.pointer none) ∧ false = false ∧ false = false ∧ t = t ∧ s = s ∧ o = o ∧ True) ∧ True ∧ 
  True) ∧ ((0 : Int) = (0 : Int) ∧ (0 : Int) = (0 : Int) ∧ SV.val (Value.slice none (0 : Nat) (0 : Nat)) = SV.val (Value.slice none (0 : Nat) (0 : Nat)) ∧ SV.val (Value.slice none (0 : Nat) (0 : Nat)) = SV.val 
  (Value.slice none (0 : Nat) (0 : Nat)) ∧ SV.val (Value.pointer none) = SV.val (Value.pointer none) ∧ SV.val (Value.slice none (0 : Nat) (0 : Nat)) = SV.val (Value.slice none (0 : Nat) (0 : Nat)) ∧ True) ∧ (s = s ∧ 
  True) ∧ (o = o ∧ True) ∧ (SV.val (Value.pointer none) = SV.val (Value.pointer none) ∧ True) ∧ True) ∧ ∀ (x : Unit), True → (decide ((0 : Int) < (0 : Int)) = true → False) ∧ (decide ((0 : Int) < (0 : Int)) = false → 
  (((0 : Int) == (0 : Int)) = true → (((4 : Int) == (4 : Int)) = true → (((0 : Int) == (0 : Int)) = true → ∃ (x0 : Unit), True ∧ (((SV.val (Value.slice none (0 : Nat) (0 : Nat)) = SV.val (Value.slice none (0 : Nat) (0 : 
  Nat)) ∧ (True ∧ True) ∧ SV.val (Value.pointer none) = SV.val (Value.pointer none) ∧ SV.val (Value.pointer none) = SV.val (Value.pointer none) ∧ SV.val (Value.slice none (0 : Nat) (0 : Nat)) = SV.val (Value.slice none 
  (0 : Nat) (0 : Nat)) ∧ True ∧ SV.val (Value.pointer none) = SV.val (Value.pointer none) ∧ s = s ∧ True) ∧ (s = s ∧ SV.val (Value.pointer none) = SV.val (Value.pointer none) ∧ (!false) = !false ∧ (!false) = !false ∧ 
  (!false) = !false ∧ false = false ∧ true = true ∧ true = true ∧ ((0 : Int) == (0 : Int)) = ((0 : Int) == (0 : Int)) ∧ ((0 : Int) == (0 : Int)) = ((0 : Int) == (0 : Int)) ∧ (0 : Int) = (0 : Int) ∧ true = true ∧ true = 
  true ∧ ((4 : Int) == (4 : Int)) = ((4 : Int) == (4 : Int)) ∧ ((4 : Int) == (4 : Int)) = ((4 : Int) == (4 : Int)) ∧ (4 : Int) = (4 : Int) ∧ (!false) = !false ∧ (!false) = !false ∧ (!false) = !false ∧ false = false ∧ 
  true = true ∧ true = true ∧ ((0 : Int) == (0 : Int)) = ((0 : Int) == (0 : Int)) ∧ ((0 : Int) == (0 : Int)) = ((0 : Int) == (0 : Int)) ∧ (0 : Int) = (0 : Int) ∧ SV.val (Value.slice none (0 : Nat) (0 : Nat)) = SV.val 
  (Value.slice none (0 : Nat) (0 : Nat)) ∧ o = o ∧ s = s ∧ SV.val (Value.pointer none) = SV.val (Value.pointer none) ∧ true = true ∧ true = true ∧ ((4 : Int) == (4 : Int)) = ((4 : Int) == (4 : Int)) ∧ (4 : Int) = (4 : 
  Int) ∧ o = o ∧ s = s ∧ t = t ∧ SV.val (Value.pointer none) = SV.val (Value.pointer none) ∧ false = false ∧ (0 : Int) = (0 : Int) ∧ (0 : Int) = (0 : Int) ∧ false = false ∧ (0 : Int) = (0 : Int) ∧ (4 : Int) = (4 : Int) ∧ 
  false = false ∧ SV.val (Value.pointer none) = SV.val (Value.pointer none) ∧ false = false ∧ false = false ∧ t = t ∧ s = s ∧ o = o ∧ True) ∧ True ∧ True) ∧ ((0 : Int) = (0 : Int) ∧ (0 : Int) = (0 : Int) ∧ SV.val 
  (Value.slice none (0 : Nat) (0 : Nat)) = SV.val (Value.slice none (0 : Nat) (0 : Nat)) ∧ SV.val (Value.slice none (0 : Nat) (0 : Nat)) = SV.val (Value.slice none (0 : Nat) (0 : Nat)) ∧ SV.val (Value.pointer none) = 
  SV.val (Value.pointer none) ∧ SV.val (Value.slice none (0 : Nat) (0 : Nat)) = SV.val (Value.slice none (0 : Nat) (0 : Nat)) ∧ True) ∧ (s = s ∧ True) ∧ (o = o ∧ True) ∧ (SV.val (Value.pointer none) = SV.val 
  (Value.pointer none) ∧ True) ∧ (s = s ∧ True) ∧ (SV.val (Value.pointer none) = SV.val (Value.pointer none) ∧ True) ∧ True) ∧ ∀ (x : Unit), True → (decide ((0 : Int) < (0 : Int)) = true → False) ∧ (decide ((0 : Int) < 
  (0 : Int)) = false → (((0 : Int) == (0 : Int)) = true → (((0 : Int) == (0 : Int)) = true → (((0 : Int) == (0 : Int)) = true → (((0 : Int) == (0 : Int)) = true → (((0 : Int) == (0 : Int)) = true → (((0 : Int) == (0 : 
  Int)) = true → true = true ∧ True) ∧ (((0 : Int) == (0 : Int)) = !true → false = true ∧ True)) ∧ (((0 : Int) == (0 : Int)) = !true → false = true ∧ True)) ∧ (((0 : Int) == (0 : Int)) = !true → false = true ∧ True)) ∧ 
  (((0 : Int) == (0 : Int)) = !true → false = true ∧ True)) ∧ (((0 : Int) == (0 : Int)) = !true → false = true ∧ True)) ∧ (((0 : Int) == (0 : Int)) = !true → false = true ∧ True))) ∧ (((0 : Int) == (0 : Int)) = !true → 
  false = true ∧ True)) ∧ (((4 : Int) == (4 : Int)) = !true → false = true ∧ True)) ∧ (((0 : Int) == (0 : Int)) = !true → false = true ∧ True))) ∧ (((4 : Int) == (4 : Int)) = !true → false = true ∧ True))) := by kernel_rfl
end Go.Proofs.Ytfdcmbaoekjkgaa
namespace Go.Proofs.Ytfdcmbaoekjkgaa
open Go.Proofs.Ytfdcmbaoekjkgaa.Gx
set_option maxRecDepth 100000
set_option maxHeartbeats 4000000
set_option linter.unusedSimpArgs false
set_option linter.unusedVariables false
theorem none_ok : PSpecOk PP 7 (Q [i64, i64, i64] [.bool] (fun _ => true) (fun _ => (true, ()))) := by
  refine pspec_Q mixed (fn := Try.f7) (c := c7) rfl rfl _ _ rfl ?_
  rintro ⟨t, s, o, ⟨⟩⟩ - -
  refine ⟨env PP [p8] [n10, n11, n12, n13, n14, n16, n17, n18, n20, n21, n22] [] [] [], env_ok .., rfl, hold (none_vc t s o) ?_⟩
  simp only [true_and, and_true]
  simp
end Go.Proofs.Ytfdcmbaoekjkgaa
