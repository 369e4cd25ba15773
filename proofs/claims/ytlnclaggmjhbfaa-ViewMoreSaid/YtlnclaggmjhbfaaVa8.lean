/- Objects as data; Low, Owner and find, and what they give; conditions: lists below a thousand. -/
import Derived.Test.YtlnclaggmjhbfaaGd8
import Derived.Test.YtlnclaggmjhbfaaLa8
namespace Go.Proofs.Ytlnclaggmjhbfaa
open Go.Proofs.Ytlnclaggmjhbfaa.Gx
set_option linter.unusedSimpArgs false
set_option linter.unusedVariables false
abbrev u64 : Ty := .int .u64
@[reducible] def arrP (t : Ty) : Nat → Ty
  | 0 => t
  | n + 1 => .pair t (arrP t n)
abbrev ints : Ty := .slice i64
abbrev refT : Ty := .pair i64 i64
abbrev mapT : Ty := .pair i64 (.pair i64 (.pair i64 (.pair i64 (.pair i64 (.pair .bool .bool)))))
abbrev infoT : Ty := .pair i64 (.pair i64 (.pair i64 (.pair i64 (.pair i64 lab))))
abbrev stateT : Ty := .pair (arrP u64 15) u64
abbrev objT : Ty := .pair infoT (.pair ints (.pair .str (.pair (.slice mapT) (.pair lab (.pair refT (.pair stateT (.pair u64 (.pair i64 (.pair i64 (.pair i64 (.pair ints (.pair .str .str))))))))))))
theorem objT_ok : tyOf PP 20 42 = some objT := by kernel_rfl
abbrev Obj := objT.den
abbrev oid (o : Obj) : Int := o.1.1
abbrev okind (o : Obj) : Int := o.1.2.1
abbrev olab (o : Obj) : Lab := o.1.2.2.2.2.2
abbrev olist (o : Obj) : List Int := o.2.1
noncomputable def c28 : Code := Try.f28.body.getD .skip
noncomputable def c29 : Code := Try.f29.body.getD .skip
noncomputable def c30 : Code := Try.f30.body.getD .skip
noncomputable def c12 : Code := Try.f12.body.getD .skip
noncomputable def c17 : Code := Try.f17.body.getD .skip
noncomputable def c51 : Code := Try.f51.body.getD .skip
noncomputable def c49 : Code := Try.f49.body.getD .skip
noncomputable def c64 : Code := Try.f64.body.getD .skip
noncomputable def c27 : Code := Try.f27.body.getD .skip
noncomputable def c45 : Code := Try.f45.body.getD .skip
noncomputable def c46 : Code := Try.f46.body.getD .skip
noncomputable def c47 : Code := Try.f47.body.getD .skip
noncomputable def c60 : Code := Try.f60.body.getD .skip
noncomputable def c10 : Code := Try.f10.body.getD .skip
/-- The levels' pairs. -/
def prs (a b : Lab) (l : List (Int × Int)) : List (Int × Int) := l.map fun x => (atL a x.1, atL b x.1)
def okP (x : Int × Int) : Bool := !(decide (x.1 > x.2) || (x.1 == 0 && decide (x.2 < 4)))
def lowV (l : Lab) (o : Lab) : Bool := (prs o l o.2).all okP && ((prs o l l.2).all okP && okP (o.1, l.1))
def badP (x : Int × Int) : Bool := x.1 == 0 && decide (x.2 < 4)
def ownV (l : Lab) (o : Obj) : Bool := ((prs (olab o) l (olab o).2).any badP || ((prs (olab o) l l.2).any badP || badP ((olab o).1, l.1))) && (okind o == 4 || okind o == 5)
end Go.Proofs.Ytlnclaggmjhbfaa
namespace Go.Proofs.Ytlnclaggmjhbfaa
open Go.Proofs.Ytlnclaggmjhbfaa.Gx
set_option maxRecDepth 100000
set_option linter.unusedVariables false
set_option maxHeartbeats 0
def prLoop (a b : Lab) (p : Int × Int → Bool) : List (Nat × (St → Option LoopSpec)) :=
  [(4, fun (S : St) => match getT S.fr.tm 15 with
      | .rs (.pair (.int .i64) (.int .i64)) cs => some { α := Nat, inv := fun i => i ≤ cs.length ∧ (prs a b (cs.drop i)).all p = (prs a b cs).all p, ov := fun i => [(17, .int .i64 (i : Int))], rov := fun _ => [], meas := fun i => cs.length - i }
      | _ => none)]
noncomputable def s30 : Sv PP := ⟨30, inl PP e0 Try.f30 c30, ⟨rfl, inl_ok (env_ok ..) rfl mixed rfl rfl⟩⟩
noncomputable def i51 (a b : Lab) (p : Int × Int → Bool) : Iv PP := ⟨51, inlY PP (envU PP [p52] [] [] [] (prLoop a b p) 3) Try.f51 c51, ⟨rfl, inlY_ok (envU_ok ..) mixed rfl rfl⟩⟩
noncomputable def eLow (a b : Lab) (p : Int × Int → Bool) : Env := env PP [] [s30] [i51 a b p] [] []
theorem low_vc (l : Lab) (o : Obj) : fvc PP (eLow (olab o) l okP) Try.f12 c12 (ofArgs [lab, objT] (l, o, ())) St0 (gives [.bool] (lowV l (olab o), ())) = (
  (decide ((0 : Int) < (2 : Int)) = true → ((0 : Int) ≤ (0 : Int) ∧ (0 : Int) < (↑(2 : Nat) : Int)) ∧ (o.fst.snd.snd.snd.snd.snd.snd.length ≤ maxLen → ∃ (x0 : Nat), (x0 ≤ o.fst.snd.snd.snd.snd.snd.snd.length ∧ (prs (olab 
  o) l (List.drop x0 o.fst.snd.snd.snd.snd.snd.snd)).all okP = (prs (olab o) l o.fst.snd.snd.snd.snd.snd.snd).all okP) ∧ ((((True ∧ True ∧ True) ∧ True ∧ True ∧ True ∧ (l.fst = l.fst ∧ l.snd = l.snd ∧ True) ∧ (o.fst.fst 
  = o.fst.fst ∧ o.fst.snd.fst = o.fst.snd.fst ∧ o.fst.snd.snd.fst = o.fst.snd.snd.fst ∧ o.fst.snd.snd.snd.fst = o.fst.snd.snd.snd.fst ∧ o.fst.snd.snd.snd.snd.fst = o.fst.snd.snd.snd.snd.fst ∧ 
  o.fst.snd.snd.snd.snd.snd.fst = o.fst.snd.snd.snd.snd.snd.fst ∧ o.fst.snd.snd.snd.snd.snd.snd = o.fst.snd.snd.snd.snd.snd.snd ∧ o.snd.fst = o.snd.fst ∧ o.snd.snd.fst = o.snd.snd.fst ∧ o.snd.snd.snd.fst = 
  o.snd.snd.snd.fst ∧ o.snd.snd.snd.snd.fst.fst = o.snd.snd.snd.snd.fst.fst ∧ o.snd.snd.snd.snd.fst.snd = o.snd.snd.snd.snd.fst.snd ∧ o.snd.snd.snd.snd.snd.fst.fst = o.snd.snd.snd.snd.snd.fst.fst ∧ 
  o.snd.snd.snd.snd.snd.fst.snd = o.snd.snd.snd.snd.snd.fst.snd ∧ o.snd.snd.snd.snd.snd.snd.fst.fst.fst = o.snd.snd.snd.snd.snd.snd.fst.fst.fst ∧ o.snd.snd.snd.snd.snd.snd.fst.fst.snd.fst = 
  o.snd.snd.snd.snd.snd.snd.fst.fst.snd.fst ∧ o.snd.snd.snd.snd.snd.snd.fst.fst.snd.snd.fst = o.snd.snd.snd.snd.snd.snd.fst.fst.snd.snd.fst ∧ o.snd.snd.snd.snd.snd.snd.fst.fst.snd.snd.snd.fst = 
  o.snd.snd.snd.snd.snd.snd.fst.fst.snd.snd.snd.fst ∧ o.snd.snd.snd.snd.snd.snd.fst.fst.snd.snd.snd.snd.fst = o.snd.snd.snd.snd.snd.snd.fst.fst.snd.snd.snd.snd.fst ∧ 
  o.snd.snd.snd.snd.snd.snd.fst.fst.snd.snd.snd.snd.snd.fst = o.snd.snd.snd.snd.snd.snd.fst.fst.snd.snd.snd.snd.snd.fst ∧ o.snd.snd.snd.snd.snd.snd.fst.fst.snd.snd.snd.snd.snd.snd.fst = 
  o.snd.snd.snd.snd.snd.snd.fst.fst.snd.snd.snd.snd.snd.snd.fst ∧ o.snd.snd.snd.snd.snd.snd.fst.fst.snd.snd.snd.snd.snd.snd.snd.fst = o.snd.snd.snd.snd.snd.snd.fst.fst.snd.snd.snd.snd.snd.snd.snd.fst ∧ 
  o.snd.snd.snd.snd.snd.snd.fst.fst.snd.snd.snd.snd.snd.snd.snd.snd.fst = o.snd.snd.snd.snd.snd.snd.fst.fst.snd.snd.snd.snd.snd.snd.snd.snd.fst ∧ o.snd.snd.snd.snd.snd.snd.fst.fst.snd.snd.snd.snd.snd.snd.snd.snd.snd.fst 
  = o.snd.snd.snd.snd.snd.snd.fst.fst.snd.snd.snd.snd.snd.snd.snd.snd.snd.fst ∧ o.snd.snd.snd.snd.snd.snd.fst.fst.snd.snd.snd.snd.snd.snd.snd.snd.snd.snd.fst = 
  o.snd.snd.snd.snd.snd.snd.fst.fst.snd.snd.snd.snd.snd.snd.snd.snd.snd.snd.fst ∧ o.snd.snd.snd.snd.snd.snd.fst.fst.snd.snd.snd.snd.snd.snd.snd.snd.snd.snd.snd.fst = 
  o.snd.snd.snd.snd.snd.snd.fst.fst.snd.snd.snd.snd.snd.snd.snd.snd.snd.snd.snd.fst ∧ o.snd.snd.snd.snd.snd.snd.fst.fst.snd.snd.snd.snd.snd.snd.snd.snd.snd.snd.snd.snd.fst = 
  o.snd.snd.snd.snd.snd.snd.fst.fst.snd.snd.snd.snd.snd.snd.snd.snd.snd.snd.snd.snd.fst ∧ o.snd.snd.snd.snd.snd.snd.fst.fst.snd.snd.snd.snd.snd.snd.snd.snd.snd.snd.snd.snd.snd.fst = 
  o.snd.snd.snd.snd.snd.snd.fst.fst.snd.snd.snd.snd.snd.snd.snd.snd.snd.snd.snd.snd.snd.fst ∧ o.snd.snd.snd.snd.snd.snd.fst.fst.snd.snd.snd.snd.snd.snd.snd.snd.snd.snd.snd.snd.snd.snd.fst = 
  o.snd.snd.snd.snd.snd.snd.fst.fst.snd.snd.snd.snd.snd.snd.snd.snd.snd.snd.snd.snd.snd.snd.fst ∧ o.snd.snd.snd.snd.snd.snd.fst.fst.snd.snd.snd.snd.snd.snd.snd.snd.snd.snd.snd.snd.snd.snd.snd = 
  o.snd.snd.snd.snd.snd.snd.fst.fst.snd.snd.snd.snd.snd.snd.snd.snd.snd.snd.snd.snd.snd.snd.snd ∧ o.snd.snd.snd.snd.snd.snd.fst.snd = o.snd.snd.snd.snd.snd.snd.fst.snd ∧ o.snd.snd.snd.snd.snd.snd.snd.fst = 
  o.snd.snd.snd.snd.snd.snd.snd.fst ∧ o.snd.snd.snd.snd.snd.snd.snd.snd.fst = o.snd.snd.snd.snd.snd.snd.snd.snd.fst ∧ o.snd.snd.snd.snd.snd.snd.snd.snd.snd.fst = o.snd.snd.snd.snd.snd.snd.snd.snd.snd.fst ∧ 
  o.snd.snd.snd.snd.snd.snd.snd.snd.snd.snd.fst = o.snd.snd.snd.snd.snd.snd.snd.snd.snd.snd.fst ∧ o.snd.snd.snd.snd.snd.snd.snd.snd.snd.snd.snd.fst = o.snd.snd.snd.snd.snd.snd.snd.snd.snd.snd.snd.fst ∧ 
  o.snd.snd.snd.snd.snd.snd.snd.snd.snd.snd.snd.snd.fst = o.snd.snd.snd.snd.snd.snd.snd.snd.snd.snd.snd.snd.fst ∧ o.snd.snd.snd.snd.snd.snd.snd.snd.snd.snd.snd.snd.snd = 
  o.snd.snd.snd.snd.snd.snd.snd.snd.snd.snd.snd.snd.snd ∧ True) ∧ True) ∧ True ∧ True) ∧ ((0 : Int) = (↑x0 : Int) ∧ (↑o.fst.snd.snd.snd.snd.snd.snd.length : Int) = (↑o.fst.snd.snd.snd.snd.snd.snd.length : Int) ∧ 
  o.fst.snd.snd.snd.snd.snd.snd = o.fst.snd.snd.snd.snd.snd.snd ∧ True ∧ true = true ∧ (0 : Int) = (0 : Int) ∧ (o.fst.snd.snd.snd.snd.snd.fst = o.fst.snd.snd.snd.snd.snd.fst ∧ o.fst.snd.snd.snd.snd.snd.snd = 
  o.fst.snd.snd.snd.snd.snd.snd ∧ l.fst = l.fst ∧ l.snd = l.snd ∧ True) ∧ True ∧ True ∧ True ∧ True) ∧ (l.fst = l.fst ∧ l.snd = l.snd ∧ True) ∧ (o.fst.fst = o.fst.fst ∧ o.fst.snd.fst = o.fst.snd.fst ∧ o.fst.snd.snd.fst = 
  o.fst.snd.snd.fst ∧ o.fst.snd.snd.snd.fst = o.fst.snd.snd.snd.fst ∧ o.fst.snd.snd.snd.snd.fst = o.fst.snd.snd.snd.snd.fst ∧ o.fst.snd.snd.snd.snd.snd.fst = o.fst.snd.snd.snd.snd.snd.fst ∧ o.fst.snd.snd.snd.snd.snd.snd 
  = o.fst.snd.snd.snd.snd.snd.snd ∧ o.snd.fst = o.snd.fst ∧ o.snd.snd.fst = o.snd.snd.fst ∧ o.snd.snd.snd.fst = o.snd.snd.snd.fst ∧ o.snd.snd.snd.snd.fst.fst = o.snd.snd.snd.snd.fst.fst ∧ o.snd.snd.snd.snd.fst.snd = 
  o.snd.snd.snd.snd.fst.snd ∧ o.snd.snd.snd.snd.snd.fst.fst = o.snd.snd.snd.snd.snd.fst.fst ∧ o.snd.snd.snd.snd.snd.fst.snd = o.snd.snd.snd.snd.snd.fst.snd ∧ o.snd.snd.snd.snd.snd.snd.fst.fst.fst = 
  o.snd.snd.snd.snd.snd.snd.fst.fst.fst ∧ o.snd.snd.snd.snd.snd.snd.fst.fst.snd.fst = o.snd.snd.snd.snd.snd.snd.fst.fst.snd.fst ∧ o.snd.snd.snd.snd.snd.snd.fst.fst.snd.snd.fst = 
  o.snd.snd.snd.snd.snd.snd.fst.fst.snd.snd.fst ∧ o.snd.snd.snd.snd.snd.snd.fst.fst.snd.snd.snd.fst = o.snd.snd.snd.snd.snd.snd.fst.fst.snd.snd.snd.fst ∧ o.snd.snd.snd.snd.snd.snd.fst.fst.snd.snd.snd.snd.fst = 
  o.snd.snd.snd.snd.snd.snd.fst.fst.snd.snd.snd.snd.fst ∧ o.snd.snd.snd.snd.snd.snd.fst.fst.snd.snd.snd.snd.snd.fst = o.snd.snd.snd.snd.snd.snd.fst.fst.snd.snd.snd.snd.snd.fst ∧ 
  o.snd.snd.snd.snd.snd.snd.fst.fst.snd.snd.snd.snd.snd.snd.fst = o.snd.snd.snd.snd.snd.snd.fst.fst.snd.snd.snd.snd.snd.snd.fst ∧ o.snd.snd.snd.snd.snd.snd.fst.fst.snd.snd.snd.snd.snd.snd.snd.fst = 
  o.snd.snd.snd.snd.snd.snd.fst.fst.snd.snd.snd.snd.snd.snd.snd.fst ∧ o.snd.snd.snd.snd.snd.snd.fst.fst.snd.snd.snd.snd.snd.snd.snd.snd.fst = o.snd.snd.snd.snd.snd.snd.fst.fst.snd.snd.snd.snd.snd.snd.snd.snd.fst ∧ 
  o.snd.snd.snd.snd.snd.snd.fst.fst.snd.snd.snd.snd.snd.snd.snd.snd.snd.fst = o.snd.snd.snd.snd.snd.snd.fst.fst.snd.snd.snd.snd.snd.snd.snd.snd.snd.fst ∧ 
  o.snd.snd.snd.snd.snd.snd.fst.fst.snd.snd.snd.snd.snd.snd.snd.snd.snd.snd.fst = o.snd.snd.snd.snd.snd.snd.fst.fst.snd.snd.snd.snd.snd.snd.snd.snd.snd.snd.fst ∧ 
  o.snd.snd.snd.snd.snd.snd.fst.fst.snd.snd.snd.snd.snd.snd.snd.snd.snd.snd.snd.fst = o.snd.snd.snd.snd.snd.snd.fst.fst.snd.snd.snd.snd.snd.snd.snd.snd.snd.snd.snd.fst ∧ 
  o.snd.snd.snd.snd.snd.snd.fst.fst.snd.snd.snd.snd.snd.snd.snd.snd.snd.snd.snd.snd.fst = o.snd.snd.snd.snd.snd.snd.fst.fst.snd.snd.snd.snd.snd.snd.snd.snd.snd.snd.snd.snd.fst ∧ 
  o.snd.snd.snd.snd.snd.snd.fst.fst.snd.snd.snd.snd.snd.snd.snd.snd.snd.snd.snd.snd.snd.fst = o.snd.snd.snd.snd.snd.snd.fst.fst.snd.snd.snd.snd.snd.snd.snd.snd.snd.snd.snd.snd.snd.fst ∧ 
  o.snd.snd.snd.snd.snd.snd.fst.fst.snd.snd.snd.snd.snd.snd.snd.snd.snd.snd.snd.snd.snd.snd.fst = o.snd.snd.snd.snd.snd.snd.fst.fst.snd.snd.snd.snd.snd.snd.snd.snd.snd.snd.snd.snd.snd.snd.fst ∧ 
  o.snd.snd.snd.snd.snd.snd.fst.fst.snd.snd.snd.snd.snd.snd.snd.snd.snd.snd.snd.snd.snd.snd.snd = o.snd.snd.snd.snd.snd.snd.fst.fst.snd.snd.snd.snd.snd.snd.snd.snd.snd.snd.snd.snd.snd.snd.snd ∧ 
  o.snd.snd.snd.snd.snd.snd.fst.snd = o.snd.snd.snd.snd.snd.snd.fst.snd ∧ o.snd.snd.snd.snd.snd.snd.snd.fst = o.snd.snd.snd.snd.snd.snd.snd.fst ∧ o.snd.snd.snd.snd.snd.snd.snd.snd.fst = 
  o.snd.snd.snd.snd.snd.snd.snd.snd.fst ∧ o.snd.snd.snd.snd.snd.snd.snd.snd.snd.fst = o.snd.snd.snd.snd.snd.snd.snd.snd.snd.fst ∧ o.snd.snd.snd.snd.snd.snd.snd.snd.snd.snd.fst = 
  o.snd.snd.snd.snd.snd.snd.snd.snd.snd.snd.fst ∧ o.snd.snd.snd.snd.snd.snd.snd.snd.snd.snd.snd.fst = o.snd.snd.snd.snd.snd.snd.snd.snd.snd.snd.snd.fst ∧ o.snd.snd.snd.snd.snd.snd.snd.snd.snd.snd.snd.snd.fst = 
  o.snd.snd.snd.snd.snd.snd.snd.snd.snd.snd.snd.snd.fst ∧ o.snd.snd.snd.snd.snd.snd.snd.snd.snd.snd.snd.snd.snd = o.snd.snd.snd.snd.snd.snd.snd.snd.snd.snd.snd.snd.snd ∧ True) ∧ (false = false ∧ True) ∧ 
  (o.fst.snd.snd.snd.snd.snd.fst = o.fst.snd.snd.snd.snd.snd.fst ∧ o.fst.snd.snd.snd.snd.snd.snd = o.fst.snd.snd.snd.snd.snd.snd ∧ True) ∧ (l.fst = l.fst ∧ l.snd = l.snd ∧ True) ∧ True ∧ ((True ∧ True ∧ True) ∧ True ∧ 
  True ∧ True ∧ (l.fst = l.fst ∧ l.snd = l.snd ∧ True) ∧ (o.fst.fst = o.fst.fst ∧ o.fst.snd.fst = o.fst.snd.fst ∧ o.fst.snd.snd.fst = o.fst.snd.snd.fst ∧ o.fst.snd.snd.snd.fst = o.fst.snd.snd.snd.fst ∧ 
  o.fst.snd.snd.snd.snd.fst = o.fst.snd.snd.snd.snd.fst ∧ o.fst.snd.snd.snd.snd.snd.fst = o.fst.snd.snd.snd.snd.snd.fst ∧ o.fst.snd.snd.snd.snd.snd.snd = o.fst.snd.snd.snd.snd.snd.snd ∧ o.snd.fst = o.snd.fst ∧ 
  o.snd.snd.fst = o.snd.snd.fst ∧ o.snd.snd.snd.fst = o.snd.snd.snd.fst ∧ o.snd.snd.snd.snd.fst.fst = o.snd.snd.snd.snd.fst.fst ∧ o.snd.snd.snd.snd.fst.snd = o.snd.snd.snd.snd.fst.snd ∧ o.snd.snd.snd.snd.snd.fst.fst = 
  o.snd.snd.snd.snd.snd.fst.fst ∧ o.snd.snd.snd.snd.snd.fst.snd = o.snd.snd.snd.snd.snd.fst.snd ∧ o.snd.snd.snd.snd.snd.snd.fst.fst.fst = o.snd.snd.snd.snd.snd.snd.fst.fst.fst ∧ o.snd.snd.snd.snd.snd.snd.fst.fst.snd.fst 
  = o.snd.snd.snd.snd.snd.snd.fst.fst.snd.fst ∧ o.snd.snd.snd.snd.snd.snd.fst.fst.snd.snd.fst = o.snd.snd.snd.snd.snd.snd.fst.fst.snd.snd.fst ∧ o.snd.snd.snd.snd.snd.snd.fst.fst.snd.snd.snd.fst = 
  o.snd.snd.snd.snd.snd.snd.fst.fst.snd.snd.snd.fst ∧ o.snd.snd.snd.snd.snd.snd.fst.fst.snd.snd.snd.snd.fst = o.snd.snd.snd.snd.snd.snd.fst.fst.snd.snd.snd.snd.fst ∧ 
  o.snd.snd.snd.snd.snd.snd.fst.fst.snd.snd.snd.snd.snd.fst = o.snd.snd.snd.snd.snd.snd.fst.fst.snd.snd.snd.snd.snd.fst ∧ o.snd.snd.snd.snd.snd.snd.fst.fst.snd.snd.snd.snd.snd.snd.fst = 
  o.snd.snd.snd.snd.snd.snd.fst.fst.snd.snd.snd.snd.snd.snd.fst ∧ o.snd.snd.snd.snd.snd.snd.fst.fst.snd.snd.snd.snd.snd.snd.snd.fst = o.snd.snd.snd.snd.snd.snd.fst.fst.snd.snd.snd.snd.snd.snd.snd.fst ∧ 
  o.snd.snd.snd.snd.snd.snd.fst.fst.snd.snd.snd.snd.snd.snd.snd.snd.fst = o.snd.snd.snd.snd.snd.snd.fst.fst.snd.snd.snd.snd.snd.snd.snd.snd.fst ∧ o.snd.snd.snd.snd.snd.snd.fst.fst.snd.snd.snd.snd.snd.snd.snd.snd.snd.fst 
  = o.snd.snd.snd.snd.snd.snd.fst.fst.snd.snd.snd.snd.snd.snd.snd.snd.snd.fst ∧ o.snd.snd.snd.snd.snd.snd.fst.fst.snd.snd.snd.snd.snd.snd.snd.snd.snd.snd.fst = 
  o.snd.snd.snd.snd.snd.snd.fst.fst.snd.snd.snd.snd.snd.snd.snd.snd.snd.snd.fst ∧ o.snd.snd.snd.snd.snd.snd.fst.fst.snd.snd.snd.snd.snd.snd.snd.snd.snd.snd.snd.fst = 
  o.snd.snd.snd.snd.snd.snd.fst.fst.snd.snd.snd.snd.snd.snd.snd.snd.snd.snd.snd.fst ∧ o.snd.snd.snd.snd.snd.snd.fst.fst.snd.snd.snd.snd.snd.snd.snd.snd.snd.snd.snd.snd.fst = 
  o.snd.snd.snd.snd.snd.snd.fst.fst.snd.snd.snd.snd.snd.snd.snd.snd.snd.snd.snd.snd.fst ∧ o.snd.snd.snd.snd.snd.snd.fst.fst.snd.snd.snd.snd.snd.snd.snd.snd.snd.snd.snd.snd.snd.fst = 
  o.snd.snd.snd.snd.snd.snd.fst.fst.snd.snd.snd.snd.snd.snd.snd.snd.snd.snd.snd.snd.snd.fst ∧ o.snd.snd.snd.snd.snd.snd.fst.fst.snd.snd.snd.snd.snd.snd.snd.snd.snd.snd.snd.snd.snd.snd.fst = 
  o.snd.snd.snd.snd.snd.snd.fst.fst.snd.snd.snd.snd.snd.snd.snd.snd.snd.snd.snd.snd.snd.snd.fst ∧ o.snd.snd.snd.snd.snd.snd.fst.fst.snd.snd.snd.snd.snd.snd.snd.snd.snd.snd.snd.snd.snd.snd.snd = 
  o.snd.snd.snd.snd.snd.snd.fst.fst.snd.snd.snd.snd.snd.snd.snd.snd.snd.snd.snd.snd.snd.snd.snd ∧ o.snd.snd.snd.snd.snd.snd.fst.snd = o.snd.snd.snd.snd.snd.snd.fst.snd ∧ o.snd.snd.snd.snd.snd.snd.snd.fst = 
  o.snd.snd.snd.snd.snd.snd.snd.fst ∧ o.snd.snd.snd.snd.snd.snd.snd.snd.fst = o.snd.snd.snd.snd.snd.snd.snd.snd.fst ∧ o.snd.snd.snd.snd.snd.snd.snd.snd.snd.fst = o.snd.snd.snd.snd.snd.snd.snd.snd.snd.fst ∧ 
  o.snd.snd.snd.snd.snd.snd.snd.snd.snd.snd.fst = o.snd.snd.snd.snd.snd.snd.snd.snd.snd.snd.fst ∧ o.snd.snd.snd.snd.snd.snd.snd.snd.snd.snd.snd.fst = o.snd.snd.snd.snd.snd.snd.snd.snd.snd.snd.snd.fst ∧ 
  o.snd.snd.snd.snd.snd.snd.snd.snd.snd.snd.snd.snd.fst = o.snd.snd.snd.snd.snd.snd.snd.snd.snd.snd.snd.snd.fst ∧ o.snd.snd.snd.snd.snd.snd.snd.snd.snd.snd.snd.snd.snd = 
  o.snd.snd.snd.snd.snd.snd.snd.snd.snd.snd.snd.snd.snd ∧ True) ∧ True) ∧ (o.fst.snd.snd.snd.snd.snd.fst = o.fst.snd.snd.snd.snd.snd.fst ∧ o.fst.snd.snd.snd.snd.snd.snd = o.fst.snd.snd.snd.snd.snd.snd ∧ True) ∧ True) ∧ ∀ 
  (x : Nat), x ≤ o.fst.snd.snd.snd.snd.snd.snd.length ∧ (prs (olab o) l (List.drop x o.fst.snd.snd.snd.snd.snd.snd)).all okP = (prs (olab o) l o.fst.snd.snd.snd.snd.snd.snd).all okP → (decide ((↑x : Int) < 
  (↑o.fst.snd.snd.snd.snd.snd.snd.length : Int)) = true → ((0 : Int) ≤ (↑x : Int) ∧ (↑x : Int) < (↑o.fst.snd.snd.snd.snd.snd.snd.length : Int)) ∧ ∀ (y : Int × Int), o.fst.snd.snd.snd.snd.snd.snd[(↑x : Int).toNat]? = some 
  y → true = true ∧ true = true ∧ ∃ (v : Bool), ((decide (atL (o.fst.snd.snd.snd.snd.snd.fst, o.fst.snd.snd.snd.snd.snd.snd) y.fst > atL (l.fst, l.snd) y.fst) = false → ((atL (o.fst.snd.snd.snd.snd.snd.fst, 
  o.fst.snd.snd.snd.snd.snd.snd) y.fst == (0 : Int)) = true → decide (atL (l.fst, l.snd) y.fst < (4 : Int)) = v) ∧ ((atL (o.fst.snd.snd.snd.snd.snd.fst, o.fst.snd.snd.snd.snd.snd.snd) y.fst == (0 : Int)) = !true → false 
  = v)) ∧ (decide (atL (o.fst.snd.snd.snd.snd.snd.fst, o.fst.snd.snd.snd.snd.snd.snd) y.fst > atL (l.fst, l.snd) y.fst) = !false → true = v)) ∧ (v = true → false = lowV l (olab o) ∧ True) ∧ (v = false → ∃ (x' : Nat), (x' 
  ≤ o.fst.snd.snd.snd.snd.snd.snd.length ∧ (prs (olab o) l (List.drop x' o.fst.snd.snd.snd.snd.snd.snd)).all okP = (prs (olab o) l o.fst.snd.snd.snd.snd.snd.snd).all okP) ∧ o.fst.snd.snd.snd.snd.snd.snd.length - x' < 
  o.fst.snd.snd.snd.snd.snd.snd.length - x ∧ (((True ∧ True ∧ True) ∧ True ∧ True ∧ True ∧ (l.fst = l.fst ∧ l.snd = l.snd ∧ True) ∧ (o.fst.fst = o.fst.fst ∧ o.fst.snd.fst = o.fst.snd.fst ∧ o.fst.snd.snd.fst = 
  o.fst.snd.snd.fst ∧ o.fst.snd.snd.snd.fst = o.fst.snd.snd.snd.fst ∧ o.fst.snd.snd.snd.snd.fst = o.fst.snd.snd.snd.snd.fst ∧ o.fst.snd.snd.snd.snd.snd.fst = o.fst.snd.snd.snd.snd.snd.fst ∧ o.fst.snd.snd.snd.snd.snd.snd 
  = o.fst.snd.snd.snd.snd.snd.snd ∧ o.snd.fst = o.snd.fst ∧ o.snd.snd.fst = o.snd.snd.fst ∧ o.snd.snd.snd.fst = o.snd.snd.snd.fst ∧ o.snd.snd.snd.snd.fst.fst = o.snd.snd.snd.snd.fst.fst ∧ o.snd.snd.snd.snd.fst.snd = 
  o.snd.snd.snd.snd.fst.snd ∧ o.snd.snd.snd.snd.snd.fst.fst = o.snd.snd.snd.snd.snd.fst.fst ∧ o.snd.snd.snd.snd.snd.fst.snd = o.snd.snd.snd.snd.snd.fst.snd ∧ o.snd.snd.snd.snd.snd.snd.fst.fst.fst = 
  o.snd.snd.snd.snd.snd.snd.fst.fst.fst ∧ o.snd.snd.snd.snd.snd.snd.fst.fst.snd.fst = o.snd.snd.snd.snd.snd.snd.fst.fst.snd.fst ∧ o.snd.snd.snd.snd.snd.snd.fst.fst.snd.snd.fst = 
  o.snd.snd.snd.snd.snd.snd.fst.fst.snd.snd.fst ∧ o.snd.snd.snd.snd.snd.snd.fst.fst.snd.snd.snd.fst = o.snd.snd.snd.snd.snd.snd.fst.fst.snd.snd.snd.fst ∧ o.snd.snd.snd.snd.snd.snd.fst.fst.snd.snd.snd.snd.fst = 
  o.snd.snd.snd.snd.snd.snd.fst.fst.snd.snd.snd.snd.fst ∧ o.snd.snd.snd.snd.snd.snd.fst.fst.snd.snd.snd.snd.snd.fst = o.snd.snd.snd.snd.snd.snd.fst.fst.snd.snd.snd.snd.snd.fst ∧ 
  o.snd.snd.snd.snd.snd.snd.fst.fst.snd.snd.snd.snd.snd.snd.fst = o.snd.snd.snd.snd.snd.snd.fst.fst.snd.snd.snd.snd.snd.snd.fst ∧ o.snd.snd.snd.snd.snd.snd.fst.fst.snd.snd.snd.snd.snd.snd.snd.fst = 
  o.snd.snd.snd.snd.snd.snd.fst.fst.snd.snd.snd.snd.snd.snd.snd.fst ∧ o.snd.snd.snd.snd.snd.snd.fst.fst.snd.snd.snd.snd.snd.snd.snd.snd.fst = o.snd.snd.snd.snd.snd.snd.fst.fst.snd.snd.snd.snd.snd.snd.snd.snd.fst ∧ 
  o.snd.snd.snd.snd.snd.snd.fst.fst.snd.snd.snd.snd.snd.snd.snd.snd.snd.fst = o.snd.snd.snd.snd.snd.snd.fst.fst.snd.snd.snd.snd.snd.snd.snd.snd.snd.fst ∧ 
  o.snd.snd.snd.snd.snd.snd.fst.fst.snd.snd.snd.snd.snd.snd.snd.snd.snd.snd.fst = o.snd.snd.snd.snd.snd.snd.fst.fst.snd.snd.snd.snd.snd.snd.snd.snd.snd.snd.fst ∧ 
  o.snd.snd.snd.snd.snd.snd.fst.fst.snd.snd.snd.snd.snd.snd.snd.snd.snd.snd.snd.fst = o.snd.snd.snd.snd.snd.snd.fst.fst.snd.snd.snd.snd.snd.snd.snd.snd.snd.snd.snd.fst ∧ 
  o.snd.snd.snd.snd.snd.snd.fst.fst.snd.snd.snd.snd.snd.snd.snd.snd.snd.snd.snd.snd.fst = o.snd.snd.snd.snd.snd.snd.fst.fst.snd.snd.snd.snd.snd.snd.snd.snd.snd.snd.snd.snd.fst ∧ 
  o.snd.snd.snd.snd.snd.snd.fst.fst.snd.snd.snd.snd.snd.snd.snd.snd.snd.snd.snd.snd.snd.fst = o.snd.snd.snd.snd.snd.snd.fst.fst.snd.snd.snd.snd.snd.snd.snd.snd.snd.snd.snd.snd.snd.fst ∧ 
  o.snd.snd.snd.snd.snd.snd.fst.fst.snd.snd.snd.snd.snd.snd.snd.snd.snd.snd.snd.snd.snd.snd.fst = o.snd.snd.snd.snd.snd.snd.fst.fst.snd.snd.snd.snd.snd.snd.snd.snd.snd.snd.snd.snd.snd.snd.fst ∧ 
  o.snd.snd.snd.snd.snd.snd.fst.fst.snd.snd.snd.snd.snd.snd.snd.snd.snd.snd.snd.snd.snd.snd.snd = o.snd.snd.snd.snd.snd.snd.fst.fst.snd.snd.snd.snd.snd.snd.snd.snd.snd.snd.snd.snd.snd.snd.snd ∧ 
  o.snd.snd.snd.snd.snd.snd.fst.snd = o.snd.snd.snd.snd.snd.snd.fst.snd ∧ o.snd.snd.snd.snd.snd.snd.snd.fst = o.snd.snd.snd.snd.snd.snd.snd.fst ∧ o.snd.snd.snd.snd.snd.snd.snd.snd.fst = 
  o.snd.snd.snd.snd.snd.snd.snd.snd.fst ∧ o.snd.snd.snd.snd.snd.snd.snd.snd.snd.fst = o.snd.snd.snd.snd.snd.snd.snd.snd.snd.fst ∧ o.snd.snd.snd.snd.snd.snd.snd.snd.snd.snd.fst = 
  o.snd.snd.snd.snd.snd.snd.snd.snd.snd.snd.fst ∧ o.snd.snd.snd.snd.snd.snd.snd.snd.snd.snd.snd.fst = o.snd.snd.snd.snd.snd.snd.snd.snd.snd.snd.snd.fst ∧ o.snd.snd.snd.snd.snd.snd.snd.snd.snd.snd.snd.snd.fst = 
  o.snd.snd.snd.snd.snd.snd.snd.snd.snd.snd.snd.snd.fst ∧ o.snd.snd.snd.snd.snd.snd.snd.snd.snd.snd.snd.snd.snd = o.snd.snd.snd.snd.snd.snd.snd.snd.snd.snd.snd.snd.snd ∧ True) ∧ True) ∧ True ∧ True) ∧ (IntKind.i64.wrap 
  ((↑x : Int) + (1 : Int)) = (↑x' : Int) ∧ (↑o.fst.snd.snd.snd.snd.snd.snd.length : Int) = (↑o.fst.snd.snd.snd.snd.snd.snd.length : Int) ∧ o.fst.snd.snd.snd.snd.snd.snd = o.fst.snd.snd.snd.snd.snd.snd ∧ True ∧ true = 
  true ∧ (0 : Int) = (0 : Int) ∧ (o.fst.snd.snd.snd.snd.snd.fst = o.fst.snd.snd.snd.snd.snd.fst ∧ o.fst.snd.snd.snd.snd.snd.snd = o.fst.snd.snd.snd.snd.snd.snd ∧ l.fst = l.fst ∧ l.snd = l.snd ∧ True) ∧ True ∧ True ∧ True 
  ∧ True) ∧ (l.fst = l.fst ∧ l.snd = l.snd ∧ True) ∧ (o.fst.fst = o.fst.fst ∧ o.fst.snd.fst = o.fst.snd.fst ∧ o.fst.snd.snd.fst = o.fst.snd.snd.fst ∧ o.fst.snd.snd.snd.fst = o.fst.snd.snd.snd.fst ∧ 
  o.fst.snd.snd.snd.snd.fst = o.fst.snd.snd.snd.snd.fst ∧ o.fst.snd.snd.snd.snd.snd.fst = o.fst.snd.snd.snd.snd.snd.fst ∧ o.fst.snd.snd.snd.snd.snd.snd = o.fst.snd.snd.snd.snd.snd.snd ∧ o.snd.fst = o.snd.fst ∧ 
  o.snd.snd.fst = o.snd.snd.fst ∧ o.snd.snd.snd.fst = o.snd.snd.snd.fst ∧ o.snd.snd.snd.snd.fst.fst = o.snd.snd.snd.snd.fst.fst ∧ o.snd.snd.snd.snd.fst.snd = o.snd.snd.snd.snd.fst.snd ∧ o.snd.snd.snd.snd.snd.fst.fst = 
  o.snd.snd.snd.snd.snd.fst.fst ∧ o.snd.snd.snd.snd.snd.fst.snd = o.snd.snd.snd.snd.snd.fst.snd ∧ o.snd.snd.snd.snd.snd.snd.fst.fst.fst = o.snd.snd.snd.snd.snd.snd.fst.fst.fst ∧ o.snd.snd.snd.snd.snd.snd.fst.fst.snd.fst 
  = o.snd.snd.snd.snd.snd.snd.fst.fst.snd.fst ∧ o.snd.snd.snd.snd.snd.snd.fst.fst.snd.snd.fst = o.snd.snd.snd.snd.snd.snd.fst.fst.snd.snd.fst ∧ o.snd.snd.snd.snd.snd.snd.fst.fst.snd.snd.snd.fst = 
  o.snd.snd.snd.snd.snd.snd.fst.fst.snd.snd.snd.fst ∧ o.snd.snd.snd.snd.snd.snd.fst.fst.snd.snd.snd.snd.fst = o.snd.snd.snd.snd.snd.snd.fst.fst.snd.snd.snd.snd.fst ∧ 
  o.snd.snd.snd.snd.snd.snd.fst.fst.snd.snd.snd.snd.snd.fst = o.snd.snd.snd.snd.snd.snd.fst.fst.snd.snd.snd.snd.snd.fst ∧ o.snd.snd.snd.snd.snd.snd.fst.fst.snd.snd.snd.snd.snd.snd.fst = 
  o.snd.snd.snd.snd.snd.snd.fst.fst.snd.snd.snd.snd.snd.snd.fst ∧ o.snd.snd.snd.snd.snd.snd.fst.fst.snd.snd.snd.snd.snd.snd.snd.fst = o.snd.snd.snd.snd.snd.snd.fst.fst.snd.snd.snd.snd.snd.snd.snd.fst ∧ 
  o.snd.snd.snd.snd.snd.snd.fst.fst.snd.snd.snd.snd.snd.snd.snd.snd.fst = o.snd.snd.snd.snd.snd.snd.fst.fst.snd.snd.snd.snd.snd.snd.snd.snd.fst ∧ o.snd.snd.snd.snd.snd.snd.fst.fst.snd.snd.snd.snd.snd.snd.snd.snd.snd.fst 
  = o.snd.snd.snd.snd.snd.snd.fst.fst.snd.snd.snd.snd.snd.snd.snd.snd.snd.fst ∧ o.snd.snd.snd.snd.snd.snd.fst.fst.snd.snd.snd.snd.snd.snd.snd.snd.snd.snd.fst = 
  o.snd.snd.snd.snd.snd.snd.fst.fst.snd.snd.snd.snd.snd.snd.snd.snd.snd.snd.fst ∧ o.snd.snd.snd.snd.snd.snd.fst.fst.snd.snd.snd.snd.snd.snd.snd.snd.snd.snd.snd.fst = 
  o.snd.snd.snd.snd.snd.snd.fst.fst.snd.snd.snd.snd.snd.snd.snd.snd.snd.snd.snd.fst ∧ o.snd.snd.snd.snd.snd.snd.fst.fst.snd.snd.snd.snd.snd.snd.snd.snd.snd.snd.snd.snd.fst = 
  o.snd.snd.snd.snd.snd.snd.fst.fst.snd.snd.snd.snd.snd.snd.snd.snd.snd.snd.snd.snd.fst ∧ o.snd.snd.snd.snd.snd.snd.fst.fst.snd.snd.snd.snd.snd.snd.snd.snd.snd.snd.snd.snd.snd.fst = 
  o.snd.snd.snd.snd.snd.snd.fst.fst.snd.snd.snd.snd.snd.snd.snd.snd.snd.snd.snd.snd.snd.fst ∧ o.snd.snd.snd.snd.snd.snd.fst.fst.snd.snd.snd.snd.snd.snd.snd.snd.snd.snd.snd.snd.snd.snd.fst = 
  o.snd.snd.snd.snd.snd.snd.fst.fst.snd.snd.snd.snd.snd.snd.snd.snd.snd.snd.snd.snd.snd.snd.fst ∧ o.snd.snd.snd.snd.snd.snd.fst.fst.snd.snd.snd.snd.snd.snd.snd.snd.snd.snd.snd.snd.snd.snd.snd = 
  o.snd.snd.snd.snd.snd.snd.fst.fst.snd.snd.snd.snd.snd.snd.snd.snd.snd.snd.snd.snd.snd.snd.snd ∧ o.snd.snd.snd.snd.snd.snd.fst.snd = o.snd.snd.snd.snd.snd.snd.fst.snd ∧ o.snd.snd.snd.snd.snd.snd.snd.fst = 
  o.snd.snd.snd.snd.snd.snd.snd.fst ∧ o.snd.snd.snd.snd.snd.snd.snd.snd.fst = o.snd.snd.snd.snd.snd.snd.snd.snd.fst ∧ o.snd.snd.snd.snd.snd.snd.snd.snd.snd.fst = o.snd.snd.snd.snd.snd.snd.snd.snd.snd.fst ∧ 
  o.snd.snd.snd.snd.snd.snd.snd.snd.snd.snd.fst = o.snd.snd.snd.snd.snd.snd.snd.snd.snd.snd.fst ∧ o.snd.snd.snd.snd.snd.snd.snd.snd.snd.snd.snd.fst = o.snd.snd.snd.snd.snd.snd.snd.snd.snd.snd.snd.fst ∧ 
  o.snd.snd.snd.snd.snd.snd.snd.snd.snd.snd.snd.snd.fst = o.snd.snd.snd.snd.snd.snd.snd.snd.snd.snd.snd.snd.fst ∧ o.snd.snd.snd.snd.snd.snd.snd.snd.snd.snd.snd.snd.snd = 
  o.snd.snd.snd.snd.snd.snd.snd.snd.snd.snd.snd.snd.snd ∧ True) ∧ (false = false ∧ True) ∧ (o.fst.snd.snd.snd.snd.snd.fst = o.fst.snd.snd.snd.snd.snd.fst ∧ o.fst.snd.snd.snd.snd.snd.snd = o.fst.snd.snd.snd.snd.snd.snd ∧ 
  True) ∧ (l.fst = l.fst ∧ l.snd = l.snd ∧ True) ∧ True ∧ ((True ∧ True ∧ True) ∧ True ∧ True ∧ True ∧ (l.fst = l.fst ∧ l.snd = l.snd ∧ True) ∧ (o.fst.fst = o.fst.fst ∧ o.fst.snd.fst = o.fst.snd.fst ∧ o.fst.snd.snd.fst = 
  o.fst.snd.snd.fst ∧ o.fst.snd.snd.snd.fst = o.fst.snd.snd.snd.fst ∧ o.fst.snd.snd.snd.snd.fst = o.fst.snd.snd.snd.snd.fst ∧ o.fst.snd.snd.snd.snd.snd.fst = o.fst.snd.snd.snd.snd.snd.fst ∧ o.fst.snd.snd.snd.snd.snd.snd 
  = o.fst.snd.snd.snd.snd.snd.snd ∧ o.snd.fst = o.snd.fst ∧ o.snd.snd.fst = o.snd.snd.fst ∧ o.snd.snd.snd.fst = o.snd.snd.snd.fst ∧ o.snd.snd.snd.snd.fst.fst = o.snd.snd.snd.snd.fst.fst ∧ o.snd.snd.snd.snd.fst.snd = 
  o.snd.snd.snd.snd.fst.snd ∧ o.snd.snd.snd.snd.snd.fst.fst = o.snd.snd.snd.snd.snd.fst.fst ∧ o.snd.snd.snd.snd.snd.fst.snd = o.snd.snd.snd.snd.snd.fst.snd ∧ o.snd.snd.snd.snd.snd.snd.fst.fst.fst = 
  o.snd.snd.snd.snd.snd.snd.fst.fst.fst ∧ o.snd.snd.snd.snd.snd.snd.fst.fst.snd.fst = o.snd.snd.snd.snd.snd.snd.fst.fst.snd.fst ∧ o.snd.snd.snd.snd.snd.snd.fst.fst.snd.snd.fst = 
  o.snd.snd.snd.snd.snd.snd.fst.fst.snd.snd.fst ∧ o.snd.snd.snd.snd.snd.snd.fst.fst.snd.snd.snd.fst = o.snd.snd.snd.snd.snd.snd.fst.fst.snd.snd.snd.fst ∧ o.snd.snd.snd.snd.snd.snd.fst.fst.snd.snd.snd.snd.fst = 
  o.snd.snd.snd.snd.snd.snd.fst.fst.snd.snd.snd.snd.fst ∧ o.snd.snd.snd.snd.snd.snd.fst.fst.snd.snd.snd.snd.snd.fst = o.snd.snd.snd.snd.snd.snd.fst.fst.snd.snd.snd.snd.snd.fst ∧ 
  o.snd.snd.snd.snd.snd.snd.fst.fst.snd.snd.snd.snd.snd.snd.fst = o.snd.snd.snd.snd.snd.snd.fst.fst.snd.snd.snd.snd.snd.snd.fst ∧ o.snd.snd.snd.snd.snd.snd.fst.fst.snd.snd.snd.snd.snd.snd.snd.fst = 
  o.snd.snd.snd.snd.snd.snd.fst.fst.snd.snd.snd.snd.snd.snd.snd.fst ∧ o.snd.snd.snd.snd.snd.snd.fst.fst.snd.snd.snd.snd.snd.snd.snd.snd.fst = o.snd.snd.snd.snd.snd.snd.fst.fst.snd.snd.snd.snd.snd.snd.snd.snd.fst ∧ 
  o.snd.snd.snd.snd.snd.snd.fst.fst.snd.snd.snd.snd.snd.snd.snd.snd.snd.fst = o.snd.snd.snd.snd.snd.snd.fst.fst.snd.snd.snd.snd.snd.snd.snd.snd.snd.fst ∧ 
  o.snd.snd.snd.snd.snd.snd.fst.fst.snd.snd.snd.snd.snd.snd.snd.snd.snd.snd.fst = o.snd.snd.snd.snd.snd.snd.fst.fst.snd.snd.snd.snd.snd.snd.snd.snd.snd.snd.fst ∧ 
  o.snd.snd.snd.snd.snd.snd.fst.fst.snd.snd.snd.snd.snd.snd.snd.snd.snd.snd.snd.fst = o.snd.snd.snd.snd.snd.snd.fst.fst.snd.snd.snd.snd.snd.snd.snd.snd.snd.snd.snd.fst ∧ 
  o.snd.snd.snd.snd.snd.snd.fst.fst.snd.snd.snd.snd.snd.snd.snd.snd.snd.snd.snd.snd.fst = o.snd.snd.snd.snd.snd.snd.fst.fst.snd.snd.snd.snd.snd.snd.snd.snd.snd.snd.snd.snd.fst ∧ 
  o.snd.snd.snd.snd.snd.snd.fst.fst.snd.snd.snd.snd.snd.snd.snd.snd.snd.snd.snd.snd.snd.fst = o.snd.snd.snd.snd.snd.snd.fst.fst.snd.snd.snd.snd.snd.snd.snd.snd.snd.snd.snd.snd.snd.fst ∧ 
  o.snd.snd.snd.snd.snd.snd.fst.fst.snd.snd.snd.snd.snd.snd.snd.snd.snd.snd.snd.snd.snd.snd.fst = o.snd.snd.snd.snd.snd.snd.fst.fst.snd.snd.snd.snd.snd.snd.snd.snd.snd.snd.snd.snd.snd.snd.fst ∧ 
  o.snd.snd.snd.snd.snd.snd.fst.fst.snd.snd.snd.snd.snd.snd.snd.snd.snd.snd.snd.snd.snd.snd.snd = o.snd.snd.snd.snd.snd.snd.fst.fst.snd.snd.snd.snd.snd.snd.snd.snd.snd.snd.snd.snd.snd.snd.snd ∧ 
  o.snd.snd.snd.snd.snd.snd.fst.snd = o.snd.snd.snd.snd.snd.snd.fst.snd ∧ o.snd.snd.snd.snd.snd.snd.snd.fst = o.snd.snd.snd.snd.snd.snd.snd.fst ∧ o.snd.snd.snd.snd.snd.snd.snd.snd.fst = 
  o.snd.snd.snd.snd.snd.snd.snd.snd.fst ∧ o.snd.snd.snd.snd.snd.snd.snd.snd.snd.fst = o.snd.snd.snd.snd.snd.snd.snd.snd.snd.fst ∧ o.snd.snd.snd.snd.snd.snd.snd.snd.snd.snd.fst = 
  o.snd.snd.snd.snd.snd.snd.snd.snd.snd.snd.fst ∧ o.snd.snd.snd.snd.snd.snd.snd.snd.snd.snd.snd.fst = o.snd.snd.snd.snd.snd.snd.snd.snd.snd.snd.snd.fst ∧ o.snd.snd.snd.snd.snd.snd.snd.snd.snd.snd.snd.snd.fst = 
  o.snd.snd.snd.snd.snd.snd.snd.snd.snd.snd.snd.snd.fst ∧ o.snd.snd.snd.snd.snd.snd.snd.snd.snd.snd.snd.snd.snd = o.snd.snd.snd.snd.snd.snd.snd.snd.snd.snd.snd.snd.snd ∧ True) ∧ True) ∧ (o.fst.snd.snd.snd.snd.snd.fst = 
  o.fst.snd.snd.snd.snd.snd.fst ∧ o.fst.snd.snd.snd.snd.snd.snd = o.fst.snd.snd.snd.snd.snd.snd ∧ True) ∧ True)) ∧ (decide ((↑x : Int) < (↑o.fst.snd.snd.snd.snd.snd.snd.length : Int)) = false → (decide (IntKind.i64.wrap 
  ((0 : Int) + (1 : Int)) < (2 : Int)) = true → ((0 : Int) ≤ IntKind.i64.wrap ((0 : Int) + (1 : Int)) ∧ IntKind.i64.wrap ((0 : Int) + (1 : Int)) < (↑(2 : Nat) : Int)) ∧ (l.snd.length ≤ maxLen → ∃ (x0 : Nat), (x0 ≤ 
  l.snd.length ∧ (prs (olab o) l (List.drop x0 l.snd)).all okP = (prs (olab o) l l.snd).all okP) ∧ ((((True ∧ True ∧ True) ∧ True ∧ True ∧ True ∧ (l.fst = l.fst ∧ l.snd = l.snd ∧ True) ∧ (o.fst.fst = o.fst.fst ∧ 
  o.fst.snd.fst = o.fst.snd.fst ∧ o.fst.snd.snd.fst = o.fst.snd.snd.fst ∧ o.fst.snd.snd.snd.fst = o.fst.snd.snd.snd.fst ∧ o.fst.snd.snd.snd.snd.fst = o.fst.snd.snd.snd.snd.fst ∧ o.fst.snd.snd.snd.snd.snd.fst = 
  o.fst.snd.snd.snd.snd.snd.fst ∧ o.fst.snd.snd.snd.snd.snd.snd = o.fst.snd.snd.snd.snd.snd.snd ∧ o.snd.fst = o.snd.fst ∧ o.snd.snd.fst = o.snd.snd.fst ∧ o.snd.snd.snd.fst = o.snd.snd.snd.fst ∧ o.snd.snd.snd.snd.fst.fst 
  = o.snd.snd.snd.snd.fst.fst ∧ o.snd.snd.snd.snd.fst.snd = o.snd.snd.snd.snd.fst.snd ∧ o.snd.snd.snd.snd.snd.fst.fst = o.snd.snd.snd.snd.snd.fst.fst ∧ o.snd.snd.snd.snd.snd.fst.snd = o.snd.snd.snd.snd.snd.fst.snd ∧ 
  o.snd.snd.snd.snd.snd.snd.fst.fst.fst = o.snd.snd.snd.snd.snd.snd.fst.fst.fst ∧ o.snd.snd.snd.snd.snd.snd.fst.fst.snd.fst = o.snd.snd.snd.snd.snd.snd.fst.fst.snd.fst ∧ o.snd.snd.snd.snd.snd.snd.fst.fst.snd.snd.fst = 
  o.snd.snd.snd.snd.snd.snd.fst.fst.snd.snd.fst ∧ o.snd.snd.snd.snd.snd.snd.fst.fst.snd.snd.snd.fst = o.snd.snd.snd.snd.snd.snd.fst.fst.snd.snd.snd.fst ∧ o.snd.snd.snd.snd.snd.snd.fst.fst.snd.snd.snd.snd.fst = 
  o.snd.snd.snd.snd.snd.snd.fst.fst.snd.snd.snd.snd.fst ∧ o.snd.snd.snd.snd.snd.snd.fst.fst.snd.snd.snd.snd.snd.fst = o.snd.snd.snd.snd.snd.snd.fst.fst.snd.snd.snd.snd.snd.fst ∧ 
  o.snd.snd.snd.snd.snd.snd.fst.fst.snd.snd.snd.snd.snd.snd.fst = o.snd.snd.snd.snd.snd.snd.fst.fst.snd.snd.snd.snd.snd.snd.fst ∧ o.snd.snd.snd.snd.snd.snd.fst.fst.snd.snd.snd.snd.snd.snd.snd.fst = 
  o.snd.snd.snd.snd.snd.snd.fst.fst.snd.snd.snd.snd.snd.snd.snd.fst ∧ o.snd.snd.snd.snd.snd.snd.fst.fst.snd.snd.snd.snd.snd.snd.snd.snd.fst = o.snd.snd.snd.snd.snd.snd.fst.fst.snd.snd.snd.snd.snd.snd.snd.snd.fst ∧ 
  o.snd.snd.snd.snd.snd.snd.fst.fst.snd.snd.snd.snd.snd.snd.snd.snd.snd.fst = o.snd.snd.snd.snd.snd.snd.fst.fst.snd.snd.snd.snd.snd.snd.snd.snd.snd.fst ∧ 
  o.snd.snd.snd.snd.snd.snd.fst.fst.snd.snd.snd.snd.snd.snd.snd.snd.snd.snd.fst = o.snd.snd.snd.snd.snd.snd.fst.fst.snd.snd.snd.snd.snd.snd.snd.snd.snd.snd.fst ∧ 
  o.snd.snd.snd.snd.snd.snd.fst.fst.snd.snd.snd.snd.snd.snd.snd.snd.snd.snd.snd.fst = o.snd.snd.snd.snd.snd.snd.fst.fst.snd.snd.snd.snd.snd.snd.snd.snd.snd.snd.snd.fst ∧ 
  o.snd.snd.snd.snd.snd.snd.fst.fst.snd.snd.snd.snd.snd.snd.snd.snd.snd.snd.snd.snd.fst = o.snd.snd.snd.snd.snd.snd.fst.fst.snd.snd.snd.snd.snd.snd.snd.snd.snd.snd.snd.snd.fst ∧ 
  o.snd.snd.snd.snd.snd.snd.fst.fst.snd.snd.snd.snd.snd.snd.snd.snd.snd.snd.snd.snd.snd.fst = o.snd.snd.snd.snd.snd.snd.fst.fst.snd.snd.snd.snd.snd.snd.snd.snd.snd.snd.snd.snd.snd.fst ∧ 
  o.snd.snd.snd.snd.snd.snd.fst.fst.snd.snd.snd.snd.snd.snd.snd.snd.snd.snd.snd.snd.snd.snd.fst = o.snd.snd.snd.snd.snd.snd.fst.fst.snd.snd.snd.snd.snd.snd.snd.snd.snd.snd.snd.snd.snd.snd.fst ∧ 
  o.snd.snd.snd.snd.snd.snd.fst.fst.snd.snd.snd.snd.snd.snd.snd.snd.snd.snd.snd.snd.snd.snd.snd = o.snd.snd.snd.snd.snd.snd.fst.fst.snd.snd.snd.snd.snd.snd.snd.snd.snd.snd.snd.snd.snd.snd.snd ∧ 
  o.snd.snd.snd.snd.snd.snd.fst.snd = o.snd.snd.snd.snd.snd.snd.fst.snd ∧ o.snd.snd.snd.snd.snd.snd.snd.fst = o.snd.snd.snd.snd.snd.snd.snd.fst ∧ o.snd.snd.snd.snd.snd.snd.snd.snd.fst = 
  o.snd.snd.snd.snd.snd.snd.snd.snd.fst ∧ o.snd.snd.snd.snd.snd.snd.snd.snd.snd.fst = o.snd.snd.snd.snd.snd.snd.snd.snd.snd.fst ∧ o.snd.snd.snd.snd.snd.snd.snd.snd.snd.snd.fst = 
  o.snd.snd.snd.snd.snd.snd.snd.snd.snd.snd.fst ∧ o.snd.snd.snd.snd.snd.snd.snd.snd.snd.snd.snd.fst = o.snd.snd.snd.snd.snd.snd.snd.snd.snd.snd.snd.fst ∧ o.snd.snd.snd.snd.snd.snd.snd.snd.snd.snd.snd.snd.fst = 
  o.snd.snd.snd.snd.snd.snd.snd.snd.snd.snd.snd.snd.fst ∧ o.snd.snd.snd.snd.snd.snd.snd.snd.snd.snd.snd.snd.snd = o.snd.snd.snd.snd.snd.snd.snd.snd.snd.snd.snd.snd.snd ∧ True) ∧ True) ∧ True ∧ True) ∧ ((0 : Int) = (↑x0 : 
  Int) ∧ (↑l.snd.length : Int) = (↑l.snd.length : Int) ∧ l.snd = l.snd ∧ True ∧ true = true ∧ IntKind.i64.wrap ((0 : Int) + (1 : Int)) = IntKind.i64.wrap ((0 : Int) + (1 : Int)) ∧ (o.fst.snd.snd.snd.snd.snd.fst = 
  o.fst.snd.snd.snd.snd.snd.fst ∧ o.fst.snd.snd.snd.snd.snd.snd = o.fst.snd.snd.snd.snd.snd.snd ∧ l.fst = l.fst ∧ l.snd = l.snd ∧ True) ∧ True ∧ True ∧ True ∧ True) ∧ (l.fst = l.fst ∧ l.snd = l.snd ∧ True) ∧ (o.fst.fst = 
  o.fst.fst ∧ o.fst.snd.fst = o.fst.snd.fst ∧ o.fst.snd.snd.fst = o.fst.snd.snd.fst ∧ o.fst.snd.snd.snd.fst = o.fst.snd.snd.snd.fst ∧ o.fst.snd.snd.snd.snd.fst = o.fst.snd.snd.snd.snd.fst ∧ o.fst.snd.snd.snd.snd.snd.fst 
  = o.fst.snd.snd.snd.snd.snd.fst ∧ o.fst.snd.snd.snd.snd.snd.snd = o.fst.snd.snd.snd.snd.snd.snd ∧ o.snd.fst = o.snd.fst ∧ o.snd.snd.fst = o.snd.snd.fst ∧ o.snd.snd.snd.fst = o.snd.snd.snd.fst ∧ 
  o.snd.snd.snd.snd.fst.fst = o.snd.snd.snd.snd.fst.fst ∧ o.snd.snd.snd.snd.fst.snd = o.snd.snd.snd.snd.fst.snd ∧ o.snd.snd.snd.snd.snd.fst.fst = o.snd.snd.snd.snd.snd.fst.fst ∧ o.snd.snd.snd.snd.snd.fst.snd = 
  o.snd.snd.snd.snd.snd.fst.snd ∧ o.snd.snd.snd.snd.snd.snd.fst.fst.fst = o.snd.snd.snd.snd.snd.snd.fst.fst.fst ∧ o.snd.snd.snd.snd.snd.snd.fst.fst.snd.fst = o.snd.snd.snd.snd.snd.snd.fst.fst.snd.fst ∧ 
  o.snd.snd.snd.snd.snd.snd.fst.fst.snd.snd.fst = o.snd.snd.snd.snd.snd.snd.fst.fst.snd.snd.fst ∧ o.snd.snd.snd.snd.snd.snd.fst.fst.snd.snd.snd.fst = o.snd.snd.snd.snd.snd.snd.fst.fst.snd.snd.snd.fst ∧ 
  o.snd.snd.snd.snd.snd.snd.fst.fst.snd.snd.snd.snd.fst = o.snd.snd.snd.snd.snd.snd.fst.fst.snd.snd.snd.snd.fst ∧ o.snd.snd.snd.snd.snd.snd.fst.fst.snd.snd.snd.snd.snd.fst = 
  o.snd.snd.snd.snd.snd.snd.fst.fst.snd.snd.snd.snd.snd.fst ∧ o.snd.snd.snd.snd.snd.snd.fst.fst.snd.snd.snd.snd.snd.snd.fst = o.snd.snd.snd.snd.snd.snd.fst.fst.snd.snd.snd.snd.snd.snd.fst ∧ 
  o.snd.snd.snd.snd.snd.snd.fst.fst.snd.snd.snd.snd.snd.snd.snd.fst = o.snd.snd.snd.snd.snd.snd.fst.fst.snd.snd.snd.snd.snd.snd.snd.fst ∧ o.snd.snd.snd.snd.snd.snd.fst.fst.snd.snd.snd.snd.snd.snd.snd.snd.fst = 
  o.snd.snd.snd.snd.snd.snd.fst.fst.snd.snd.snd.snd.snd.snd.snd.snd.fst ∧ o.snd.snd.snd.snd.snd.snd.fst.fst.snd.snd.snd.snd.snd.snd.snd.snd.snd.fst = 
  o.snd.snd.snd.snd.snd.snd.fst.fst.snd.snd.snd.snd.snd.snd.snd.snd.snd.fst ∧ o.snd.snd.snd.snd.snd.snd.fst.fst.snd.snd.snd.snd.snd.snd.snd.snd.snd.snd.fst = 
  o.snd.snd.snd.snd.snd.snd.fst.fst.snd.snd.snd.snd.snd.snd.snd.snd.snd.snd.fst ∧ o.snd.snd.snd.snd.snd.snd.fst.fst.snd.snd.snd.snd.snd.snd.snd.snd.snd.snd.snd.fst = 
  o.snd.snd.snd.snd.snd.snd.fst.fst.snd.snd.snd.snd.snd.snd.snd.snd.snd.snd.snd.fst ∧ o.snd.snd.snd.snd.snd.snd.fst.fst.snd.snd.snd.snd.snd.snd.snd.snd.snd.snd.snd.snd.fst = 
  o.snd.snd.snd.snd.snd.snd.fst.fst.snd.snd.snd.snd.snd.snd.snd.snd.snd.snd.snd.snd.fst ∧ o.snd.snd.snd.snd.snd.snd.fst.fst.snd.snd.snd.snd.snd.snd.snd.snd.snd.snd.snd.snd.snd.fst = 
  o.snd.snd.snd.snd.snd.snd.fst.fst.snd.snd.snd.snd.snd.snd.snd.snd.snd.snd.snd.snd.snd.fst ∧ o.snd.snd.snd.snd.snd.snd.fst.fst.snd.snd.snd.snd.snd.snd.snd.snd.snd.snd.snd.snd.snd.snd.fst = 
  o.snd.snd.snd.snd.snd.snd.fst.fst.snd.snd.snd.snd.snd.snd.snd.snd.snd.snd.snd.snd.snd.snd.fst ∧ o.snd.snd.snd.snd.snd.snd.fst.fst.snd.snd.snd.snd.snd.snd.snd.snd.snd.snd.snd.snd.snd.snd.snd = 
  o.snd.snd.snd.snd.snd.snd.fst.fst.snd.snd.snd.snd.snd.snd.snd.snd.snd.snd.snd.snd.snd.snd.snd ∧ o.snd.snd.snd.snd.snd.snd.fst.snd = o.snd.snd.snd.snd.snd.snd.fst.snd ∧ o.snd.snd.snd.snd.snd.snd.snd.fst = 
  o.snd.snd.snd.snd.snd.snd.snd.fst ∧ o.snd.snd.snd.snd.snd.snd.snd.snd.fst = o.snd.snd.snd.snd.snd.snd.snd.snd.fst ∧ o.snd.snd.snd.snd.snd.snd.snd.snd.snd.fst = o.snd.snd.snd.snd.snd.snd.snd.snd.snd.fst ∧ 
  o.snd.snd.snd.snd.snd.snd.snd.snd.snd.snd.fst = o.snd.snd.snd.snd.snd.snd.snd.snd.snd.snd.fst ∧ o.snd.snd.snd.snd.snd.snd.snd.snd.snd.snd.snd.fst = o.snd.snd.snd.snd.snd.snd.snd.snd.snd.snd.snd.fst ∧ 
  o.snd.snd.snd.snd.snd.snd.snd.snd.snd.snd.snd.snd.fst = o.snd.snd.snd.snd.snd.snd.snd.snd.snd.snd.snd.snd.fst ∧ o.snd.snd.snd.snd.snd.snd.snd.snd.snd.snd.snd.snd.snd = 
  o.snd.snd.snd.snd.snd.snd.snd.snd.snd.snd.snd.snd.snd ∧ True) ∧ (false = false ∧ True) ∧ (o.fst.snd.snd.snd.snd.snd.fst = o.fst.snd.snd.snd.snd.snd.fst ∧ o.fst.snd.snd.snd.snd.snd.snd = o.fst.snd.snd.snd.snd.snd.snd ∧ 
  True) ∧ (l.fst = l.fst ∧ l.snd = l.snd ∧ True) ∧ True ∧ ((True ∧ True ∧ True) ∧ True ∧ True ∧ True ∧ (l.fst = l.fst ∧ l.snd = l.snd ∧ True) ∧ (o.fst.fst = o.fst.fst ∧ o.fst.snd.fst = o.fst.snd.fst ∧ o.fst.snd.snd.fst = 
  o.fst.snd.snd.fst ∧ o.fst.snd.snd.snd.fst = o.fst.snd.snd.snd.fst ∧ o.fst.snd.snd.snd.snd.fst = o.fst.snd.snd.snd.snd.fst ∧ o.fst.snd.snd.snd.snd.snd.fst = o.fst.snd.snd.snd.snd.snd.fst ∧ o.fst.snd.snd.snd.snd.snd.snd 
  = o.fst.snd.snd.snd.snd.snd.snd ∧ o.snd.fst = o.snd.fst ∧ o.snd.snd.fst = o.snd.snd.fst ∧ o.snd.snd.snd.fst = o.snd.snd.snd.fst ∧ o.snd.snd.snd.snd.fst.fst = o.snd.snd.snd.snd.fst.fst ∧ o.snd.snd.snd.snd.fst.snd = 
  o.snd.snd.snd.snd.fst.snd ∧ o.snd.snd.snd.snd.snd.fst.fst = o.snd.snd.snd.snd.snd.fst.fst ∧ o.snd.snd.snd.snd.snd.fst.snd = o.snd.snd.snd.snd.snd.fst.snd ∧ o.snd.snd.snd.snd.snd.snd.fst.fst.fst = 
  o.snd.snd.snd.snd.snd.snd.fst.fst.fst ∧ o.snd.snd.snd.snd.snd.snd.fst.fst.snd.fst = o.snd.snd.snd.snd.snd.snd.fst.fst.snd.fst ∧ o.snd.snd.snd.snd.snd.snd.fst.fst.snd.snd.fst = 
  o.snd.snd.snd.snd.snd.snd.fst.fst.snd.snd.fst ∧ o.snd.snd.snd.snd.snd.snd.fst.fst.snd.snd.snd.fst = o.snd.snd.snd.snd.snd.snd.fst.fst.snd.snd.snd.fst ∧ o.snd.snd.snd.snd.snd.snd.fst.fst.snd.snd.snd.snd.fst = 
  o.snd.snd.snd.snd.snd.snd.fst.fst.snd.snd.snd.snd.fst ∧ o.snd.snd.snd.snd.snd.snd.fst.fst.snd.snd.snd.snd.snd.fst = o.snd.snd.snd.snd.snd.snd.fst.fst.snd.snd.snd.snd.snd.fst ∧ 
  o.snd.snd.snd.snd.snd.snd.fst.fst.snd.snd.snd.snd.snd.snd.fst = o.snd.snd.snd.snd.snd.snd.fst.fst.snd.snd.snd.snd.snd.snd.fst ∧ o.snd.snd.snd.snd.snd.snd.fst.fst.snd.snd.snd.snd.snd.snd.snd.fst = 
  o.snd.snd.snd.snd.snd.snd.fst.fst.snd.snd.snd.snd.snd.snd.snd.fst ∧ o.snd.snd.snd.snd.snd.snd.fst.fst.snd.snd.snd.snd.snd.snd.snd.snd.fst = o.snd.snd.snd.snd.snd.snd.fst.fst.snd.snd.snd.snd.snd.snd.snd.snd.fst ∧ 
  o.snd.snd.snd.snd.snd.snd.fst.fst.snd.snd.snd.snd.snd.snd.snd.snd.snd.fst = o.snd.snd.snd.snd.snd.snd.fst.fst.snd.snd.snd.snd.snd.snd.snd.snd.snd.fst ∧ 
  o.snd.snd.snd.snd.snd.snd.fst.fst.snd.snd.snd.snd.snd.snd.snd.snd.snd.snd.fst = o.snd.snd.snd.snd.snd.snd.fst.fst.snd.snd.snd.snd.snd.snd.snd.snd.snd.snd.fst ∧ 
  o.snd.snd.snd.snd.snd.snd.fst.fst.snd.snd.snd.snd.snd.snd.snd.snd.snd.snd.snd.fst = o.snd.snd.snd.snd.snd.snd.fst.fst.snd.snd.snd.snd.snd.snd.snd.snd.snd.snd.snd.fst ∧ 
  o.snd.snd.snd.snd.snd.snd.fst.fst.snd.snd.snd.snd.snd.snd.snd.snd.snd.snd.snd.snd.fst = o.snd.snd.snd.snd.snd.snd.fst.fst.snd.snd.snd.snd.snd.snd.snd.snd.snd.snd.snd.snd.fst ∧ 
  o.snd.snd.snd.snd.snd.snd.fst.fst.snd.snd.snd.snd.snd.snd.snd.snd.snd.snd.snd.snd.snd.fst = o.snd.snd.snd.snd.snd.snd.fst.fst.snd.snd.snd.snd.snd.snd.snd.snd.snd.snd.snd.snd.snd.fst ∧ 
  o.snd.snd.snd.snd.snd.snd.fst.fst.snd.snd.snd.snd.snd.snd.snd.snd.snd.snd.snd.snd.snd.snd.fst = o.snd.snd.snd.snd.snd.snd.fst.fst.snd.snd.snd.snd.snd.snd.snd.snd.snd.snd.snd.snd.snd.snd.fst ∧ 
  o.snd.snd.snd.snd.snd.snd.fst.fst.snd.snd.snd.snd.snd.snd.snd.snd.snd.snd.snd.snd.snd.snd.snd = o.snd.snd.snd.snd.snd.snd.fst.fst.snd.snd.snd.snd.snd.snd.snd.snd.snd.snd.snd.snd.snd.snd.snd ∧ 
  o.snd.snd.snd.snd.snd.snd.fst.snd = o.snd.snd.snd.snd.snd.snd.fst.snd ∧ o.snd.snd.snd.snd.snd.snd.snd.fst = o.snd.snd.snd.snd.snd.snd.snd.fst ∧ o.snd.snd.snd.snd.snd.snd.snd.snd.fst = 
  o.snd.snd.snd.snd.snd.snd.snd.snd.fst ∧ o.snd.snd.snd.snd.snd.snd.snd.snd.snd.fst = o.snd.snd.snd.snd.snd.snd.snd.snd.snd.fst ∧ o.snd.snd.snd.snd.snd.snd.snd.snd.snd.snd.fst = 
  o.snd.snd.snd.snd.snd.snd.snd.snd.snd.snd.fst ∧ o.snd.snd.snd.snd.snd.snd.snd.snd.snd.snd.snd.fst = o.snd.snd.snd.snd.snd.snd.snd.snd.snd.snd.snd.fst ∧ o.snd.snd.snd.snd.snd.snd.snd.snd.snd.snd.snd.snd.fst = 
  o.snd.snd.snd.snd.snd.snd.snd.snd.snd.snd.snd.snd.fst ∧ o.snd.snd.snd.snd.snd.snd.snd.snd.snd.snd.snd.snd.snd = o.snd.snd.snd.snd.snd.snd.snd.snd.snd.snd.snd.snd.snd ∧ True) ∧ True) ∧ (o.fst.snd.snd.snd.snd.snd.fst = 
  o.fst.snd.snd.snd.snd.snd.fst ∧ o.fst.snd.snd.snd.snd.snd.snd = o.fst.snd.snd.snd.snd.snd.snd ∧ True) ∧ (l.fst = l.fst ∧ l.snd = l.snd ∧ True) ∧ True) ∧ ∀ (x : Nat), x ≤ l.snd.length ∧ (prs (olab o) l (List.drop x 
  l.snd)).all okP = (prs (olab o) l l.snd).all okP → (decide ((↑x : Int) < (↑l.snd.length : Int)) = true → ((0 : Int) ≤ (↑x : Int) ∧ (↑x : Int) < (↑l.snd.length : Int)) ∧ ∀ (y : Int × Int), l.snd[(↑x : Int).toNat]? = 
  some y → true = true ∧ true = true ∧ ∃ (v : Bool), ((decide (atL (o.fst.snd.snd.snd.snd.snd.fst, o.fst.snd.snd.snd.snd.snd.snd) y.fst > atL (l.fst, l.snd) y.fst) = false → ((atL (o.fst.snd.snd.snd.snd.snd.fst, 
  o.fst.snd.snd.snd.snd.snd.snd) y.fst == (0 : Int)) = true → decide (atL (l.fst, l.snd) y.fst < (4 : Int)) = v) ∧ ((atL (o.fst.snd.snd.snd.snd.snd.fst, o.fst.snd.snd.snd.snd.snd.snd) y.fst == (0 : Int)) = !true → false 
  = v)) ∧ (decide (atL (o.fst.snd.snd.snd.snd.snd.fst, o.fst.snd.snd.snd.snd.snd.snd) y.fst > atL (l.fst, l.snd) y.fst) = !false → true = v)) ∧ (v = true → false = lowV l (olab o) ∧ True) ∧ (v = false → ∃ (x' : Nat), (x' 
  ≤ l.snd.length ∧ (prs (olab o) l (List.drop x' l.snd)).all okP = (prs (olab o) l l.snd).all okP) ∧ l.snd.length - x' < l.snd.length - x ∧ (((True ∧ True ∧ True) ∧ True ∧ True ∧ True ∧ (l.fst = l.fst ∧ l.snd = l.snd ∧ 
  True) ∧ (o.fst.fst = o.fst.fst ∧ o.fst.snd.fst = o.fst.snd.fst ∧ o.fst.snd.snd.fst = o.fst.snd.snd.fst ∧ o.fst.snd.snd.snd.fst = o.fst.snd.snd.snd.fst ∧ o.fst.snd.snd.snd.snd.fst = o.fst.snd.snd.snd.snd.fst ∧ 
  o.fst.snd.snd.snd.snd.snd.fst = o.fst.snd.snd.snd.snd.snd.fst ∧ o.fst.snd.snd.snd.snd.snd.snd = o.fst.snd.snd.snd.snd.snd.snd ∧ o.snd.fst = o.snd.fst ∧ o.snd.snd.fst = o.snd.snd.fst ∧ o.snd.snd.snd.fst = 
  o.snd.snd.snd.fst ∧ o.snd.snd.snd.snd.fst.fst = o.snd.snd.snd.snd.fst.fst ∧ o.snd.snd.snd.snd.fst.snd = o.snd.snd.snd.snd.fst.snd ∧ o.snd.snd.snd.snd.snd.fst.fst = o.snd.snd.snd.snd.snd.fst.fst ∧ 
  o.snd.snd.snd.snd.snd.fst.snd = o.snd.snd.snd.snd.snd.fst.snd ∧ o.snd.snd.snd.snd.snd.snd.fst.fst.fst = o.snd.snd.snd.snd.snd.snd.fst.fst.fst ∧ o.snd.snd.snd.snd.snd.snd.fst.fst.snd.fst = 
  o.snd.snd.snd.snd.snd.snd.fst.fst.snd.fst ∧ o.snd.snd.snd.snd.snd.snd.fst.fst.snd.snd.fst = o.snd.snd.snd.snd.snd.snd.fst.fst.snd.snd.fst ∧ o.snd.snd.snd.snd.snd.snd.fst.fst.snd.snd.snd.fst = 
  o.snd.snd.snd.snd.snd.snd.fst.fst.snd.snd.snd.fst ∧ o.snd.snd.snd.snd.snd.snd.fst.fst.snd.snd.snd.snd.fst = o.snd.snd.snd.snd.snd.snd.fst.fst.snd.snd.snd.snd.fst ∧ 
  o.snd.snd.snd.snd.snd.snd.fst.fst.snd.snd.snd.snd.snd.fst = o.snd.snd.snd.snd.snd.snd.fst.fst.snd.snd.snd.snd.snd.fst ∧ o.snd.snd.snd.snd.snd.snd.fst.fst.snd.snd.snd.snd.snd.snd.fst = 
  o.snd.snd.snd.snd.snd.snd.fst.fst.snd.snd.snd.snd.snd.snd.fst ∧ o.snd.snd.snd.snd.snd.snd.fst.fst.snd.snd.snd.snd.snd.snd.snd.fst = o.snd.snd.snd.snd.snd.snd.fst.fst.snd.snd.snd.snd.snd.snd.snd.fst ∧ 
  o.snd.snd.snd.snd.snd.snd.fst.fst.snd.snd.snd.snd.snd.snd.snd.snd.fst = o.snd.snd.snd.snd.snd.snd.fst.fst.snd.snd.snd.snd.snd.snd.snd.snd.fst ∧ o.snd.snd.snd.snd.snd.snd.fst.fst.snd.snd.snd.snd.snd.snd.snd.snd.snd.fst 
  = o.snd.snd.snd.snd.snd.snd.fst.fst.snd.snd.snd.snd.snd.snd.snd.snd.snd.fst ∧ o.snd.snd.snd.snd.snd.snd.fst.fst.snd.snd.snd.snd.snd.snd.snd.snd.snd.snd.fst = 
  o.snd.snd.snd.snd.snd.snd.fst.fst.snd.snd.snd.snd.snd.snd.snd.snd.snd.snd.fst ∧ o.snd.snd.snd.snd.snd.snd.fst.fst.snd.snd.snd.snd.snd.snd.snd.snd.snd.snd.snd.fst = 
  o.snd.snd.snd.snd.snd.snd.fst.fst.snd.snd.snd.snd.snd.snd.snd.snd.snd.snd.snd.fst ∧ o.snd.snd.snd.snd.snd.snd.fst.fst.snd.snd.snd.snd.snd.snd.snd.snd.snd.snd.snd.snd.fst = 
  o.snd.snd.snd.snd.snd.snd.fst.fst.snd.snd.snd.snd.snd.snd.snd.snd.snd.snd.snd.snd.fst ∧ o.snd.snd.snd.snd.snd.snd.fst.fst.snd.snd.snd.snd.snd.snd.snd.snd.snd.snd.snd.snd.snd.fst = 
  o.snd.snd.snd.snd.snd.snd.fst.fst.snd.snd.snd.snd.snd.snd.snd.snd.snd.snd.snd.snd.snd.fst ∧ o.snd.snd.snd.snd.snd.snd.fst.fst.snd.snd.snd.snd.snd.snd.snd.snd.snd.snd.snd.snd.snd.snd.fst = 
  o.snd.snd.snd.snd.snd.snd.fst.fst.snd.snd.snd.snd.snd.snd.snd.snd.snd.snd.snd.snd.snd.snd.fst ∧ o.snd.snd.snd.snd.snd.snd.fst.fst.snd.snd.snd.snd.snd.snd.snd.snd.snd.snd.snd.snd.snd.snd.snd = 
  o.snd.snd.snd.snd.snd.snd.fst.fst.snd.snd.snd.snd.snd.snd.snd.snd.snd.snd.snd.snd.snd.snd.snd ∧ o.snd.snd.snd.snd.snd.snd.fst.snd = o.snd.snd.snd.snd.snd.snd.fst.snd ∧ o.snd.snd.snd.snd.snd.snd.snd.fst = 
  o.snd.snd.snd.snd.snd.snd.snd.fst ∧ o.snd.snd.snd.snd.snd.snd.snd.snd.fst = o.snd.snd.snd.snd.snd.snd.snd.snd.fst ∧ o.snd.snd.snd.snd.snd.snd.snd.snd.snd.fst = o.snd.snd.snd.snd.snd.snd.snd.snd.snd.fst ∧ 
  o.snd.snd.snd.snd.snd.snd.snd.snd.snd.snd.fst = o.snd.snd.snd.snd.snd.snd.snd.snd.snd.snd.fst ∧ o.snd.snd.snd.snd.snd.snd.snd.snd.snd.snd.snd.fst = o.snd.snd.snd.snd.snd.snd.snd.snd.snd.snd.snd.fst ∧ 
  o.snd.snd.snd.snd.snd.snd.snd.snd.snd.snd.snd.snd.fst = o.snd.snd.snd.snd.snd.snd.snd.snd.snd.snd.snd.snd.fst ∧ o.snd.snd.snd.snd.snd.snd.snd.snd.snd.snd.snd.snd.snd = 
  o.snd.snd.snd.snd.snd.snd.snd.snd.snd.snd.snd.snd.snd ∧ True) ∧ True) ∧ True ∧ True) ∧ (IntKind.i64.wrap ((↑x : Int) + (1 : Int)) = (↑x' : Int) ∧ (↑l.snd.length : Int) = (↑l.snd.length : Int) ∧ l.snd = l.snd ∧ True ∧ 
  true = true ∧ IntKind.i64.wrap ((0 : Int) + (1 : Int)) = IntKind.i64.wrap ((0 : Int) + (1 : Int)) ∧ (o.fst.snd.snd.snd.snd.snd.fst = o.fst.snd.snd.snd.snd.snd.fst ∧ o.fst.snd.snd.snd.snd.snd.snd = 
  o.fst.snd.snd.snd.snd.snd.snd ∧ l.fst = l.fst ∧ l.snd = l.snd ∧ True) ∧ True ∧ True ∧ True ∧ True) ∧ (l.fst = l.fst ∧ l.snd = l.snd ∧ True) ∧ (o.fst.fst = o.fst.fst ∧ o.fst.snd.fst = o.fst.snd.fst ∧ o.fst.snd.snd.fst = 
  o.fst.snd.snd.fst ∧ o.fst.snd.snd.snd.fst = o.fst.snd.snd.snd.fst ∧ o.fst.snd.snd.snd.snd.fst = o.fst.snd.snd.snd.snd.fst ∧ o.fst.snd.snd.snd.snd.snd.fst = o.fst.snd.snd.snd.snd.snd.fst ∧ o.fst.snd.snd.snd.snd.snd.snd 
  = o.fst.snd.snd.snd.snd.snd.snd ∧ o.snd.fst = o.snd.fst ∧ o.snd.snd.fst = o.snd.snd.fst ∧ o.snd.snd.snd.fst = o.snd.snd.snd.fst ∧ o.snd.snd.snd.snd.fst.fst = o.snd.snd.snd.snd.fst.fst ∧ o.snd.snd.snd.snd.fst.snd = 
  o.snd.snd.snd.snd.fst.snd ∧ o.snd.snd.snd.snd.snd.fst.fst = o.snd.snd.snd.snd.snd.fst.fst ∧ o.snd.snd.snd.snd.snd.fst.snd = o.snd.snd.snd.snd.snd.fst.snd ∧ o.snd.snd.snd.snd.snd.snd.fst.fst.fst = 
  o.snd.snd.snd.snd.snd.snd.fst.fst.fst ∧ o.snd.snd.snd.snd.snd.snd.fst.fst.snd.fst = o.snd.snd.snd.snd.snd.snd.fst.fst.snd.fst ∧ o.snd.snd.snd.snd.snd.snd.fst.fst.snd.snd.fst = 
  o.snd.snd.snd.snd.snd.snd.fst.fst.snd.snd.fst ∧ o.snd.snd.snd.snd.snd.snd.fst.fst.snd.snd.snd.fst = o.snd.snd.snd.snd.snd.snd.fst.fst.snd.snd.snd.fst ∧ o.snd.snd.snd.snd.snd.snd.fst.fst.snd.snd.snd.snd.fst = 
  o.snd.snd.snd.snd.snd.snd.fst.fst.snd.snd.snd.snd.fst ∧ o.snd.snd.snd.snd.snd.snd.fst.fst.snd.snd.snd.snd.snd.fst = o.snd.snd.snd.snd.snd.snd.fst.fst.snd.snd.snd.snd.snd.fst ∧ 
  o.snd.snd.snd.snd.snd.snd.fst.fst.snd.snd.snd.snd.snd.snd.fst = o.snd.snd.snd.snd.snd.snd.fst.fst.snd.snd.snd.snd.snd.snd.fst ∧ o.snd.snd.snd.snd.snd.snd.fst.fst.snd.snd.snd.snd.snd.snd.snd.fst = 
  o.snd.snd.snd.snd.snd.snd.fst.fst.snd.snd.snd.snd.snd.snd.snd.fst ∧ o.snd.snd.snd.snd.snd.snd.fst.fst.snd.snd.snd.snd.snd.snd.snd.snd.fst = o.snd.snd.snd.snd.snd.snd.fst.fst.snd.snd.snd.snd.snd.snd.snd.snd.fst ∧ 
  o.snd.snd.snd.snd.snd.snd.fst.fst.snd.snd.snd.snd.snd.snd.snd.snd.snd.fst = o.snd.snd.snd.snd.snd.snd.fst.fst.snd.snd.snd.snd.snd.snd.snd.snd.snd.fst ∧ 
  o.snd.snd.snd.snd.snd.snd.fst.fst.snd.snd.snd.snd.snd.snd.snd.snd.snd.snd.fst = o.snd.snd.snd.snd.snd.snd.fst.fst.snd.snd.snd.snd.snd.snd.snd.snd.snd.snd.fst ∧ 
  o.snd.snd.snd.snd.snd.snd.fst.fst.snd.snd.snd.snd.snd.snd.snd.snd.snd.snd.snd.fst = o.snd.snd.snd.snd.snd.snd.fst.fst.snd.snd.snd.snd.snd.snd.snd.snd.snd.snd.snd.fst ∧ 
  o.snd.snd.snd.snd.snd.snd.fst.fst.snd.snd.snd.snd.snd.snd.snd.snd.snd.snd.snd.snd.fst = o.snd.snd.snd.snd.snd.snd.fst.fst.snd.snd.snd.snd.snd.snd.snd.snd.snd.snd.snd.snd.fst ∧ 
  o.snd.snd.snd.snd.snd.snd.fst.fst.snd.snd.snd.snd.snd.snd.snd.snd.snd.snd.snd.snd.snd.fst = o.snd.snd.snd.snd.snd.snd.fst.fst.snd.snd.snd.snd.snd.snd.snd.snd.snd.snd.snd.snd.snd.fst ∧ 
  o.snd.snd.snd.snd.snd.snd.fst.fst.snd.snd.snd.snd.snd.snd.snd.snd.snd.snd.snd.snd.snd.snd.fst = o.snd.snd.snd.snd.snd.snd.fst.fst.snd.snd.snd.snd.snd.snd.snd.snd.snd.snd.snd.snd.snd.snd.fst ∧ 
  o.snd.snd.snd.snd.snd.snd.fst.fst.snd.snd.snd.snd.snd.snd.snd.snd.snd.snd.snd.snd.snd.snd.snd = o.snd.snd.snd.snd.snd.snd.fst.fst.snd.snd.snd.snd.snd.snd.snd.snd.snd.snd.snd.snd.snd.snd.snd ∧ 
  o.snd.snd.snd.snd.snd.snd.fst.snd = o.snd.snd.snd.snd.snd.snd.fst.snd ∧ o.snd.snd.snd.snd.snd.snd.snd.fst = o.snd.snd.snd.snd.snd.snd.snd.fst ∧ o.snd.snd.snd.snd.snd.snd.snd.snd.fst = 
  o.snd.snd.snd.snd.snd.snd.snd.snd.fst ∧ o.snd.snd.snd.snd.snd.snd.snd.snd.snd.fst = o.snd.snd.snd.snd.snd.snd.snd.snd.snd.fst ∧ o.snd.snd.snd.snd.snd.snd.snd.snd.snd.snd.fst = 
  o.snd.snd.snd.snd.snd.snd.snd.snd.snd.snd.fst ∧ o.snd.snd.snd.snd.snd.snd.snd.snd.snd.snd.snd.fst = o.snd.snd.snd.snd.snd.snd.snd.snd.snd.snd.snd.fst ∧ o.snd.snd.snd.snd.snd.snd.snd.snd.snd.snd.snd.snd.fst = 
  o.snd.snd.snd.snd.snd.snd.snd.snd.snd.snd.snd.snd.fst ∧ o.snd.snd.snd.snd.snd.snd.snd.snd.snd.snd.snd.snd.snd = o.snd.snd.snd.snd.snd.snd.snd.snd.snd.snd.snd.snd.snd ∧ True) ∧ (false = false ∧ True) ∧ 
  (o.fst.snd.snd.snd.snd.snd.fst = o.fst.snd.snd.snd.snd.snd.fst ∧ o.fst.snd.snd.snd.snd.snd.snd = o.fst.snd.snd.snd.snd.snd.snd ∧ True) ∧ (l.fst = l.fst ∧ l.snd = l.snd ∧ True) ∧ True ∧ ((True ∧ True ∧ True) ∧ True ∧ 
  True ∧ True ∧ (l.fst = l.fst ∧ l.snd = l.snd ∧ True) ∧ (o.fst.fst = o.fst.fst ∧ o.fst.snd.fst = o.fst.snd.fst ∧ o.fst.snd.snd.fst = o.fst.snd.snd.fst ∧ o.fst.snd.snd.snd.fst = o.fst.snd.snd.snd.fst ∧ 
  o.fst.snd.snd.snd.snd.fst = o.fst.snd.snd.snd.snd.fst ∧ o.fst.snd.snd.snd.snd.snd.fst = o.fst.snd.snd.snd.snd.snd.fst ∧ o.fst.snd.snd.snd.snd.snd.snd = o.fst.snd.snd.snd.snd.snd.snd ∧ o.snd.fst = o.snd.fst ∧ 
  o.snd.snd.fst = o.snd.snd.fst ∧ o.snd.snd.snd.fst = o.snd.snd.snd.fst ∧ o.snd.snd.snd.snd.fst.fst = o.snd.snd.snd.snd.fst.fst ∧ o.snd.snd.snd.snd.fst.snd = o.snd.snd.snd.snd.fst.snd ∧ o.snd.snd.snd.snd.snd.fst.fst = 
  o.snd.snd.snd.snd.snd.fst.fst ∧ o.snd.snd.snd.snd.snd.fst.snd = o.snd.snd.snd.snd.snd.fst.snd ∧ o.snd.snd.snd.snd.snd.snd.fst.fst.fst = o.snd.snd.snd.snd.snd.snd.fst.fst.fst ∧ o.snd.snd.snd.snd.snd.snd.fst.fst.snd.fst 
  = o.snd.snd.snd.snd.snd.snd.fst.fst.snd.fst ∧ o.snd.snd.snd.snd.snd.snd.fst.fst.snd.snd.fst = o.snd.snd.snd.snd.snd.snd.fst.fst.snd.snd.fst ∧ o.snd.snd.snd.snd.snd.snd.fst.fst.snd.snd.snd.fst = 
  o.snd.snd.snd.snd.snd.snd.fst.fst.snd.snd.snd.fst ∧ o.snd.snd.snd.snd.snd.snd.fst.fst.snd.snd.snd.snd.fst = o.snd.snd.snd.snd.snd.snd.fst.fst.snd.snd.snd.snd.fst ∧ 
  o.snd.snd.snd.snd.snd.snd.fst.fst.snd.snd.snd.snd.snd.fst = o.snd.snd.snd.snd.snd.snd.fst.fst.snd.snd.snd.snd.snd.fst ∧ o.snd.snd.snd.snd.snd.snd.fst.fst.snd.snd.snd.snd.snd.snd.fst = 
  o.snd.snd.snd.snd.snd.snd.fst.fst.snd.snd.snd.snd.snd.snd.fst ∧ o.snd.snd.snd.snd.snd.snd.fst.fst.snd.snd.snd.snd.snd.snd.snd.fst = o.snd.snd.snd.snd.snd.snd.fst.fst.snd.snd.snd.snd.snd.snd.snd.fst ∧ 
  o.snd.snd.snd.snd.snd.snd.fst.fst.snd.snd.snd.snd.snd.snd.snd.snd.fst = o.snd.snd.snd.snd.snd.snd.fst.fst.snd.snd.snd.snd.snd.snd.snd.snd.fst ∧ o.snd.snd.snd.snd.snd.snd.fst.fst.snd.snd.snd.snd.snd.snd.snd.snd.snd.fst 
  = o.snd.snd.snd.snd.snd.snd.fst.fst.snd.snd.snd.snd.snd.snd.snd.snd.snd.fst ∧ o.snd.snd.snd.snd.snd.snd.fst.fst.snd.snd.snd.snd.snd.snd.snd.snd.snd.snd.fst = 
  o.snd.snd.snd.snd.snd.snd.fst.fst.snd.snd.snd.snd.snd.snd.snd.snd.snd.snd.fst ∧ o.snd.snd.snd.snd.snd.snd.fst.fst.snd.snd.snd.snd.snd.snd.snd.snd.snd.snd.snd.fst = 
  o.snd.snd.snd.snd.snd.snd.fst.fst.snd.snd.snd.snd.snd.snd.snd.snd.snd.snd.snd.fst ∧ o.snd.snd.snd.snd.snd.snd.fst.fst.snd.snd.snd.snd.snd.snd.snd.snd.snd.snd.snd.snd.fst = 
  o.snd.snd.snd.snd.snd.snd.fst.fst.snd.snd.snd.snd.snd.snd.snd.snd.snd.snd.snd.snd.fst ∧ o.snd.snd.snd.snd.snd.snd.fst.fst.snd.snd.snd.snd.snd.snd.snd.snd.snd.snd.snd.snd.snd.fst = 
  o.snd.snd.snd.snd.snd.snd.fst.fst.snd.snd.snd.snd.snd.snd.snd.snd.snd.snd.snd.snd.snd.fst ∧ o.snd.snd.snd.snd.snd.snd.fst.fst.snd.snd.snd.snd.snd.snd.snd.snd.snd.snd.snd.snd.snd.snd.fst = 
  o.snd.snd.snd.snd.snd.snd.fst.fst.snd.snd.snd.snd.snd.snd.snd.snd.snd.snd.snd.snd.snd.snd.fst ∧ o.snd.snd.snd.snd.snd.snd.fst.fst.snd.snd.snd.snd.snd.snd.snd.snd.snd.snd.snd.snd.snd.snd.snd = 
  o.snd.snd.snd.snd.snd.snd.fst.fst.snd.snd.snd.snd.snd.snd.snd.snd.snd.snd.snd.snd.snd.snd.snd ∧ o.snd.snd.snd.snd.snd.snd.fst.snd = o.snd.snd.snd.snd.snd.snd.fst.snd ∧ o.snd.snd.snd.snd.snd.snd.snd.fst = 
  o.snd.snd.snd.snd.snd.snd.snd.fst ∧ o.snd.snd.snd.snd.snd.snd.snd.snd.fst = o.snd.snd.snd.snd.snd.snd.snd.snd.fst ∧ o.snd.snd.snd.snd.snd.snd.snd.snd.snd.fst = o.snd.snd.snd.snd.snd.snd.snd.snd.snd.fst ∧ 
  o.snd.snd.snd.snd.snd.snd.snd.snd.snd.snd.fst = o.snd.snd.snd.snd.snd.snd.snd.snd.snd.snd.fst ∧ o.snd.snd.snd.snd.snd.snd.snd.snd.snd.snd.snd.fst = o.snd.snd.snd.snd.snd.snd.snd.snd.snd.snd.snd.fst ∧ 
  o.snd.snd.snd.snd.snd.snd.snd.snd.snd.snd.snd.snd.fst = o.snd.snd.snd.snd.snd.snd.snd.snd.snd.snd.snd.snd.fst ∧ o.snd.snd.snd.snd.snd.snd.snd.snd.snd.snd.snd.snd.snd = 
  o.snd.snd.snd.snd.snd.snd.snd.snd.snd.snd.snd.snd.snd ∧ True) ∧ True) ∧ (o.fst.snd.snd.snd.snd.snd.fst = o.fst.snd.snd.snd.snd.snd.fst ∧ o.fst.snd.snd.snd.snd.snd.snd = o.fst.snd.snd.snd.snd.snd.snd ∧ True) ∧ (l.fst = 
  l.fst ∧ l.snd = l.snd ∧ True) ∧ True)) ∧ (decide ((↑x : Int) < (↑l.snd.length : Int)) = false → (decide (IntKind.i64.wrap (IntKind.i64.wrap ((0 : Int) + (1 : Int)) + (1 : Int)) < (2 : Int)) = true → ((0 : Int) ≤ 
  IntKind.i64.wrap (IntKind.i64.wrap ((0 : Int) + (1 : Int)) + (1 : Int)) ∧ IntKind.i64.wrap (IntKind.i64.wrap ((0 : Int) + (1 : Int)) + (1 : Int)) < (↑(2 : Nat) : Int)) ∧ False) ∧ (decide (IntKind.i64.wrap 
  (IntKind.i64.wrap ((0 : Int) + (1 : Int)) + (1 : Int)) < (2 : Int)) = false → ∃ (v : Bool), ((decide (o.fst.snd.snd.snd.snd.snd.fst > l.fst) = false → ((o.fst.snd.snd.snd.snd.snd.fst == (0 : Int)) = true → decide 
  (l.fst < (4 : Int)) = v) ∧ ((o.fst.snd.snd.snd.snd.snd.fst == (0 : Int)) = !true → false = v)) ∧ (decide (o.fst.snd.snd.snd.snd.snd.fst > l.fst) = !false → true = v)) ∧ (v = true → false = lowV l (olab o) ∧ True) ∧ (v 
  = false → true = lowV l (olab o) ∧ True))))) ∧ (decide (IntKind.i64.wrap ((0 : Int) + (1 : Int)) < (2 : Int)) = false → ∃ (v : Bool), ((decide (o.fst.snd.snd.snd.snd.snd.fst > l.fst) = false → 
  ((o.fst.snd.snd.snd.snd.snd.fst == (0 : Int)) = true → decide (l.fst < (4 : Int)) = v) ∧ ((o.fst.snd.snd.snd.snd.snd.fst == (0 : Int)) = !true → false = v)) ∧ (decide (o.fst.snd.snd.snd.snd.snd.fst > l.fst) = !false → 
  true = v)) ∧ (v = true → false = lowV l (olab o) ∧ True) ∧ (v = false → true = lowV l (olab o) ∧ True))))) ∧ (decide ((0 : Int) < (2 : Int)) = false → ∃ (v : Bool), ((decide (o.fst.snd.snd.snd.snd.snd.fst > l.fst) = 
  false → ((o.fst.snd.snd.snd.snd.snd.fst == (0 : Int)) = true → decide (l.fst < (4 : Int)) = v) ∧ ((o.fst.snd.snd.snd.snd.snd.fst == (0 : Int)) = !true → false = v)) ∧ (decide (o.fst.snd.snd.snd.snd.snd.fst > l.fst) = 
  !false → true = v)) ∧ (v = true → false = lowV l (olab o) ∧ True) ∧ (v = false → true = lowV l (olab o) ∧ True))) := by kernel_rfl
theorem own_vc (l : Lab) (o : Obj) : fvc PP (eLow (olab o) l (fun x => !badP x)) Try.f17 c17 (ofArgs [lab, objT] (l, o, ())) St0 (gives [.bool] (ownV l o, ())) = (
  (decide ((0 : Int) < (2 : Int)) = true → ((0 : Int) ≤ (0 : Int) ∧ (0 : Int) < (↑(2 : Nat) : Int)) ∧ (o.fst.snd.snd.snd.snd.snd.snd.length ≤ maxLen → ∃ (x0 : Nat), (x0 ≤ o.fst.snd.snd.snd.snd.snd.snd.length ∧ ((prs 
  (olab o) l (List.drop x0 o.fst.snd.snd.snd.snd.snd.snd)).all fun (x : Int × Int) => !badP x) = (prs (olab o) l o.fst.snd.snd.snd.snd.snd.snd).all fun (x : Int × Int) => !badP x) ∧ ((((True ∧ True ∧ True) ∧ True ∧ True 
  ∧ True ∧ (l.fst = l.fst ∧ l.snd = l.snd ∧ True) ∧ (o.fst.fst = o.fst.fst ∧ o.fst.snd.fst = o.fst.snd.fst ∧ o.fst.snd.snd.fst = o.fst.snd.snd.fst ∧ o.fst.snd.snd.snd.fst = o.fst.snd.snd.snd.fst ∧ 
  o.fst.snd.snd.snd.snd.fst = o.fst.snd.snd.snd.snd.fst ∧ o.fst.snd.snd.snd.snd.snd.fst = o.fst.snd.snd.snd.snd.snd.fst ∧ o.fst.snd.snd.snd.snd.snd.snd = o.fst.snd.snd.snd.snd.snd.snd ∧ o.snd.fst = o.snd.fst ∧ 
  o.snd.snd.fst = o.snd.snd.fst ∧ o.snd.snd.snd.fst = o.snd.snd.snd.fst ∧ o.snd.snd.snd.snd.fst.fst = o.snd.snd.snd.snd.fst.fst ∧ o.snd.snd.snd.snd.fst.snd = o.snd.snd.snd.snd.fst.snd ∧ o.snd.snd.snd.snd.snd.fst.fst = 
  o.snd.snd.snd.snd.snd.fst.fst ∧ o.snd.snd.snd.snd.snd.fst.snd = o.snd.snd.snd.snd.snd.fst.snd ∧ o.snd.snd.snd.snd.snd.snd.fst.fst.fst = o.snd.snd.snd.snd.snd.snd.fst.fst.fst ∧ o.snd.snd.snd.snd.snd.snd.fst.fst.snd.fst 
  = o.snd.snd.snd.snd.snd.snd.fst.fst.snd.fst ∧ o.snd.snd.snd.snd.snd.snd.fst.fst.snd.snd.fst = o.snd.snd.snd.snd.snd.snd.fst.fst.snd.snd.fst ∧ o.snd.snd.snd.snd.snd.snd.fst.fst.snd.snd.snd.fst = 
  o.snd.snd.snd.snd.snd.snd.fst.fst.snd.snd.snd.fst ∧ o.snd.snd.snd.snd.snd.snd.fst.fst.snd.snd.snd.snd.fst = o.snd.snd.snd.snd.snd.snd.fst.fst.snd.snd.snd.snd.fst ∧ 
  o.snd.snd.snd.snd.snd.snd.fst.fst.snd.snd.snd.snd.snd.fst = o.snd.snd.snd.snd.snd.snd.fst.fst.snd.snd.snd.snd.snd.fst ∧ o.snd.snd.snd.snd.snd.snd.fst.fst.snd.snd.snd.snd.snd.snd.fst = 
  o.snd.snd.snd.snd.snd.snd.fst.fst.snd.snd.snd.snd.snd.snd.fst ∧ o.snd.snd.snd.snd.snd.snd.fst.fst.snd.snd.snd.snd.snd.snd.snd.fst = o.snd.snd.snd.snd.snd.snd.fst.fst.snd.snd.snd.snd.snd.snd.snd.fst ∧ 
  o.snd.snd.snd.snd.snd.snd.fst.fst.snd.snd.snd.snd.snd.snd.snd.snd.fst = o.snd.snd.snd.snd.snd.snd.fst.fst.snd.snd.snd.snd.snd.snd.snd.snd.fst ∧ o.snd.snd.snd.snd.snd.snd.fst.fst.snd.snd.snd.snd.snd.snd.snd.snd.snd.fst 
  = o.snd.snd.snd.snd.snd.snd.fst.fst.snd.snd.snd.snd.snd.snd.snd.snd.snd.fst ∧ o.snd.snd.snd.snd.snd.snd.fst.fst.snd.snd.snd.snd.snd.snd.snd.snd.snd.snd.fst = 
  o.snd.snd.snd.snd.snd.snd.fst.fst.snd.snd.snd.snd.snd.snd.snd.snd.snd.snd.fst ∧ o.snd.snd.snd.snd.snd.snd.fst.fst.snd.snd.snd.snd.snd.snd.snd.snd.snd.snd.snd.fst = 
  o.snd.snd.snd.snd.snd.snd.fst.fst.snd.snd.snd.snd.snd.snd.snd.snd.snd.snd.snd.fst ∧ o.snd.snd.snd.snd.snd.snd.fst.fst.snd.snd.snd.snd.snd.snd.snd.snd.snd.snd.snd.snd.fst = 
  o.snd.snd.snd.snd.snd.snd.fst.fst.snd.snd.snd.snd.snd.snd.snd.snd.snd.snd.snd.snd.fst ∧ o.snd.snd.snd.snd.snd.snd.fst.fst.snd.snd.snd.snd.snd.snd.snd.snd.snd.snd.snd.snd.snd.fst = 
  o.snd.snd.snd.snd.snd.snd.fst.fst.snd.snd.snd.snd.snd.snd.snd.snd.snd.snd.snd.snd.snd.fst ∧ o.snd.snd.snd.snd.snd.snd.fst.fst.snd.snd.snd.snd.snd.snd.snd.snd.snd.snd.snd.snd.snd.snd.fst = 
  o.snd.snd.snd.snd.snd.snd.fst.fst.snd.snd.snd.snd.snd.snd.snd.snd.snd.snd.snd.snd.snd.snd.fst ∧ o.snd.snd.snd.snd.snd.snd.fst.fst.snd.snd.snd.snd.snd.snd.snd.snd.snd.snd.snd.snd.snd.snd.snd = 
  o.snd.snd.snd.snd.snd.snd.fst.fst.snd.snd.snd.snd.snd.snd.snd.snd.snd.snd.snd.snd.snd.snd.snd ∧ o.snd.snd.snd.snd.snd.snd.fst.snd = o.snd.snd.snd.snd.snd.snd.fst.snd ∧ o.snd.snd.snd.snd.snd.snd.snd.fst = 
  o.snd.snd.snd.snd.snd.snd.snd.fst ∧ o.snd.snd.snd.snd.snd.snd.snd.snd.fst = o.snd.snd.snd.snd.snd.snd.snd.snd.fst ∧ o.snd.snd.snd.snd.snd.snd.snd.snd.snd.fst = o.snd.snd.snd.snd.snd.snd.snd.snd.snd.fst ∧ 
  o.snd.snd.snd.snd.snd.snd.snd.snd.snd.snd.fst = o.snd.snd.snd.snd.snd.snd.snd.snd.snd.snd.fst ∧ o.snd.snd.snd.snd.snd.snd.snd.snd.snd.snd.snd.fst = o.snd.snd.snd.snd.snd.snd.snd.snd.snd.snd.snd.fst ∧ 
  o.snd.snd.snd.snd.snd.snd.snd.snd.snd.snd.snd.snd.fst = o.snd.snd.snd.snd.snd.snd.snd.snd.snd.snd.snd.snd.fst ∧ o.snd.snd.snd.snd.snd.snd.snd.snd.snd.snd.snd.snd.snd = 
  o.snd.snd.snd.snd.snd.snd.snd.snd.snd.snd.snd.snd.snd ∧ True) ∧ True) ∧ True ∧ True) ∧ ((0 : Int) = (↑x0 : Int) ∧ (↑o.fst.snd.snd.snd.snd.snd.snd.length : Int) = (↑o.fst.snd.snd.snd.snd.snd.snd.length : Int) ∧ 
  o.fst.snd.snd.snd.snd.snd.snd = o.fst.snd.snd.snd.snd.snd.snd ∧ True ∧ true = true ∧ (0 : Int) = (0 : Int) ∧ (o.fst.snd.snd.snd.snd.snd.fst = o.fst.snd.snd.snd.snd.snd.fst ∧ o.fst.snd.snd.snd.snd.snd.snd = 
  o.fst.snd.snd.snd.snd.snd.snd ∧ l.fst = l.fst ∧ l.snd = l.snd ∧ True) ∧ True ∧ True ∧ True ∧ True) ∧ (l.fst = l.fst ∧ l.snd = l.snd ∧ True) ∧ (o.fst.fst = o.fst.fst ∧ o.fst.snd.fst = o.fst.snd.fst ∧ o.fst.snd.snd.fst = 
  o.fst.snd.snd.fst ∧ o.fst.snd.snd.snd.fst = o.fst.snd.snd.snd.fst ∧ o.fst.snd.snd.snd.snd.fst = o.fst.snd.snd.snd.snd.fst ∧ o.fst.snd.snd.snd.snd.snd.fst = o.fst.snd.snd.snd.snd.snd.fst ∧ o.fst.snd.snd.snd.snd.snd.snd 
  = o.fst.snd.snd.snd.snd.snd.snd ∧ o.snd.fst = o.snd.fst ∧ o.snd.snd.fst = o.snd.snd.fst ∧ o.snd.snd.snd.fst = o.snd.snd.snd.fst ∧ o.snd.snd.snd.snd.fst.fst = o.snd.snd.snd.snd.fst.fst ∧ o.snd.snd.snd.snd.fst.snd = 
  o.snd.snd.snd.snd.fst.snd ∧ o.snd.snd.snd.snd.snd.fst.fst = o.snd.snd.snd.snd.snd.fst.fst ∧ o.snd.snd.snd.snd.snd.fst.snd = o.snd.snd.snd.snd.snd.fst.snd ∧ o.snd.snd.snd.snd.snd.snd.fst.fst.fst = 
  o.snd.snd.snd.snd.snd.snd.fst.fst.fst ∧ o.snd.snd.snd.snd.snd.snd.fst.fst.snd.fst = o.snd.snd.snd.snd.snd.snd.fst.fst.snd.fst ∧ o.snd.snd.snd.snd.snd.snd.fst.fst.snd.snd.fst = 
  o.snd.snd.snd.snd.snd.snd.fst.fst.snd.snd.fst ∧ o.snd.snd.snd.snd.snd.snd.fst.fst.snd.snd.snd.fst = o.snd.snd.snd.snd.snd.snd.fst.fst.snd.snd.snd.fst ∧ o.snd.snd.snd.snd.snd.snd.fst.fst.snd.snd.snd.snd.fst = 
  o.snd.snd.snd.snd.snd.snd.fst.fst.snd.snd.snd.snd.fst ∧ o.snd.snd.snd.snd.snd.snd.fst.fst.snd.snd.snd.snd.snd.fst = o.snd.snd.snd.snd.snd.snd.fst.fst.snd.snd.snd.snd.snd.fst ∧ 
  o.snd.snd.snd.snd.snd.snd.fst.fst.snd.snd.snd.snd.snd.snd.fst = o.snd.snd.snd.snd.snd.snd.fst.fst.snd.snd.snd.snd.snd.snd.fst ∧ o.snd.snd.snd.snd.snd.snd.fst.fst.snd.snd.snd.snd.snd.snd.snd.fst = 
  o.snd.snd.snd.snd.snd.snd.fst.fst.snd.snd.snd.snd.snd.snd.snd.fst ∧ o.snd.snd.snd.snd.snd.snd.fst.fst.snd.snd.snd.snd.snd.snd.snd.snd.fst = o.snd.snd.snd.snd.snd.snd.fst.fst.snd.snd.snd.snd.snd.snd.snd.snd.fst ∧ 
  o.snd.snd.snd.snd.snd.snd.fst.fst.snd.snd.snd.snd.snd.snd.snd.snd.snd.fst = o.snd.snd.snd.snd.snd.snd.fst.fst.snd.snd.snd.snd.snd.snd.snd.snd.snd.fst ∧ 
  o.snd.snd.snd.snd.snd.snd.fst.fst.snd.snd.snd.snd.snd.snd.snd.snd.snd.snd.fst = o.snd.snd.snd.snd.snd.snd.fst.fst.snd.snd.snd.snd.snd.snd.snd.snd.snd.snd.fst ∧ 
  o.snd.snd.snd.snd.snd.snd.fst.fst.snd.snd.snd.snd.snd.snd.snd.snd.snd.snd.snd.fst = o.snd.snd.snd.snd.snd.snd.fst.fst.snd.snd.snd.snd.snd.snd.snd.snd.snd.snd.snd.fst ∧ 
  o.snd.snd.snd.snd.snd.snd.fst.fst.snd.snd.snd.snd.snd.snd.snd.snd.snd.snd.snd.snd.fst = o.snd.snd.snd.snd.snd.snd.fst.fst.snd.snd.snd.snd.snd.snd.snd.snd.snd.snd.snd.snd.fst ∧ 
  o.snd.snd.snd.snd.snd.snd.fst.fst.snd.snd.snd.snd.snd.snd.snd.snd.snd.snd.snd.snd.snd.fst = o.snd.snd.snd.snd.snd.snd.fst.fst.snd.snd.snd.snd.snd.snd.snd.snd.snd.snd.snd.snd.snd.fst ∧ 
  o.snd.snd.snd.snd.snd.snd.fst.fst.snd.snd.snd.snd.snd.snd.snd.snd.snd.snd.snd.snd.snd.snd.fst = o.snd.snd.snd.snd.snd.snd.fst.fst.snd.snd.snd.snd.snd.snd.snd.snd.snd.snd.snd.snd.snd.snd.fst ∧ 
  o.snd.snd.snd.snd.snd.snd.fst.fst.snd.snd.snd.snd.snd.snd.snd.snd.snd.snd.snd.snd.snd.snd.snd = o.snd.snd.snd.snd.snd.snd.fst.fst.snd.snd.snd.snd.snd.snd.snd.snd.snd.snd.snd.snd.snd.snd.snd ∧ 
  o.snd.snd.snd.snd.snd.snd.fst.snd = o.snd.snd.snd.snd.snd.snd.fst.snd ∧ o.snd.snd.snd.snd.snd.snd.snd.fst = o.snd.snd.snd.snd.snd.snd.snd.fst ∧ o.snd.snd.snd.snd.snd.snd.snd.snd.fst = 
  o.snd.snd.snd.snd.snd.snd.snd.snd.fst ∧ o.snd.snd.snd.snd.snd.snd.snd.snd.snd.fst = o.snd.snd.snd.snd.snd.snd.snd.snd.snd.fst ∧ o.snd.snd.snd.snd.snd.snd.snd.snd.snd.snd.fst = 
  o.snd.snd.snd.snd.snd.snd.snd.snd.snd.snd.fst ∧ o.snd.snd.snd.snd.snd.snd.snd.snd.snd.snd.snd.fst = o.snd.snd.snd.snd.snd.snd.snd.snd.snd.snd.snd.fst ∧ o.snd.snd.snd.snd.snd.snd.snd.snd.snd.snd.snd.snd.fst = 
  o.snd.snd.snd.snd.snd.snd.snd.snd.snd.snd.snd.snd.fst ∧ o.snd.snd.snd.snd.snd.snd.snd.snd.snd.snd.snd.snd.snd = o.snd.snd.snd.snd.snd.snd.snd.snd.snd.snd.snd.snd.snd ∧ True) ∧ (false = false ∧ True) ∧ 
  (o.fst.snd.snd.snd.snd.snd.fst = o.fst.snd.snd.snd.snd.snd.fst ∧ o.fst.snd.snd.snd.snd.snd.snd = o.fst.snd.snd.snd.snd.snd.snd ∧ True) ∧ (l.fst = l.fst ∧ l.snd = l.snd ∧ True) ∧ True ∧ ((True ∧ True ∧ True) ∧ True ∧ 
  True ∧ True ∧ (l.fst = l.fst ∧ l.snd = l.snd ∧ True) ∧ (o.fst.fst = o.fst.fst ∧ o.fst.snd.fst = o.fst.snd.fst ∧ o.fst.snd.snd.fst = o.fst.snd.snd.fst ∧ o.fst.snd.snd.snd.fst = o.fst.snd.snd.snd.fst ∧ 
  o.fst.snd.snd.snd.snd.fst = o.fst.snd.snd.snd.snd.fst ∧ o.fst.snd.snd.snd.snd.snd.fst = o.fst.snd.snd.snd.snd.snd.fst ∧ o.fst.snd.snd.snd.snd.snd.snd = o.fst.snd.snd.snd.snd.snd.snd ∧ o.snd.fst = o.snd.fst ∧ 
  o.snd.snd.fst = o.snd.snd.fst ∧ o.snd.snd.snd.fst = o.snd.snd.snd.fst ∧ o.snd.snd.snd.snd.fst.fst = o.snd.snd.snd.snd.fst.fst ∧ o.snd.snd.snd.snd.fst.snd = o.snd.snd.snd.snd.fst.snd ∧ o.snd.snd.snd.snd.snd.fst.fst = 
  o.snd.snd.snd.snd.snd.fst.fst ∧ o.snd.snd.snd.snd.snd.fst.snd = o.snd.snd.snd.snd.snd.fst.snd ∧ o.snd.snd.snd.snd.snd.snd.fst.fst.fst = o.snd.snd.snd.snd.snd.snd.fst.fst.fst ∧ o.snd.snd.snd.snd.snd.snd.fst.fst.snd.fst 
  = o.snd.snd.snd.snd.snd.snd.fst.fst.snd.fst ∧ o.snd.snd.snd.snd.snd.snd.fst.fst.snd.snd.fst = o.snd.snd.snd.snd.snd.snd.fst.fst.snd.snd.fst ∧ o.snd.snd.snd.snd.snd.snd.fst.fst.snd.snd.snd.fst = 
  o.snd.snd.snd.snd.snd.snd.fst.fst.snd.snd.snd.fst ∧ o.snd.snd.snd.snd.snd.snd.fst.fst.snd.snd.snd.snd.fst = o.snd.snd.snd.snd.snd.snd.fst.fst.snd.snd.snd.snd.fst ∧ 
  o.snd.snd.snd.snd.snd.snd.fst.fst.snd.snd.snd.snd.snd.fst = o.snd.snd.snd.snd.snd.snd.fst.fst.snd.snd.snd.snd.snd.fst ∧ o.snd.snd.snd.snd.snd.snd.fst.fst.snd.snd.snd.snd.snd.snd.fst = 
  o.snd.snd.snd.snd.snd.snd.fst.fst.snd.snd.snd.snd.snd.snd.fst ∧ o.snd.snd.snd.snd.snd.snd.fst.fst.snd.snd.snd.snd.snd.snd.snd.fst = o.snd.snd.snd.snd.snd.snd.fst.fst.snd.snd.snd.snd.snd.snd.snd.fst ∧ 
  o.snd.snd.snd.snd.snd.snd.fst.fst.snd.snd.snd.snd.snd.snd.snd.snd.fst = o.snd.snd.snd.snd.snd.snd.fst.fst.snd.snd.snd.snd.snd.snd.snd.snd.fst ∧ o.snd.snd.snd.snd.snd.snd.fst.fst.snd.snd.snd.snd.snd.snd.snd.snd.snd.fst 
  = o.snd.snd.snd.snd.snd.snd.fst.fst.snd.snd.snd.snd.snd.snd.snd.snd.snd.fst ∧ o.snd.snd.snd.snd.snd.snd.fst.fst.snd.snd.snd.snd.snd.snd.snd.snd.snd.snd.fst = 
  o.snd.snd.snd.snd.snd.snd.fst.fst.snd.snd.snd.snd.snd.snd.snd.snd.snd.snd.fst ∧ o.snd.snd.snd.snd.snd.snd.fst.fst.snd.snd.snd.snd.snd.snd.snd.snd.snd.snd.snd.fst = 
  o.snd.snd.snd.snd.snd.snd.fst.fst.snd.snd.snd.snd.snd.snd.snd.snd.snd.snd.snd.fst ∧ o.snd.snd.snd.snd.snd.snd.fst.fst.snd.snd.snd.snd.snd.snd.snd.snd.snd.snd.snd.snd.fst = 
  o.snd.snd.snd.snd.snd.snd.fst.fst.snd.snd.snd.snd.snd.snd.snd.snd.snd.snd.snd.snd.fst ∧ o.snd.snd.snd.snd.snd.snd.fst.fst.snd.snd.snd.snd.snd.snd.snd.snd.snd.snd.snd.snd.snd.fst = 
  o.snd.snd.snd.snd.snd.snd.fst.fst.snd.snd.snd.snd.snd.snd.snd.snd.snd.snd.snd.snd.snd.fst ∧ o.snd.snd.snd.snd.snd.snd.fst.fst.snd.snd.snd.snd.snd.snd.snd.snd.snd.snd.snd.snd.snd.snd.fst = 
  o.snd.snd.snd.snd.snd.snd.fst.fst.snd.snd.snd.snd.snd.snd.snd.snd.snd.snd.snd.snd.snd.snd.fst ∧ o.snd.snd.snd.snd.snd.snd.fst.fst.snd.snd.snd.snd.snd.snd.snd.snd.snd.snd.snd.snd.snd.snd.snd = 
  o.snd.snd.snd.snd.snd.snd.fst.fst.snd.snd.snd.snd.snd.snd.snd.snd.snd.snd.snd.snd.snd.snd.snd ∧ o.snd.snd.snd.snd.snd.snd.fst.snd = o.snd.snd.snd.snd.snd.snd.fst.snd ∧ o.snd.snd.snd.snd.snd.snd.snd.fst = 
  o.snd.snd.snd.snd.snd.snd.snd.fst ∧ o.snd.snd.snd.snd.snd.snd.snd.snd.fst = o.snd.snd.snd.snd.snd.snd.snd.snd.fst ∧ o.snd.snd.snd.snd.snd.snd.snd.snd.snd.fst = o.snd.snd.snd.snd.snd.snd.snd.snd.snd.fst ∧ 
  o.snd.snd.snd.snd.snd.snd.snd.snd.snd.snd.fst = o.snd.snd.snd.snd.snd.snd.snd.snd.snd.snd.fst ∧ o.snd.snd.snd.snd.snd.snd.snd.snd.snd.snd.snd.fst = o.snd.snd.snd.snd.snd.snd.snd.snd.snd.snd.snd.fst ∧ 
  o.snd.snd.snd.snd.snd.snd.snd.snd.snd.snd.snd.snd.fst = o.snd.snd.snd.snd.snd.snd.snd.snd.snd.snd.snd.snd.fst ∧ o.snd.snd.snd.snd.snd.snd.snd.snd.snd.snd.snd.snd.snd = 
  o.snd.snd.snd.snd.snd.snd.snd.snd.snd.snd.snd.snd.snd ∧ True) ∧ True) ∧ (o.fst.snd.snd.snd.snd.snd.fst = o.fst.snd.snd.snd.snd.snd.fst ∧ o.fst.snd.snd.snd.snd.snd.snd = o.fst.snd.snd.snd.snd.snd.snd ∧ True) ∧ True) ∧ ∀ 
  (x : Nat), (x ≤ o.fst.snd.snd.snd.snd.snd.snd.length ∧ ((prs (olab o) l (List.drop x o.fst.snd.snd.snd.snd.snd.snd)).all fun (x : Int × Int) => !badP x) = (prs (olab o) l o.fst.snd.snd.snd.snd.snd.snd).all fun (x : Int 
  × Int) => !badP x) → (decide ((↑x : Int) < (↑o.fst.snd.snd.snd.snd.snd.snd.length : Int)) = true → ((0 : Int) ≤ (↑x : Int) ∧ (↑x : Int) < (↑o.fst.snd.snd.snd.snd.snd.snd.length : Int)) ∧ ∀ (y : Int × Int), 
  o.fst.snd.snd.snd.snd.snd.snd[(↑x : Int).toNat]? = some y → true = true ∧ true = true ∧ ∃ (v : Bool), (((atL (o.fst.snd.snd.snd.snd.snd.fst, o.fst.snd.snd.snd.snd.snd.snd) y.fst == (0 : Int)) = true → decide (atL 
  (l.fst, l.snd) y.fst < (4 : Int)) = v) ∧ ((atL (o.fst.snd.snd.snd.snd.snd.fst, o.fst.snd.snd.snd.snd.snd.snd) y.fst == (0 : Int)) = !true → false = v)) ∧ (v = true → ((o.fst.snd.fst == (4 : Int)) = false → 
  (o.fst.snd.fst == (5 : Int)) = ownV l o ∧ True) ∧ ((o.fst.snd.fst == (4 : Int)) = !false → true = ownV l o ∧ True)) ∧ (v = false → ∃ (x' : Nat), (x' ≤ o.fst.snd.snd.snd.snd.snd.snd.length ∧ ((prs (olab o) l (List.drop 
  x' o.fst.snd.snd.snd.snd.snd.snd)).all fun (x : Int × Int) => !badP x) = (prs (olab o) l o.fst.snd.snd.snd.snd.snd.snd).all fun (x : Int × Int) => !badP x) ∧ o.fst.snd.snd.snd.snd.snd.snd.length - x' < 
  o.fst.snd.snd.snd.snd.snd.snd.length - x ∧ (((True ∧ True ∧ True) ∧ True ∧ True ∧ True ∧ (l.fst = l.fst ∧ l.snd = l.snd ∧ True) ∧ (o.fst.fst = o.fst.fst ∧ o.fst.snd.fst = o.fst.snd.fst ∧ o.fst.snd.snd.fst = 
  o.fst.snd.snd.fst ∧ o.fst.snd.snd.snd.fst = o.fst.snd.snd.snd.fst ∧ o.fst.snd.snd.snd.snd.fst = o.fst.snd.snd.snd.snd.fst ∧ o.fst.snd.snd.snd.snd.snd.fst = o.fst.snd.snd.snd.snd.snd.fst ∧ o.fst.snd.snd.snd.snd.snd.snd 
  = o.fst.snd.snd.snd.snd.snd.snd ∧ o.snd.fst = o.snd.fst ∧ o.snd.snd.fst = o.snd.snd.fst ∧ o.snd.snd.snd.fst = o.snd.snd.snd.fst ∧ o.snd.snd.snd.snd.fst.fst = o.snd.snd.snd.snd.fst.fst ∧ o.snd.snd.snd.snd.fst.snd = 
  o.snd.snd.snd.snd.fst.snd ∧ o.snd.snd.snd.snd.snd.fst.fst = o.snd.snd.snd.snd.snd.fst.fst ∧ o.snd.snd.snd.snd.snd.fst.snd = o.snd.snd.snd.snd.snd.fst.snd ∧ o.snd.snd.snd.snd.snd.snd.fst.fst.fst = 
  o.snd.snd.snd.snd.snd.snd.fst.fst.fst ∧ o.snd.snd.snd.snd.snd.snd.fst.fst.snd.fst = o.snd.snd.snd.snd.snd.snd.fst.fst.snd.fst ∧ o.snd.snd.snd.snd.snd.snd.fst.fst.snd.snd.fst = 
  o.snd.snd.snd.snd.snd.snd.fst.fst.snd.snd.fst ∧ o.snd.snd.snd.snd.snd.snd.fst.fst.snd.snd.snd.fst = o.snd.snd.snd.snd.snd.snd.fst.fst.snd.snd.snd.fst ∧ o.snd.snd.snd.snd.snd.snd.fst.fst.snd.snd.snd.snd.fst = 
  o.snd.snd.snd.snd.snd.snd.fst.fst.snd.snd.snd.snd.fst ∧ o.snd.snd.snd.snd.snd.snd.fst.fst.snd.snd.snd.snd.snd.fst = o.snd.snd.snd.snd.snd.snd.fst.fst.snd.snd.snd.snd.snd.fst ∧ 
  o.snd.snd.snd.snd.snd.snd.fst.fst.snd.snd.snd.snd.snd.snd.fst = o.snd.snd.snd.snd.snd.snd.fst.fst.snd.snd.snd.snd.snd.snd.fst ∧ o.snd.snd.snd.snd.snd.snd.fst.fst.snd.snd.snd.snd.snd.snd.snd.fst = 
  o.snd.snd.snd.snd.snd.snd.fst.fst.snd.snd.snd.snd.snd.snd.snd.fst ∧ o.snd.snd.snd.snd.snd.snd.fst.fst.snd.snd.snd.snd.snd.snd.snd.snd.fst = o.snd.snd.snd.snd.snd.snd.fst.fst.snd.snd.snd.snd.snd.snd.snd.snd.fst ∧ 
  o.snd.snd.snd.snd.snd.snd.fst.fst.snd.snd.snd.snd.snd.snd.snd.snd.snd.fst = o.snd.snd.snd.snd.snd.snd.fst.fst.snd.snd.snd.snd.snd.snd.snd.snd.snd.fst ∧ 
  o.snd.snd.snd.snd.snd.snd.fst.fst.snd.snd.snd.snd.snd.snd.snd.snd.snd.snd.fst = o.snd.snd.snd.snd.snd.snd.fst.fst.snd.snd.snd.snd.snd.snd.snd.snd.snd.snd.fst ∧ 
  o.snd.snd.snd.snd.snd.snd.fst.fst.snd.snd.snd.snd.snd.snd.snd.snd.snd.snd.snd.fst = o.snd.snd.snd.snd.snd.snd.fst.fst.snd.snd.snd.snd.snd.snd.snd.snd.snd.snd.snd.fst ∧ 
  o.snd.snd.snd.snd.snd.snd.fst.fst.snd.snd.snd.snd.snd.snd.snd.snd.snd.snd.snd.snd.fst = o.snd.snd.snd.snd.snd.snd.fst.fst.snd.snd.snd.snd.snd.snd.snd.snd.snd.snd.snd.snd.fst ∧ 
  o.snd.snd.snd.snd.snd.snd.fst.fst.snd.snd.snd.snd.snd.snd.snd.snd.snd.snd.snd.snd.snd.fst = o.snd.snd.snd.snd.snd.snd.fst.fst.snd.snd.snd.snd.snd.snd.snd.snd.snd.snd.snd.snd.snd.fst ∧ 
  o.snd.snd.snd.snd.snd.snd.fst.fst.snd.snd.snd.snd.snd.snd.snd.snd.snd.snd.snd.snd.snd.snd.fst = o.snd.snd.snd.snd.snd.snd.fst.fst.snd.snd.snd.snd.snd.snd.snd.snd.snd.snd.snd.snd.snd.snd.fst ∧ 
  o.snd.snd.snd.snd.snd.snd.fst.fst.snd.snd.snd.snd.snd.snd.snd.snd.snd.snd.snd.snd.snd.snd.snd = o.snd.snd.snd.snd.snd.snd.fst.fst.snd.snd.snd.snd.snd.snd.snd.snd.snd.snd.snd.snd.snd.snd.snd ∧ 
  o.snd.snd.snd.snd.snd.snd.fst.snd = o.snd.snd.snd.snd.snd.snd.fst.snd ∧ o.snd.snd.snd.snd.snd.snd.snd.fst = o.snd.snd.snd.snd.snd.snd.snd.fst ∧ o.snd.snd.snd.snd.snd.snd.snd.snd.fst = 
  o.snd.snd.snd.snd.snd.snd.snd.snd.fst ∧ o.snd.snd.snd.snd.snd.snd.snd.snd.snd.fst = o.snd.snd.snd.snd.snd.snd.snd.snd.snd.fst ∧ o.snd.snd.snd.snd.snd.snd.snd.snd.snd.snd.fst = 
  o.snd.snd.snd.snd.snd.snd.snd.snd.snd.snd.fst ∧ o.snd.snd.snd.snd.snd.snd.snd.snd.snd.snd.snd.fst = o.snd.snd.snd.snd.snd.snd.snd.snd.snd.snd.snd.fst ∧ o.snd.snd.snd.snd.snd.snd.snd.snd.snd.snd.snd.snd.fst = 
  o.snd.snd.snd.snd.snd.snd.snd.snd.snd.snd.snd.snd.fst ∧ o.snd.snd.snd.snd.snd.snd.snd.snd.snd.snd.snd.snd.snd = o.snd.snd.snd.snd.snd.snd.snd.snd.snd.snd.snd.snd.snd ∧ True) ∧ True) ∧ True ∧ True) ∧ (IntKind.i64.wrap 
  ((↑x : Int) + (1 : Int)) = (↑x' : Int) ∧ (↑o.fst.snd.snd.snd.snd.snd.snd.length : Int) = (↑o.fst.snd.snd.snd.snd.snd.snd.length : Int) ∧ o.fst.snd.snd.snd.snd.snd.snd = o.fst.snd.snd.snd.snd.snd.snd ∧ True ∧ true = 
  true ∧ (0 : Int) = (0 : Int) ∧ (o.fst.snd.snd.snd.snd.snd.fst = o.fst.snd.snd.snd.snd.snd.fst ∧ o.fst.snd.snd.snd.snd.snd.snd = o.fst.snd.snd.snd.snd.snd.snd ∧ l.fst = l.fst ∧ l.snd = l.snd ∧ True) ∧ True ∧ True ∧ True 
  ∧ True) ∧ (l.fst = l.fst ∧ l.snd = l.snd ∧ True) ∧ (o.fst.fst = o.fst.fst ∧ o.fst.snd.fst = o.fst.snd.fst ∧ o.fst.snd.snd.fst = o.fst.snd.snd.fst ∧ o.fst.snd.snd.snd.fst = o.fst.snd.snd.snd.fst ∧ 
  o.fst.snd.snd.snd.snd.fst = o.fst.snd.snd.snd.snd.fst ∧ o.fst.snd.snd.snd.snd.snd.fst = o.fst.snd.snd.snd.snd.snd.fst ∧ o.fst.snd.snd.snd.snd.snd.snd = o.fst.snd.snd.snd.snd.snd.snd ∧ o.snd.fst = o.snd.fst ∧ 
  o.snd.snd.fst = o.snd.snd.fst ∧ o.snd.snd.snd.fst = o.snd.snd.snd.fst ∧ o.snd.snd.snd.snd.fst.fst = o.snd.snd.snd.snd.fst.fst ∧ o.snd.snd.snd.snd.fst.snd = o.snd.snd.snd.snd.fst.snd ∧ o.snd.snd.snd.snd.snd.fst.fst = 
  o.snd.snd.snd.snd.snd.fst.fst ∧ o.snd.snd.snd.snd.snd.fst.snd = o.snd.snd.snd.snd.snd.fst.snd ∧ o.snd.snd.snd.snd.snd.snd.fst.fst.fst = o.snd.snd.snd.snd.snd.snd.fst.fst.fst ∧ o.snd.snd.snd.snd.snd.snd.fst.fst.snd.fst 
  = o.snd.snd.snd.snd.snd.snd.fst.fst.snd.fst ∧ o.snd.snd.snd.snd.snd.snd.fst.fst.snd.snd.fst = o.snd.snd.snd.snd.snd.snd.fst.fst.snd.snd.fst ∧ o.snd.snd.snd.snd.snd.snd.fst.fst.snd.snd.snd.fst = 
  o.snd.snd.snd.snd.snd.snd.fst.fst.snd.snd.snd.fst ∧ o.snd.snd.snd.snd.snd.snd.fst.fst.snd.snd.snd.snd.fst = o.snd.snd.snd.snd.snd.snd.fst.fst.snd.snd.snd.snd.fst ∧ 
  o.snd.snd.snd.snd.snd.snd.fst.fst.snd.snd.snd.snd.snd.fst = o.snd.snd.snd.snd.snd.snd.fst.fst.snd.snd.snd.snd.snd.fst ∧ o.snd.snd.snd.snd.snd.snd.fst.fst.snd.snd.snd.snd.snd.snd.fst = 
  o.snd.snd.snd.snd.snd.snd.fst.fst.snd.snd.snd.snd.snd.snd.fst ∧ o.snd.snd.snd.snd.snd.snd.fst.fst.snd.snd.snd.snd.snd.snd.snd.fst = o.snd.snd.snd.snd.snd.snd.fst.fst.snd.snd.snd.snd.snd.snd.snd.fst ∧ 
  o.snd.snd.snd.snd.snd.snd.fst.fst.snd.snd.snd.snd.snd.snd.snd.snd.fst = o.snd.snd.snd.snd.snd.snd.fst.fst.snd.snd.snd.snd.snd.snd.snd.snd.fst ∧ o.snd.snd.snd.snd.snd.snd.fst.fst.snd.snd.snd.snd.snd.snd.snd.snd.snd.fst 
  = o.snd.snd.snd.snd.snd.snd.fst.fst.snd.snd.snd.snd.snd.snd.snd.snd.snd.fst ∧ o.snd.snd.snd.snd.snd.snd.fst.fst.snd.snd.snd.snd.snd.snd.snd.snd.snd.snd.fst = 
  o.snd.snd.snd.snd.snd.snd.fst.fst.snd.snd.snd.snd.snd.snd.snd.snd.snd.snd.fst ∧ o.snd.snd.snd.snd.snd.snd.fst.fst.snd.snd.snd.snd.snd.snd.snd.snd.snd.snd.snd.fst = 
  o.snd.snd.snd.snd.snd.snd.fst.fst.snd.snd.snd.snd.snd.snd.snd.snd.snd.snd.snd.fst ∧ o.snd.snd.snd.snd.snd.snd.fst.fst.snd.snd.snd.snd.snd.snd.snd.snd.snd.snd.snd.snd.fst = 
  o.snd.snd.snd.snd.snd.snd.fst.fst.snd.snd.snd.snd.snd.snd.snd.snd.snd.snd.snd.snd.fst ∧ o.snd.snd.snd.snd.snd.snd.fst.fst.snd.snd.snd.snd.snd.snd.snd.snd.snd.snd.snd.snd.snd.fst = 
  o.snd.snd.snd.snd.snd.snd.fst.fst.snd.snd.snd.snd.snd.snd.snd.snd.snd.snd.snd.snd.snd.fst ∧ o.snd.snd.snd.snd.snd.snd.fst.fst.snd.snd.snd.snd.snd.snd.snd.snd.snd.snd.snd.snd.snd.snd.fst = 
  o.snd.snd.snd.snd.snd.snd.fst.fst.snd.snd.snd.snd.snd.snd.snd.snd.snd.snd.snd.snd.snd.snd.fst ∧ o.snd.snd.snd.snd.snd.snd.fst.fst.snd.snd.snd.snd.snd.snd.snd.snd.snd.snd.snd.snd.snd.snd.snd = 
  o.snd.snd.snd.snd.snd.snd.fst.fst.snd.snd.snd.snd.snd.snd.snd.snd.snd.snd.snd.snd.snd.snd.snd ∧ o.snd.snd.snd.snd.snd.snd.fst.snd = o.snd.snd.snd.snd.snd.snd.fst.snd ∧ o.snd.snd.snd.snd.snd.snd.snd.fst = 
  o.snd.snd.snd.snd.snd.snd.snd.fst ∧ o.snd.snd.snd.snd.snd.snd.snd.snd.fst = o.snd.snd.snd.snd.snd.snd.snd.snd.fst ∧ o.snd.snd.snd.snd.snd.snd.snd.snd.snd.fst = o.snd.snd.snd.snd.snd.snd.snd.snd.snd.fst ∧ 
  o.snd.snd.snd.snd.snd.snd.snd.snd.snd.snd.fst = o.snd.snd.snd.snd.snd.snd.snd.snd.snd.snd.fst ∧ o.snd.snd.snd.snd.snd.snd.snd.snd.snd.snd.snd.fst = o.snd.snd.snd.snd.snd.snd.snd.snd.snd.snd.snd.fst ∧ 
  o.snd.snd.snd.snd.snd.snd.snd.snd.snd.snd.snd.snd.fst = o.snd.snd.snd.snd.snd.snd.snd.snd.snd.snd.snd.snd.fst ∧ o.snd.snd.snd.snd.snd.snd.snd.snd.snd.snd.snd.snd.snd = 
  o.snd.snd.snd.snd.snd.snd.snd.snd.snd.snd.snd.snd.snd ∧ True) ∧ (false = false ∧ True) ∧ (o.fst.snd.snd.snd.snd.snd.fst = o.fst.snd.snd.snd.snd.snd.fst ∧ o.fst.snd.snd.snd.snd.snd.snd = o.fst.snd.snd.snd.snd.snd.snd ∧ 
  True) ∧ (l.fst = l.fst ∧ l.snd = l.snd ∧ True) ∧ True ∧ ((True ∧ True ∧ True) ∧ True ∧ True ∧ True ∧ (l.fst = l.fst ∧ l.snd = l.snd ∧ True) ∧ (o.fst.fst = o.fst.fst ∧ o.fst.snd.fst = o.fst.snd.fst ∧ o.fst.snd.snd.fst = 
  o.fst.snd.snd.fst ∧ o.fst.snd.snd.snd.fst = o.fst.snd.snd.snd.fst ∧ o.fst.snd.snd.snd.snd.fst = o.fst.snd.snd.snd.snd.fst ∧ o.fst.snd.snd.snd.snd.snd.fst = o.fst.snd.snd.snd.snd.snd.fst ∧ o.fst.snd.snd.snd.snd.snd.snd 
  = o.fst.snd.snd.snd.snd.snd.snd ∧ o.snd.fst = o.snd.fst ∧ o.snd.snd.fst = o.snd.snd.fst ∧ o.snd.snd.snd.fst = o.snd.snd.snd.fst ∧ o.snd.snd.snd.snd.fst.fst = o.snd.snd.snd.snd.fst.fst ∧ o.snd.snd.snd.snd.fst.snd = 
  o.snd.snd.snd.snd.fst.snd ∧ o.snd.snd.snd.snd.snd.fst.fst = o.snd.snd.snd.snd.snd.fst.fst ∧ o.snd.snd.snd.snd.snd.fst.snd = o.snd.snd.snd.snd.snd.fst.snd ∧ o.snd.snd.snd.snd.snd.snd.fst.fst.fst = 
  o.snd.snd.snd.snd.snd.snd.fst.fst.fst ∧ o.snd.snd.snd.snd.snd.snd.fst.fst.snd.fst = o.snd.snd.snd.snd.snd.snd.fst.fst.snd.fst ∧ o.snd.snd.snd.snd.snd.snd.fst.fst.snd.snd.fst = 
  o.snd.snd.snd.snd.snd.snd.fst.fst.snd.snd.fst ∧ o.snd.snd.snd.snd.snd.snd.fst.fst.snd.snd.snd.fst = o.snd.snd.snd.snd.snd.snd.fst.fst.snd.snd.snd.fst ∧ o.snd.snd.snd.snd.snd.snd.fst.fst.snd.snd.snd.snd.fst = 
  o.snd.snd.snd.snd.snd.snd.fst.fst.snd.snd.snd.snd.fst ∧ o.snd.snd.snd.snd.snd.snd.fst.fst.snd.snd.snd.snd.snd.fst = o.snd.snd.snd.snd.snd.snd.fst.fst.snd.snd.snd.snd.snd.fst ∧ 
  o.snd.snd.snd.snd.snd.snd.fst.fst.snd.snd.snd.snd.snd.snd.fst = o.snd.snd.snd.snd.snd.snd.fst.fst.snd.snd.snd.snd.snd.snd.fst ∧ o.snd.snd.snd.snd.snd.snd.fst.fst.snd.snd.snd.snd.snd.snd.snd.fst = 
  o.snd.snd.snd.snd.snd.snd.fst.fst.snd.snd.snd.snd.snd.snd.snd.fst ∧ o.snd.snd.snd.snd.snd.snd.fst.fst.snd.snd.snd.snd.snd.snd.snd.snd.fst = o.snd.snd.snd.snd.snd.snd.fst.fst.snd.snd.snd.snd.snd.snd.snd.snd.fst ∧ 
  o.snd.snd.snd.snd.snd.snd.fst.fst.snd.snd.snd.snd.snd.snd.snd.snd.snd.fst = o.snd.snd.snd.snd.snd.snd.fst.fst.snd.snd.snd.snd.snd.snd.snd.snd.snd.fst ∧ 
  o.snd.snd.snd.snd.snd.snd.fst.fst.snd.snd.snd.snd.snd.snd.snd.snd.snd.snd.fst = o.snd.snd.snd.snd.snd.snd.fst.fst.snd.snd.snd.snd.snd.snd.snd.snd.snd.snd.fst ∧ 
  o.snd.snd.snd.snd.snd.snd.fst.fst.snd.snd.snd.snd.snd.snd.snd.snd.snd.snd.snd.fst = o.snd.snd.snd.snd.snd.snd.fst.fst.snd.snd.snd.snd.snd.snd.snd.snd.snd.snd.snd.fst ∧ 
  o.snd.snd.snd.snd.snd.snd.fst.fst.snd.snd.snd.snd.snd.snd.snd.snd.snd.snd.snd.snd.fst = o.snd.snd.snd.snd.snd.snd.fst.fst.snd.snd.snd.snd.snd.snd.snd.snd.snd.snd.snd.snd.fst ∧ 
  o.snd.snd.snd.snd.snd.snd.fst.fst.snd.snd.snd.snd.snd.snd.snd.snd.snd.snd.snd.snd.snd.fst = o.snd.snd.snd.snd.snd.snd.fst.fst.snd.snd.snd.snd.snd.snd.snd.snd.snd.snd.snd.snd.snd.fst ∧ 
  o.snd.snd.snd.snd.snd.snd.fst.fst.snd.snd.snd.snd.snd.snd.snd.snd.snd.snd.snd.snd.snd.snd.fst = o.snd.snd.snd.snd.snd.snd.fst.fst.snd.snd.snd.snd.snd.snd.snd.snd.snd.snd.snd.snd.snd.snd.fst ∧ 
  o.snd.snd.snd.snd.snd.snd.fst.fst.snd.snd.snd.snd.snd.snd.snd.snd.snd.snd.snd.snd.snd.snd.snd = o.snd.snd.snd.snd.snd.snd.fst.fst.snd.snd.snd.snd.snd.snd.snd.snd.snd.snd.snd.snd.snd.snd.snd ∧ 
  o.snd.snd.snd.snd.snd.snd.fst.snd = o.snd.snd.snd.snd.snd.snd.fst.snd ∧ o.snd.snd.snd.snd.snd.snd.snd.fst = o.snd.snd.snd.snd.snd.snd.snd.fst ∧ o.snd.snd.snd.snd.snd.snd.snd.snd.fst = 
  o.snd.snd.snd.snd.snd.snd.snd.snd.fst ∧ o.snd.snd.snd.snd.snd.snd.snd.snd.snd.fst = o.snd.snd.snd.snd.snd.snd.snd.snd.snd.fst ∧ o.snd.snd.snd.snd.snd.snd.snd.snd.snd.snd.fst = 
  o.snd.snd.snd.snd.snd.snd.snd.snd.snd.snd.fst ∧ o.snd.snd.snd.snd.snd.snd.snd.snd.snd.snd.snd.fst = o.snd.snd.snd.snd.snd.snd.snd.snd.snd.snd.snd.fst ∧ o.snd.snd.snd.snd.snd.snd.snd.snd.snd.snd.snd.snd.fst = 
  o.snd.snd.snd.snd.snd.snd.snd.snd.snd.snd.snd.snd.fst ∧ o.snd.snd.snd.snd.snd.snd.snd.snd.snd.snd.snd.snd.snd = o.snd.snd.snd.snd.snd.snd.snd.snd.snd.snd.snd.snd.snd ∧ True) ∧ True) ∧ (o.fst.snd.snd.snd.snd.snd.fst = 
  o.fst.snd.snd.snd.snd.snd.fst ∧ o.fst.snd.snd.snd.snd.snd.snd = o.fst.snd.snd.snd.snd.snd.snd ∧ True) ∧ True)) ∧ (decide ((↑x : Int) < (↑o.fst.snd.snd.snd.snd.snd.snd.length : Int)) = false → (decide (IntKind.i64.wrap 
  ((0 : Int) + (1 : Int)) < (2 : Int)) = true → ((0 : Int) ≤ IntKind.i64.wrap ((0 : Int) + (1 : Int)) ∧ IntKind.i64.wrap ((0 : Int) + (1 : Int)) < (↑(2 : Nat) : Int)) ∧ (l.snd.length ≤ maxLen → ∃ (x0 : Nat), (x0 ≤ 
  l.snd.length ∧ ((prs (olab o) l (List.drop x0 l.snd)).all fun (x : Int × Int) => !badP x) = (prs (olab o) l l.snd).all fun (x : Int × Int) => !badP x) ∧ ((((True ∧ True ∧ True) ∧ True ∧ True ∧ True ∧ (l.fst = l.fst ∧ 
  l.snd = l.snd ∧ True) ∧ (o.fst.fst = o.fst.fst ∧ o.fst.snd.fst = o.fst.snd.fst ∧ o.fst.snd.snd.fst = o.fst.snd.snd.fst ∧ o.fst.snd.snd.snd.fst = o.fst.snd.snd.snd.fst ∧ o.fst.snd.snd.snd.snd.fst = 
  o.fst.snd.snd.snd.snd.fst ∧ o.fst.snd.snd.snd.snd.snd.fst = o.fst.snd.snd.snd.snd.snd.fst ∧ o.fst.snd.snd.snd.snd.snd.snd = o.fst.snd.snd.snd.snd.snd.snd ∧ o.snd.fst = o.snd.fst ∧ o.snd.snd.fst = o.snd.snd.fst ∧ 
  o.snd.snd.snd.fst = o.snd.snd.snd.fst ∧ o.snd.snd.snd.snd.fst.fst = o.snd.snd.snd.snd.fst.fst ∧ o.snd.snd.snd.snd.fst.snd = o.snd.snd.snd.snd.fst.snd ∧ o.snd.snd.snd.snd.snd.fst.fst = o.snd.snd.snd.snd.snd.fst.fst ∧ 
  o.snd.snd.snd.snd.snd.fst.snd = o.snd.snd.snd.snd.snd.fst.snd ∧ o.snd.snd.snd.snd.snd.snd.fst.fst.fst = o.snd.snd.snd.snd.snd.snd.fst.fst.fst ∧ o.snd.snd.snd.snd.snd.snd.fst.fst.snd.fst = 
  o.snd.snd.snd.snd.snd.snd.fst.fst.snd.fst ∧ o.snd.snd.snd.snd.snd.snd.fst.fst.snd.snd.fst = o.snd.snd.snd.snd.snd.snd.fst.fst.snd.snd.fst ∧ o.snd.snd.snd.snd.snd.snd.fst.fst.snd.snd.snd.fst = 
  o.snd.snd.snd.snd.snd.snd.fst.fst.snd.snd.snd.fst ∧ o.snd.snd.snd.snd.snd.snd.fst.fst.snd.snd.snd.snd.fst = o.snd.snd.snd.snd.snd.snd.fst.fst.snd.snd.snd.snd.fst ∧ 
  o.snd.snd.snd.snd.snd.snd.fst.fst.snd.snd.snd.snd.snd.fst = o.snd.snd.snd.snd.snd.snd.fst.fst.snd.snd.snd.snd.snd.fst ∧ o.snd.snd.snd.snd.snd.snd.fst.fst.snd.snd.snd.snd.snd.snd.fst = 
  o.snd.snd.snd.snd.snd.snd.fst.fst.snd.snd.snd.snd.snd.snd.fst ∧ o.snd.snd.snd.snd.snd.snd.fst.fst.snd.snd.snd.snd.snd.snd.snd.fst = o.snd.snd.snd.snd.snd.snd.fst.fst.snd.snd.snd.snd.snd.snd.snd.fst ∧ 
  o.snd.snd.snd.snd.snd.snd.fst.fst.snd.snd.snd.snd.snd.snd.snd.snd.fst = o.snd.snd.snd.snd.snd.snd.fst.fst.snd.snd.snd.snd.snd.snd.snd.snd.fst ∧ o.snd.snd.snd.snd.snd.snd.fst.fst.snd.snd.snd.snd.snd.snd.snd.snd.snd.fst 
  = o.snd.snd.snd.snd.snd.snd.fst.fst.snd.snd.snd.snd.snd.snd.snd.snd.snd.fst ∧ o.snd.snd.snd.snd.snd.snd.fst.fst.snd.snd.snd.snd.snd.snd.snd.snd.snd.snd.fst = 
  o.snd.snd.snd.snd.snd.snd.fst.fst.snd.snd.snd.snd.snd.snd.snd.snd.snd.snd.fst ∧ o.snd.snd.snd.snd.snd.snd.fst.fst.snd.snd.snd.snd.snd.snd.snd.snd.snd.snd.snd.fst = 
  o.snd.snd.snd.snd.snd.snd.fst.fst.snd.snd.snd.snd.snd.snd.snd.snd.snd.snd.snd.fst ∧ o.snd.snd.snd.snd.snd.snd.fst.fst.snd.snd.snd.snd.snd.snd.snd.snd.snd.snd.snd.snd.fst = 
  o.snd.snd.snd.snd.snd.snd.fst.fst.snd.snd.snd.snd.snd.snd.snd.snd.snd.snd.snd.snd.fst ∧ o.snd.snd.snd.snd.snd.snd.fst.fst.snd.snd.snd.snd.snd.snd.snd.snd.snd.snd.snd.snd.snd.fst = 
  o.snd.snd.snd.snd.snd.snd.fst.fst.snd.snd.snd.snd.snd.snd.snd.snd.snd.snd.snd.snd.snd.fst ∧ o.snd.snd.snd.snd.snd.snd.fst.fst.snd.snd.snd.snd.snd.snd.snd.snd.snd.snd.snd.snd.snd.snd.fst = 
  o.snd.snd.snd.snd.snd.snd.fst.fst.snd.snd.snd.snd.snd.snd.snd.snd.snd.snd.snd.snd.snd.snd.fst ∧ o.snd.snd.snd.snd.snd.snd.fst.fst.snd.snd.snd.snd.snd.snd.snd.snd.snd.snd.snd.snd.snd.snd.snd = 
  o.snd.snd.snd.snd.snd.snd.fst.fst.snd.snd.snd.snd.snd.snd.snd.snd.snd.snd.snd.snd.snd.snd.snd ∧ o.snd.snd.snd.snd.snd.snd.fst.snd = o.snd.snd.snd.snd.snd.snd.fst.snd ∧ o.snd.snd.snd.snd.snd.snd.snd.fst = 
  o.snd.snd.snd.snd.snd.snd.snd.fst ∧ o.snd.snd.snd.snd.snd.snd.snd.snd.fst = o.snd.snd.snd.snd.snd.snd.snd.snd.fst ∧ o.snd.snd.snd.snd.snd.snd.snd.snd.snd.fst = o.snd.snd.snd.snd.snd.snd.snd.snd.snd.fst ∧ 
  o.snd.snd.snd.snd.snd.snd.snd.snd.snd.snd.fst = o.snd.snd.snd.snd.snd.snd.snd.snd.snd.snd.fst ∧ o.snd.snd.snd.snd.snd.snd.snd.snd.snd.snd.snd.fst = o.snd.snd.snd.snd.snd.snd.snd.snd.snd.snd.snd.fst ∧ 
  o.snd.snd.snd.snd.snd.snd.snd.snd.snd.snd.snd.snd.fst = o.snd.snd.snd.snd.snd.snd.snd.snd.snd.snd.snd.snd.fst ∧ o.snd.snd.snd.snd.snd.snd.snd.snd.snd.snd.snd.snd.snd = 
  o.snd.snd.snd.snd.snd.snd.snd.snd.snd.snd.snd.snd.snd ∧ True) ∧ True) ∧ True ∧ True) ∧ ((0 : Int) = (↑x0 : Int) ∧ (↑l.snd.length : Int) = (↑l.snd.length : Int) ∧ l.snd = l.snd ∧ True ∧ true = true ∧ IntKind.i64.wrap 
  ((0 : Int) + (1 : Int)) = IntKind.i64.wrap ((0 : Int) + (1 : Int)) ∧ (o.fst.snd.snd.snd.snd.snd.fst = o.fst.snd.snd.snd.snd.snd.fst ∧ o.fst.snd.snd.snd.snd.snd.snd = o.fst.snd.snd.snd.snd.snd.snd ∧ l.fst = l.fst ∧ 
  l.snd = l.snd ∧ True) ∧ True ∧ True ∧ True ∧ True) ∧ (l.fst = l.fst ∧ l.snd = l.snd ∧ True) ∧ (o.fst.fst = o.fst.fst ∧ o.fst.snd.fst = o.fst.snd.fst ∧ o.fst.snd.snd.fst = o.fst.snd.snd.fst ∧ o.fst.snd.snd.snd.fst = 
  o.fst.snd.snd.snd.fst ∧ o.fst.snd.snd.snd.snd.fst = o.fst.snd.snd.snd.snd.fst ∧ o.fst.snd.snd.snd.snd.snd.fst = o.fst.snd.snd.snd.snd.snd.fst ∧ o.fst.snd.snd.snd.snd.snd.snd = o.fst.snd.snd.snd.snd.snd.snd ∧ o.snd.fst 
  = o.snd.fst ∧ o.snd.snd.fst = o.snd.snd.fst ∧ o.snd.snd.snd.fst = o.snd.snd.snd.fst ∧ o.snd.snd.snd.snd.fst.fst = o.snd.snd.snd.snd.fst.fst ∧ o.snd.snd.snd.snd.fst.snd = o.snd.snd.snd.snd.fst.snd ∧ 
  o.snd.snd.snd.snd.snd.fst.fst = o.snd.snd.snd.snd.snd.fst.fst ∧ o.snd.snd.snd.snd.snd.fst.snd = o.snd.snd.snd.snd.snd.fst.snd ∧ o.snd.snd.snd.snd.snd.snd.fst.fst.fst = o.snd.snd.snd.snd.snd.snd.fst.fst.fst ∧ 
  o.snd.snd.snd.snd.snd.snd.fst.fst.snd.fst = o.snd.snd.snd.snd.snd.snd.fst.fst.snd.fst ∧ o.snd.snd.snd.snd.snd.snd.fst.fst.snd.snd.fst = o.snd.snd.snd.snd.snd.snd.fst.fst.snd.snd.fst ∧ 
  o.snd.snd.snd.snd.snd.snd.fst.fst.snd.snd.snd.fst = o.snd.snd.snd.snd.snd.snd.fst.fst.snd.snd.snd.fst ∧ o.snd.snd.snd.snd.snd.snd.fst.fst.snd.snd.snd.snd.fst = o.snd.snd.snd.snd.snd.snd.fst.fst.snd.snd.snd.snd.fst ∧ 
  o.snd.snd.snd.snd.snd.snd.fst.fst.snd.snd.snd.snd.snd.fst = o.snd.snd.snd.snd.snd.snd.fst.fst.snd.snd.snd.snd.snd.fst ∧ o.snd.snd.snd.snd.snd.snd.fst.fst.snd.snd.snd.snd.snd.snd.fst = 
  o.snd.snd.snd.snd.snd.snd.fst.fst.snd.snd.snd.snd.snd.snd.fst ∧ o.snd.snd.snd.snd.snd.snd.fst.fst.snd.snd.snd.snd.snd.snd.snd.fst = o.snd.snd.snd.snd.snd.snd.fst.fst.snd.snd.snd.snd.snd.snd.snd.fst ∧ 
  o.snd.snd.snd.snd.snd.snd.fst.fst.snd.snd.snd.snd.snd.snd.snd.snd.fst = o.snd.snd.snd.snd.snd.snd.fst.fst.snd.snd.snd.snd.snd.snd.snd.snd.fst ∧ o.snd.snd.snd.snd.snd.snd.fst.fst.snd.snd.snd.snd.snd.snd.snd.snd.snd.fst 
  = o.snd.snd.snd.snd.snd.snd.fst.fst.snd.snd.snd.snd.snd.snd.snd.snd.snd.fst ∧ o.snd.snd.snd.snd.snd.snd.fst.fst.snd.snd.snd.snd.snd.snd.snd.snd.snd.snd.fst = 
  o.snd.snd.snd.snd.snd.snd.fst.fst.snd.snd.snd.snd.snd.snd.snd.snd.snd.snd.fst ∧ o.snd.snd.snd.snd.snd.snd.fst.fst.snd.snd.snd.snd.snd.snd.snd.snd.snd.snd.snd.fst = 
  o.snd.snd.snd.snd.snd.snd.fst.fst.snd.snd.snd.snd.snd.snd.snd.snd.snd.snd.snd.fst ∧ o.snd.snd.snd.snd.snd.snd.fst.fst.snd.snd.snd.snd.snd.snd.snd.snd.snd.snd.snd.snd.fst = 
  o.snd.snd.snd.snd.snd.snd.fst.fst.snd.snd.snd.snd.snd.snd.snd.snd.snd.snd.snd.snd.fst ∧ o.snd.snd.snd.snd.snd.snd.fst.fst.snd.snd.snd.snd.snd.snd.snd.snd.snd.snd.snd.snd.snd.fst = 
  o.snd.snd.snd.snd.snd.snd.fst.fst.snd.snd.snd.snd.snd.snd.snd.snd.snd.snd.snd.snd.snd.fst ∧ o.snd.snd.snd.snd.snd.snd.fst.fst.snd.snd.snd.snd.snd.snd.snd.snd.snd.snd.snd.snd.snd.snd.fst = 
  o.snd.snd.snd.snd.snd.snd.fst.fst.snd.snd.snd.snd.snd.snd.snd.snd.snd.snd.snd.snd.snd.snd.fst ∧ o.snd.snd.snd.snd.snd.snd.fst.fst.snd.snd.snd.snd.snd.snd.snd.snd.snd.snd.snd.snd.snd.snd.snd = 
  o.snd.snd.snd.snd.snd.snd.fst.fst.snd.snd.snd.snd.snd.snd.snd.snd.snd.snd.snd.snd.snd.snd.snd ∧ o.snd.snd.snd.snd.snd.snd.fst.snd = o.snd.snd.snd.snd.snd.snd.fst.snd ∧ o.snd.snd.snd.snd.snd.snd.snd.fst = 
  o.snd.snd.snd.snd.snd.snd.snd.fst ∧ o.snd.snd.snd.snd.snd.snd.snd.snd.fst = o.snd.snd.snd.snd.snd.snd.snd.snd.fst ∧ o.snd.snd.snd.snd.snd.snd.snd.snd.snd.fst = o.snd.snd.snd.snd.snd.snd.snd.snd.snd.fst ∧ 
  o.snd.snd.snd.snd.snd.snd.snd.snd.snd.snd.fst = o.snd.snd.snd.snd.snd.snd.snd.snd.snd.snd.fst ∧ o.snd.snd.snd.snd.snd.snd.snd.snd.snd.snd.snd.fst = o.snd.snd.snd.snd.snd.snd.snd.snd.snd.snd.snd.fst ∧ 
  o.snd.snd.snd.snd.snd.snd.snd.snd.snd.snd.snd.snd.fst = o.snd.snd.snd.snd.snd.snd.snd.snd.snd.snd.snd.snd.fst ∧ o.snd.snd.snd.snd.snd.snd.snd.snd.snd.snd.snd.snd.snd = 
  o.snd.snd.snd.snd.snd.snd.snd.snd.snd.snd.snd.snd.snd ∧ True) ∧ (false = false ∧ True) ∧ (o.fst.snd.snd.snd.snd.snd.fst = o.fst.snd.snd.snd.snd.snd.fst ∧ o.fst.snd.snd.snd.snd.snd.snd = o.fst.snd.snd.snd.snd.snd.snd ∧ 
  True) ∧ (l.fst = l.fst ∧ l.snd = l.snd ∧ True) ∧ True ∧ ((True ∧ True ∧ True) ∧ True ∧ True ∧ True ∧ (l.fst = l.fst ∧ l.snd = l.snd ∧ True) ∧ (o.fst.fst = o.fst.fst ∧ o.fst.snd.fst = o.fst.snd.fst ∧ o.fst.snd.snd.fst = 
  o.fst.snd.snd.fst ∧ o.fst.snd.snd.snd.fst = o.fst.snd.snd.snd.fst ∧ o.fst.snd.snd.snd.snd.fst = o.fst.snd.snd.snd.snd.fst ∧ o.fst.snd.snd.snd.snd.snd.fst = o.fst.snd.snd.snd.snd.snd.fst ∧ o.fst.snd.snd.snd.snd.snd.snd 
  = o.fst.snd.snd.snd.snd.snd.snd ∧ o.snd.fst = o.snd.fst ∧ o.snd.snd.fst = o.snd.snd.fst ∧ o.snd.snd.snd.fst = o.snd.snd.snd.fst ∧ o.snd.snd.snd.snd.fst.fst = o.snd.snd.snd.snd.fst.fst ∧ o.snd.snd.snd.snd.fst.snd = 
  o.snd.snd.snd.snd.fst.snd ∧ o.snd.snd.snd.snd.snd.fst.fst = o.snd.snd.snd.snd.snd.fst.fst ∧ o.snd.snd.snd.snd.snd.fst.snd = o.snd.snd.snd.snd.snd.fst.snd ∧ o.snd.snd.snd.snd.snd.snd.fst.fst.fst = 
  o.snd.snd.snd.snd.snd.snd.fst.fst.fst ∧ o.snd.snd.snd.snd.snd.snd.fst.fst.snd.fst = o.snd.snd.snd.snd.snd.snd.fst.fst.snd.fst ∧ o.snd.snd.snd.snd.snd.snd.fst.fst.snd.snd.fst = 
  o.snd.snd.snd.snd.snd.snd.fst.fst.snd.snd.fst ∧ o.snd.snd.snd.snd.snd.snd.fst.fst.snd.snd.snd.fst = o.snd.snd.snd.snd.snd.snd.fst.fst.snd.snd.snd.fst ∧ o.snd.snd.snd.snd.snd.snd.fst.fst.snd.snd.snd.snd.fst = 
  o.snd.snd.snd.snd.snd.snd.fst.fst.snd.snd.snd.snd.fst ∧ o.snd.snd.snd.snd.snd.snd.fst.fst.snd.snd.snd.snd.snd.fst = o.snd.snd.snd.snd.snd.snd.fst.fst.snd.snd.snd.snd.snd.fst ∧ 
  o.snd.snd.snd.snd.snd.snd.fst.fst.snd.snd.snd.snd.snd.snd.fst = o.snd.snd.snd.snd.snd.snd.fst.fst.snd.snd.snd.snd.snd.snd.fst ∧ o.snd.snd.snd.snd.snd.snd.fst.fst.snd.snd.snd.snd.snd.snd.snd.fst = 
  o.snd.snd.snd.snd.snd.snd.fst.fst.snd.snd.snd.snd.snd.snd.snd.fst ∧ o.snd.snd.snd.snd.snd.snd.fst.fst.snd.snd.snd.snd.snd.snd.snd.snd.fst = o.snd.snd.snd.snd.snd.snd.fst.fst.snd.snd.snd.snd.snd.snd.snd.snd.fst ∧ 
  o.snd.snd.snd.snd.snd.snd.fst.fst.snd.snd.snd.snd.snd.snd.snd.snd.snd.fst = o.snd.snd.snd.snd.snd.snd.fst.fst.snd.snd.snd.snd.snd.snd.snd.snd.snd.fst ∧ 
  o.snd.snd.snd.snd.snd.snd.fst.fst.snd.snd.snd.snd.snd.snd.snd.snd.snd.snd.fst = o.snd.snd.snd.snd.snd.snd.fst.fst.snd.snd.snd.snd.snd.snd.snd.snd.snd.snd.fst ∧ 
  o.snd.snd.snd.snd.snd.snd.fst.fst.snd.snd.snd.snd.snd.snd.snd.snd.snd.snd.snd.fst = o.snd.snd.snd.snd.snd.snd.fst.fst.snd.snd.snd.snd.snd.snd.snd.snd.snd.snd.snd.fst ∧ 
  o.snd.snd.snd.snd.snd.snd.fst.fst.snd.snd.snd.snd.snd.snd.snd.snd.snd.snd.snd.snd.fst = o.snd.snd.snd.snd.snd.snd.fst.fst.snd.snd.snd.snd.snd.snd.snd.snd.snd.snd.snd.snd.fst ∧ 
  o.snd.snd.snd.snd.snd.snd.fst.fst.snd.snd.snd.snd.snd.snd.snd.snd.snd.snd.snd.snd.snd.fst = o.snd.snd.snd.snd.snd.snd.fst.fst.snd.snd.snd.snd.snd.snd.snd.snd.snd.snd.snd.snd.snd.fst ∧ 
  o.snd.snd.snd.snd.snd.snd.fst.fst.snd.snd.snd.snd.snd.snd.snd.snd.snd.snd.snd.snd.snd.snd.fst = o.snd.snd.snd.snd.snd.snd.fst.fst.snd.snd.snd.snd.snd.snd.snd.snd.snd.snd.snd.snd.snd.snd.fst ∧ 
  o.snd.snd.snd.snd.snd.snd.fst.fst.snd.snd.snd.snd.snd.snd.snd.snd.snd.snd.snd.snd.snd.snd.snd = o.snd.snd.snd.snd.snd.snd.fst.fst.snd.snd.snd.snd.snd.snd.snd.snd.snd.snd.snd.snd.snd.snd.snd ∧ 
  o.snd.snd.snd.snd.snd.snd.fst.snd = o.snd.snd.snd.snd.snd.snd.fst.snd ∧ o.snd.snd.snd.snd.snd.snd.snd.fst = o.snd.snd.snd.snd.snd.snd.snd.fst ∧ o.snd.snd.snd.snd.snd.snd.snd.snd.fst = 
  o.snd.snd.snd.snd.snd.snd.snd.snd.fst ∧ o.snd.snd.snd.snd.snd.snd.snd.snd.snd.fst = o.snd.snd.snd.snd.snd.snd.snd.snd.snd.fst ∧ o.snd.snd.snd.snd.snd.snd.snd.snd.snd.snd.fst = 
  o.snd.snd.snd.snd.snd.snd.snd.snd.snd.snd.fst ∧ o.snd.snd.snd.snd.snd.snd.snd.snd.snd.snd.snd.fst = o.snd.snd.snd.snd.snd.snd.snd.snd.snd.snd.snd.fst ∧ o.snd.snd.snd.snd.snd.snd.snd.snd.snd.snd.snd.snd.fst = 
  o.snd.snd.snd.snd.snd.snd.snd.snd.snd.snd.snd.snd.fst ∧ o.snd.snd.snd.snd.snd.snd.snd.snd.snd.snd.snd.snd.snd = o.snd.snd.snd.snd.snd.snd.snd.snd.snd.snd.snd.snd.snd ∧ True) ∧ True) ∧ (o.fst.snd.snd.snd.snd.snd.fst = 
  o.fst.snd.snd.snd.snd.snd.fst ∧ o.fst.snd.snd.snd.snd.snd.snd = o.fst.snd.snd.snd.snd.snd.snd ∧ True) ∧ (l.fst = l.fst ∧ l.snd = l.snd ∧ True) ∧ True) ∧ ∀ (x : Nat), (x ≤ l.snd.length ∧ ((prs (olab o) l (List.drop x 
  l.snd)).all fun (x : Int × Int) => !badP x) = (prs (olab o) l l.snd).all fun (x : Int × Int) => !badP x) → (decide ((↑x : Int) < (↑l.snd.length : Int)) = true → ((0 : Int) ≤ (↑x : Int) ∧ (↑x : Int) < (↑l.snd.length : 
  Int)) ∧ ∀ (y : Int × Int), l.snd[(↑x : Int).toNat]? = some y → true = true ∧ true = true ∧ ∃ (v : Bool), (((atL (o.fst.snd.snd.snd.snd.snd.fst, o.fst.snd.snd.snd.snd.snd.snd) y.fst == (0 : Int)) = true → decide (atL 
  (l.fst, l.snd) y.fst < (4 : Int)) = v) ∧ ((atL (o.fst.snd.snd.snd.snd.snd.fst, o.fst.snd.snd.snd.snd.snd.snd) y.fst == (0 : Int)) = !true → false = v)) ∧ (v = true → ((o.fst.snd.fst == (4 : Int)) = false → 
  (o.fst.snd.fst == (5 : Int)) = ownV l o ∧ True) ∧ ((o.fst.snd.fst == (4 : Int)) = !false → true = ownV l o ∧ True)) ∧ (v = false → ∃ (x' : Nat), (x' ≤ l.snd.length ∧ ((prs (olab o) l (List.drop x' l.snd)).all fun (x : 
  Int × Int) => !badP x) = (prs (olab o) l l.snd).all fun (x : Int × Int) => !badP x) ∧ l.snd.length - x' < l.snd.length - x ∧ (((True ∧ True ∧ True) ∧ True ∧ True ∧ True ∧ (l.fst = l.fst ∧ l.snd = l.snd ∧ True) ∧ 
  (o.fst.fst = o.fst.fst ∧ o.fst.snd.fst = o.fst.snd.fst ∧ o.fst.snd.snd.fst = o.fst.snd.snd.fst ∧ o.fst.snd.snd.snd.fst = o.fst.snd.snd.snd.fst ∧ o.fst.snd.snd.snd.snd.fst = o.fst.snd.snd.snd.snd.fst ∧ 
  o.fst.snd.snd.snd.snd.snd.fst = o.fst.snd.snd.snd.snd.snd.fst ∧ o.fst.snd.snd.snd.snd.snd.snd = o.fst.snd.snd.snd.snd.snd.snd ∧ o.snd.fst = o.snd.fst ∧ o.snd.snd.fst = o.snd.snd.fst ∧ o.snd.snd.snd.fst = 
  o.snd.snd.snd.fst ∧ o.snd.snd.snd.snd.fst.fst = o.snd.snd.snd.snd.fst.fst ∧ o.snd.snd.snd.snd.fst.snd = o.snd.snd.snd.snd.fst.snd ∧ o.snd.snd.snd.snd.snd.fst.fst = o.snd.snd.snd.snd.snd.fst.fst ∧ 
  o.snd.snd.snd.snd.snd.fst.snd = o.snd.snd.snd.snd.snd.fst.snd ∧ o.snd.snd.snd.snd.snd.snd.fst.fst.fst = o.snd.snd.snd.snd.snd.snd.fst.fst.fst ∧ o.snd.snd.snd.snd.snd.snd.fst.fst.snd.fst = 
  o.snd.snd.snd.snd.snd.snd.fst.fst.snd.fst ∧ o.snd.snd.snd.snd.snd.snd.fst.fst.snd.snd.fst = o.snd.snd.snd.snd.snd.snd.fst.fst.snd.snd.fst ∧ o.snd.snd.snd.snd.snd.snd.fst.fst.snd.snd.snd.fst = 
  o.snd.snd.snd.snd.snd.snd.fst.fst.snd.snd.snd.fst ∧ o.snd.snd.snd.snd.snd.snd.fst.fst.snd.snd.snd.snd.fst = o.snd.snd.snd.snd.snd.snd.fst.fst.snd.snd.snd.snd.fst ∧ 
  o.snd.snd.snd.snd.snd.snd.fst.fst.snd.snd.snd.snd.snd.fst = o.snd.snd.snd.snd.snd.snd.fst.fst.snd.snd.snd.snd.snd.fst ∧ o.snd.snd.snd.snd.snd.snd.fst.fst.snd.snd.snd.snd.snd.snd.fst = 
  o.snd.snd.snd.snd.snd.snd.fst.fst.snd.snd.snd.snd.snd.snd.fst ∧ o.snd.snd.snd.snd.snd.snd.fst.fst.snd.snd.snd.snd.snd.snd.snd.fst = o.snd.snd.snd.snd.snd.snd.fst.fst.snd.snd.snd.snd.snd.snd.snd.fst ∧ 
  o.snd.snd.snd.snd.snd.snd.fst.fst.snd.snd.snd.snd.snd.snd.snd.snd.fst = o.snd.snd.snd.snd.snd.snd.fst.fst.snd.snd.snd.snd.snd.snd.snd.snd.fst ∧ o.snd.snd.snd.snd.snd.snd.fst.fst.snd.snd.snd.snd.snd.snd.snd.snd.snd.fst 
  = o.snd.snd.snd.snd.snd.snd.fst.fst.snd.snd.snd.snd.snd.snd.snd.snd.snd.fst ∧ o.snd.snd.snd.snd.snd.snd.fst.fst.snd.snd.snd.snd.snd.snd.snd.snd.snd.snd.fst = 
  o.snd.snd.snd.snd.snd.snd.fst.fst.snd.snd.snd.snd.snd.snd.snd.snd.snd.snd.fst ∧ o.snd.snd.snd.snd.snd.snd.fst.fst.snd.snd.snd.snd.snd.snd.snd.snd.snd.snd.snd.fst = 
  o.snd.snd.snd.snd.snd.snd.fst.fst.snd.snd.snd.snd.snd.snd.snd.snd.snd.snd.snd.fst ∧ o.snd.snd.snd.snd.snd.snd.fst.fst.snd.snd.snd.snd.snd.snd.snd.snd.snd.snd.snd.snd.fst = 
  o.snd.snd.snd.snd.snd.snd.fst.fst.snd.snd.snd.snd.snd.snd.snd.snd.snd.snd.snd.snd.fst ∧ o.snd.snd.snd.snd.snd.snd.fst.fst.snd.snd.snd.snd.snd.snd.snd.snd.snd.snd.snd.snd.snd.fst = 
  o.snd.snd.snd.snd.snd.snd.fst.fst.snd.snd.snd.snd.snd.snd.snd.snd.snd.snd.snd.snd.snd.fst ∧ o.snd.snd.snd.snd.snd.snd.fst.fst.snd.snd.snd.snd.snd.snd.snd.snd.snd.snd.snd.snd.snd.snd.fst = 
  o.snd.snd.snd.snd.snd.snd.fst.fst.snd.snd.snd.snd.snd.snd.snd.snd.snd.snd.snd.snd.snd.snd.fst ∧ o.snd.snd.snd.snd.snd.snd.fst.fst.snd.snd.snd.snd.snd.snd.snd.snd.snd.snd.snd.snd.snd.snd.snd = 
  o.snd.snd.snd.snd.snd.snd.fst.fst.snd.snd.snd.snd.snd.snd.snd.snd.snd.snd.snd.snd.snd.snd.snd ∧ o.snd.snd.snd.snd.snd.snd.fst.snd = o.snd.snd.snd.snd.snd.snd.fst.snd ∧ o.snd.snd.snd.snd.snd.snd.snd.fst = 
  o.snd.snd.snd.snd.snd.snd.snd.fst ∧ o.snd.snd.snd.snd.snd.snd.snd.snd.fst = o.snd.snd.snd.snd.snd.snd.snd.snd.fst ∧ o.snd.snd.snd.snd.snd.snd.snd.snd.snd.fst = o.snd.snd.snd.snd.snd.snd.snd.snd.snd.fst ∧ 
  o.snd.snd.snd.snd.snd.snd.snd.snd.snd.snd.fst = o.snd.snd.snd.snd.snd.snd.snd.snd.snd.snd.fst ∧ o.snd.snd.snd.snd.snd.snd.snd.snd.snd.snd.snd.fst = o.snd.snd.snd.snd.snd.snd.snd.snd.snd.snd.snd.fst ∧ 
  o.snd.snd.snd.snd.snd.snd.snd.snd.snd.snd.snd.snd.fst = o.snd.snd.snd.snd.snd.snd.snd.snd.snd.snd.snd.snd.fst ∧ o.snd.snd.snd.snd.snd.snd.snd.snd.snd.snd.snd.snd.snd = 
  o.snd.snd.snd.snd.snd.snd.snd.snd.snd.snd.snd.snd.snd ∧ True) ∧ True) ∧ True ∧ True) ∧ (IntKind.i64.wrap ((↑x : Int) + (1 : Int)) = (↑x' : Int) ∧ (↑l.snd.length : Int) = (↑l.snd.length : Int) ∧ l.snd = l.snd ∧ True ∧ 
  true = true ∧ IntKind.i64.wrap ((0 : Int) + (1 : Int)) = IntKind.i64.wrap ((0 : Int) + (1 : Int)) ∧ (o.fst.snd.snd.snd.snd.snd.fst = o.fst.snd.snd.snd.snd.snd.fst ∧ o.fst.snd.snd.snd.snd.snd.snd = 
  o.fst.snd.snd.snd.snd.snd.snd ∧ l.fst = l.fst ∧ l.snd = l.snd ∧ True) ∧ True ∧ True ∧ True ∧ True) ∧ (l.fst = l.fst ∧ l.snd = l.snd ∧ True) ∧ (o.fst.fst = o.fst.fst ∧ o.fst.snd.fst = o.fst.snd.fst ∧ o.fst.snd.snd.fst = 
  o.fst.snd.snd.fst ∧ o.fst.snd.snd.snd.fst = o.fst.snd.snd.snd.fst ∧ o.fst.snd.snd.snd.snd.fst = o.fst.snd.snd.snd.snd.fst ∧ o.fst.snd.snd.snd.snd.snd.fst = o.fst.snd.snd.snd.snd.snd.fst ∧ o.fst.snd.snd.snd.snd.snd.snd 
  = o.fst.snd.snd.snd.snd.snd.snd ∧ o.snd.fst = o.snd.fst ∧ o.snd.snd.fst = o.snd.snd.fst ∧ o.snd.snd.snd.fst = o.snd.snd.snd.fst ∧ o.snd.snd.snd.snd.fst.fst = o.snd.snd.snd.snd.fst.fst ∧ o.snd.snd.snd.snd.fst.snd = 
  o.snd.snd.snd.snd.fst.snd ∧ o.snd.snd.snd.snd.snd.fst.fst = o.snd.snd.snd.snd.snd.fst.fst ∧ o.snd.snd.snd.snd.snd.fst.snd = o.snd.snd.snd.snd.snd.fst.snd ∧ o.snd.snd.snd.snd.snd.snd.fst.fst.fst = 
  o.snd.snd.snd.snd.snd.snd.fst.fst.fst ∧ o.snd.snd.snd.snd.snd.snd.fst.fst.snd.fst = o.snd.snd.snd.snd.snd.snd.fst.fst.snd.fst ∧ o.snd.snd.snd.snd.snd.snd.fst.fst.snd.snd.fst = 
  o.snd.snd.snd.snd.snd.snd.fst.fst.snd.snd.fst ∧ o.snd.snd.snd.snd.snd.snd.fst.fst.snd.snd.snd.fst = o.snd.snd.snd.snd.snd.snd.fst.fst.snd.snd.snd.fst ∧ o.snd.snd.snd.snd.snd.snd.fst.fst.snd.snd.snd.snd.fst = 
  o.snd.snd.snd.snd.snd.snd.fst.fst.snd.snd.snd.snd.fst ∧ o.snd.snd.snd.snd.snd.snd.fst.fst.snd.snd.snd.snd.snd.fst = o.snd.snd.snd.snd.snd.snd.fst.fst.snd.snd.snd.snd.snd.fst ∧ 
  o.snd.snd.snd.snd.snd.snd.fst.fst.snd.snd.snd.snd.snd.snd.fst = o.snd.snd.snd.snd.snd.snd.fst.fst.snd.snd.snd.snd.snd.snd.fst ∧ o.snd.snd.snd.snd.snd.snd.fst.fst.snd.snd.snd.snd.snd.snd.snd.fst = 
  o.snd.snd.snd.snd.snd.snd.fst.fst.snd.snd.snd.snd.snd.snd.snd.fst ∧ o.snd.snd.snd.snd.snd.snd.fst.fst.snd.snd.snd.snd.snd.snd.snd.snd.fst = o.snd.snd.snd.snd.snd.snd.fst.fst.snd.snd.snd.snd.snd.snd.snd.snd.fst ∧ 
  o.snd.snd.snd.snd.snd.snd.fst.fst.snd.snd.snd.snd.snd.snd.snd.snd.snd.fst = o.snd.snd.snd.snd.snd.snd.fst.fst.snd.snd.snd.snd.snd.snd.snd.snd.snd.fst ∧ 
  o.snd.snd.snd.snd.snd.snd.fst.fst.snd.snd.snd.snd.snd.snd.snd.snd.snd.snd.fst = o.snd.snd.snd.snd.snd.snd.fst.fst.snd.snd.snd.snd.snd.snd.snd.snd.snd.snd.fst ∧ 
  o.snd.snd.snd.snd.snd.snd.fst.fst.snd.snd.snd.snd.snd.snd.snd.snd.snd.snd.snd.fst = o.snd.snd.snd.snd.snd.snd.fst.fst.snd.snd.snd.snd.snd.snd.snd.snd.snd.snd.snd.fst ∧ 
  o.snd.snd.snd.snd.snd.snd.fst.fst.snd.snd.snd.snd.snd.snd.snd.snd.snd.snd.snd.snd.fst = o.snd.snd.snd.snd.snd.snd.fst.fst.snd.snd.snd.snd.snd.snd.snd.snd.snd.snd.snd.snd.fst ∧ 
  o.snd.snd.snd.snd.snd.snd.fst.fst.snd.snd.snd.snd.snd.snd.snd.snd.snd.snd.snd.snd.snd.fst = o.snd.snd.snd.snd.snd.snd.fst.fst.snd.snd.snd.snd.snd.snd.snd.snd.snd.snd.snd.snd.snd.fst ∧ 
  o.snd.snd.snd.snd.snd.snd.fst.fst.snd.snd.snd.snd.snd.snd.snd.snd.snd.snd.snd.snd.snd.snd.fst = o.snd.snd.snd.snd.snd.snd.fst.fst.snd.snd.snd.snd.snd.snd.snd.snd.snd.snd.snd.snd.snd.snd.fst ∧ 
  o.snd.snd.snd.snd.snd.snd.fst.fst.snd.snd.snd.snd.snd.snd.snd.snd.snd.snd.snd.snd.snd.snd.snd = o.snd.snd.snd.snd.snd.snd.fst.fst.snd.snd.snd.snd.snd.snd.snd.snd.snd.snd.snd.snd.snd.snd.snd ∧ 
  o.snd.snd.snd.snd.snd.snd.fst.snd = o.snd.snd.snd.snd.snd.snd.fst.snd ∧ o.snd.snd.snd.snd.snd.snd.snd.fst = o.snd.snd.snd.snd.snd.snd.snd.fst ∧ o.snd.snd.snd.snd.snd.snd.snd.snd.fst = 
  o.snd.snd.snd.snd.snd.snd.snd.snd.fst ∧ o.snd.snd.snd.snd.snd.snd.snd.snd.snd.fst = o.snd.snd.snd.snd.snd.snd.snd.snd.snd.fst ∧ o.snd.snd.snd.snd.snd.snd.snd.snd.snd.snd.fst = 
  o.snd.snd.snd.snd.snd.snd.snd.snd.snd.snd.fst ∧ o.snd.snd.snd.snd.snd.snd.snd.snd.snd.snd.snd.fst = o.snd.snd.snd.snd.snd.snd.snd.snd.snd.snd.snd.fst ∧ o.snd.snd.snd.snd.snd.snd.snd.snd.snd.snd.snd.snd.fst = 
  o.snd.snd.snd.snd.snd.snd.snd.snd.snd.snd.snd.snd.fst ∧ o.snd.snd.snd.snd.snd.snd.snd.snd.snd.snd.snd.snd.snd = o.snd.snd.snd.snd.snd.snd.snd.snd.snd.snd.snd.snd.snd ∧ True) ∧ (false = false ∧ True) ∧ 
  (o.fst.snd.snd.snd.snd.snd.fst = o.fst.snd.snd.snd.snd.snd.fst ∧ o.fst.snd.snd.snd.snd.snd.snd = o.fst.snd.snd.snd.snd.snd.snd ∧ True) ∧ (l.fst = l.fst ∧ l.snd = l.snd ∧ True) ∧ True ∧ ((True ∧ True ∧ True) ∧ True ∧ 
  True ∧ True ∧ (l.fst = l.fst ∧ l.snd = l.snd ∧ True) ∧ (o.fst.fst = o.fst.fst ∧ o.fst.snd.fst = o.fst.snd.fst ∧ o.fst.snd.snd.fst = o.fst.snd.snd.fst ∧ o.fst.snd.snd.snd.fst = o.fst.snd.snd.snd.fst ∧ 
  o.fst.snd.snd.snd.snd.fst = o.fst.snd.snd.snd.snd.fst ∧ o.fst.snd.snd.snd.snd.snd.fst = o.fst.snd.snd.snd.snd.snd.fst ∧ o.fst.snd.snd.snd.snd.snd.snd = o.fst.snd.snd.snd.snd.snd.snd ∧ o.snd.fst = o.snd.fst ∧ 
  o.snd.snd.fst = o.snd.snd.fst ∧ o.snd.snd.snd.fst = o.snd.snd.snd.fst ∧ o.snd.snd.snd.snd.fst.fst = o.snd.snd.snd.snd.fst.fst ∧ o.snd.snd.snd.snd.fst.snd = o.snd.snd.snd.snd.fst.snd ∧ o.snd.snd.snd.snd.snd.fst.fst = 
  o.snd.snd.snd.snd.snd.fst.fst ∧ o.snd.snd.snd.snd.snd.fst.snd = o.snd.snd.snd.snd.snd.fst.snd ∧ o.snd.snd.snd.snd.snd.snd.fst.fst.fst = o.snd.snd.snd.snd.snd.snd.fst.fst.fst ∧ o.snd.snd.snd.snd.snd.snd.fst.fst.snd.fst 
  = o.snd.snd.snd.snd.snd.snd.fst.fst.snd.fst ∧ o.snd.snd.snd.snd.snd.snd.fst.fst.snd.snd.fst = o.snd.snd.snd.snd.snd.snd.fst.fst.snd.snd.fst ∧ o.snd.snd.snd.snd.snd.snd.fst.fst.snd.snd.snd.fst = 
  o.snd.snd.snd.snd.snd.snd.fst.fst.snd.snd.snd.fst ∧ o.snd.snd.snd.snd.snd.snd.fst.fst.snd.snd.snd.snd.fst = o.snd.snd.snd.snd.snd.snd.fst.fst.snd.snd.snd.snd.fst ∧ 
  o.snd.snd.snd.snd.snd.snd.fst.fst.snd.snd.snd.snd.snd.fst = o.snd.snd.snd.snd.snd.snd.fst.fst.snd.snd.snd.snd.snd.fst ∧ o.snd.snd.snd.snd.snd.snd.fst.fst.snd.snd.snd.snd.snd.snd.fst = 
  o.snd.snd.snd.snd.snd.snd.fst.fst.snd.snd.snd.snd.snd.snd.fst ∧ o.snd.snd.snd.snd.snd.snd.fst.fst.snd.snd.snd.snd.snd.snd.snd.fst = o.snd.snd.snd.snd.snd.snd.fst.fst.snd.snd.snd.snd.snd.snd.snd.fst ∧ 
  o.snd.snd.snd.snd.snd.snd.fst.fst.snd.snd.snd.snd.snd.snd.snd.snd.fst = o.snd.snd.snd.snd.snd.snd.fst.fst.snd.snd.snd.snd.snd.snd.snd.snd.fst ∧ o.snd.snd.snd.snd.snd.snd.fst.fst.snd.snd.snd.snd.snd.snd.snd.snd.snd.fst 
  = o.snd.snd.snd.snd.snd.snd.fst.fst.snd.snd.snd.snd.snd.snd.snd.snd.snd.fst ∧ o.snd.snd.snd.snd.snd.snd.fst.fst.snd.snd.snd.snd.snd.snd.snd.snd.snd.snd.fst = 
  o.snd.snd.snd.snd.snd.snd.fst.fst.snd.snd.snd.snd.snd.snd.snd.snd.snd.snd.fst ∧ o.snd.snd.snd.snd.snd.snd.fst.fst.snd.snd.snd.snd.snd.snd.snd.snd.snd.snd.snd.fst = 
  o.snd.snd.snd.snd.snd.snd.fst.fst.snd.snd.snd.snd.snd.snd.snd.snd.snd.snd.snd.fst ∧ o.snd.snd.snd.snd.snd.snd.fst.fst.snd.snd.snd.snd.snd.snd.snd.snd.snd.snd.snd.snd.fst = 
  o.snd.snd.snd.snd.snd.snd.fst.fst.snd.snd.snd.snd.snd.snd.snd.snd.snd.snd.snd.snd.fst ∧ o.snd.snd.snd.snd.snd.snd.fst.fst.snd.snd.snd.snd.snd.snd.snd.snd.snd.snd.snd.snd.snd.fst = 
  o.snd.snd.snd.snd.snd.snd.fst.fst.snd.snd.snd.snd.snd.snd.snd.snd.snd.snd.snd.snd.snd.fst ∧ o.snd.snd.snd.snd.snd.snd.fst.fst.snd.snd.snd.snd.snd.snd.snd.snd.snd.snd.snd.snd.snd.snd.fst = 
  o.snd.snd.snd.snd.snd.snd.fst.fst.snd.snd.snd.snd.snd.snd.snd.snd.snd.snd.snd.snd.snd.snd.fst ∧ o.snd.snd.snd.snd.snd.snd.fst.fst.snd.snd.snd.snd.snd.snd.snd.snd.snd.snd.snd.snd.snd.snd.snd = 
  o.snd.snd.snd.snd.snd.snd.fst.fst.snd.snd.snd.snd.snd.snd.snd.snd.snd.snd.snd.snd.snd.snd.snd ∧ o.snd.snd.snd.snd.snd.snd.fst.snd = o.snd.snd.snd.snd.snd.snd.fst.snd ∧ o.snd.snd.snd.snd.snd.snd.snd.fst = 
  o.snd.snd.snd.snd.snd.snd.snd.fst ∧ o.snd.snd.snd.snd.snd.snd.snd.snd.fst = o.snd.snd.snd.snd.snd.snd.snd.snd.fst ∧ o.snd.snd.snd.snd.snd.snd.snd.snd.snd.fst = o.snd.snd.snd.snd.snd.snd.snd.snd.snd.fst ∧ 
  o.snd.snd.snd.snd.snd.snd.snd.snd.snd.snd.fst = o.snd.snd.snd.snd.snd.snd.snd.snd.snd.snd.fst ∧ o.snd.snd.snd.snd.snd.snd.snd.snd.snd.snd.snd.fst = o.snd.snd.snd.snd.snd.snd.snd.snd.snd.snd.snd.fst ∧ 
  o.snd.snd.snd.snd.snd.snd.snd.snd.snd.snd.snd.snd.fst = o.snd.snd.snd.snd.snd.snd.snd.snd.snd.snd.snd.snd.fst ∧ o.snd.snd.snd.snd.snd.snd.snd.snd.snd.snd.snd.snd.snd = 
  o.snd.snd.snd.snd.snd.snd.snd.snd.snd.snd.snd.snd.snd ∧ True) ∧ True) ∧ (o.fst.snd.snd.snd.snd.snd.fst = o.fst.snd.snd.snd.snd.snd.fst ∧ o.fst.snd.snd.snd.snd.snd.snd = o.fst.snd.snd.snd.snd.snd.snd ∧ True) ∧ (l.fst = 
  l.fst ∧ l.snd = l.snd ∧ True) ∧ True)) ∧ (decide ((↑x : Int) < (↑l.snd.length : Int)) = false → (decide (IntKind.i64.wrap (IntKind.i64.wrap ((0 : Int) + (1 : Int)) + (1 : Int)) < (2 : Int)) = true → ((0 : Int) ≤ 
  IntKind.i64.wrap (IntKind.i64.wrap ((0 : Int) + (1 : Int)) + (1 : Int)) ∧ IntKind.i64.wrap (IntKind.i64.wrap ((0 : Int) + (1 : Int)) + (1 : Int)) < (↑(2 : Nat) : Int)) ∧ False) ∧ (decide (IntKind.i64.wrap 
  (IntKind.i64.wrap ((0 : Int) + (1 : Int)) + (1 : Int)) < (2 : Int)) = false → ∃ (v : Bool), (((o.fst.snd.snd.snd.snd.snd.fst == (0 : Int)) = true → decide (l.fst < (4 : Int)) = v) ∧ ((o.fst.snd.snd.snd.snd.snd.fst == 
  (0 : Int)) = !true → false = v)) ∧ (v = true → ((o.fst.snd.fst == (4 : Int)) = false → (o.fst.snd.fst == (5 : Int)) = ownV l o ∧ True) ∧ ((o.fst.snd.fst == (4 : Int)) = !false → true = ownV l o ∧ True)) ∧ (v = false → 
  false = ownV l o ∧ True))))) ∧ (decide (IntKind.i64.wrap ((0 : Int) + (1 : Int)) < (2 : Int)) = false → ∃ (v : Bool), (((o.fst.snd.snd.snd.snd.snd.fst == (0 : Int)) = true → decide (l.fst < (4 : Int)) = v) ∧ 
  ((o.fst.snd.snd.snd.snd.snd.fst == (0 : Int)) = !true → false = v)) ∧ (v = true → ((o.fst.snd.fst == (4 : Int)) = false → (o.fst.snd.fst == (5 : Int)) = ownV l o ∧ True) ∧ ((o.fst.snd.fst == (4 : Int)) = !false → true 
  = ownV l o ∧ True)) ∧ (v = false → false = ownV l o ∧ True))))) ∧ (decide ((0 : Int) < (2 : Int)) = false → ∃ (v : Bool), (((o.fst.snd.snd.snd.snd.snd.fst == (0 : Int)) = true → decide (l.fst < (4 : Int)) = v) ∧ 
  ((o.fst.snd.snd.snd.snd.snd.fst == (0 : Int)) = !true → false = v)) ∧ (v = true → ((o.fst.snd.fst == (4 : Int)) = false → (o.fst.snd.fst == (5 : Int)) = ownV l o ∧ True) ∧ ((o.fst.snd.fst == (4 : Int)) = !false → true 
  = ownV l o ∧ True)) ∧ (v = false → false = ownV l o ∧ True))) := by kernel_rfl
end Go.Proofs.Ytlnclaggmjhbfaa
namespace Go.Proofs.Ytlnclaggmjhbfaa
open Go.Proofs.Ytlnclaggmjhbfaa.Gx
set_option maxRecDepth 100000
set_option maxHeartbeats 2000000
set_option linter.unusedSimpArgs false
set_option linter.unusedVariables false
theorem prs_step {a b : Lab} {p : Int × Int → Bool} {l : List (Int × Int)} {i : Nat} {y : Int × Int} (h : l[i]? = some y) : (prs a b (l.drop i)).all p = (p (atL a y.1, atL b y.1) && (prs a b (l.drop (i + 1))).all p) := by
  obtain ⟨h1, rfl⟩ := List.getElem?_eq_some_iff.1 h
  rw [List.drop_eq_getElem_cons h1]
  rfl
theorem prs_end {a b : Lab} {p : Int × Int → Bool} {l : List (Int × Int)} {i : Nat} (h : i = l.length) : (prs a b (l.drop i)).all p = true := by
  subst h; simp [prs]
theorem wr1 : IntKind.i64.wrap ((0 : Int) + (1 : Int)) = 1 := by decide
theorem wr2 : IntKind.i64.wrap ((1 : Int) + (1 : Int)) = 2 := by decide
theorem pickOk (x y : Int) : (decide (x > y) = false → ((x == 0) = true → decide (y < 4) = !okP (x, y)) ∧ ((x == 0) = !true → false = !okP (x, y))) ∧ (decide (x > y) = !false → true = !okP (x, y)) := by
  unfold okP
  simp only
  refine ⟨fun h => ⟨fun h2 => ?_, fun h2 => ?_⟩, fun h => ?_⟩
  · rw [h, h2]; simp
  · rw [h, h2]; simp
  · rw [h]; simp
theorem low_ok : PSpecOk PP 12 (Q [lab, objT] [.bool] (fun _ => true) (fun x => (lowV x.1 (olab x.2.1), ()))) := by
  refine pspec_Q mixed (fn := Try.f12) (c := c12) rfl rfl _ _ rfl ?_
  rintro ⟨l, o, ⟨⟩⟩ - -
  refine ⟨eLow (olab o) l okP, env_ok .., rfl, hold (low_vc l o) ?_⟩
  simp only [true_and, and_true, Prod.eta, eq_self_iff_true, wr1, wr2, decide_true, decide_false]
  generalize hol : o.fst.snd.snd.snd.snd.snd = ol
  have hV : lowV l (olab o) = ((prs ol l ol.2).all okP && ((prs ol l l.2).all okP && okP (ol.1, l.1))) := by rw [← hol]; rfl
  have hO : olab o = ol := hol
  rw [hV, hO]
  refine ⟨fun _ => ⟨⟨by omega, by decide⟩, fun hA => ⟨0, ⟨Nat.zero_le _, rfl⟩, rfl, ?_⟩⟩, fun h => by simp at h⟩
  rintro i ⟨hi, hinv⟩
  refine ⟨fun hlt => ⟨⟨by omega, by simpa using hlt⟩, fun y hy => ⟨!okP (atL ol y.1, atL l y.1), pickOk .., fun hv => ?_, fun hv => ?_⟩⟩, fun hge => ⟨fun _ => ⟨⟨by omega, by decide⟩, fun hB => ⟨0, ⟨Nat.zero_le _, rfl⟩, rfl, ?_⟩⟩, fun h => by simp at h⟩⟩
  · rw [prs_step (by simpa using hy)] at hinv
    rw [← hinv]
    simp at hv; simp [hv]
  · have hy' : ol.2[i]? = some y := by simpa using hy
    rw [prs_step hy'] at hinv
    have hl : i < ol.2.length := (List.getElem?_eq_some_iff.1 hy').1
    refine ⟨i + 1, ⟨by omega, ?_⟩, by omega, wrap_succ hl hA⟩
    rw [← hinv]; simp at hv; simp [hv]
  · have hie : i = ol.2.length := by simp at hge; omega
    rw [prs_end hie] at hinv
    rw [← hinv]
    rintro j ⟨hj, hjnv⟩
    refine ⟨fun hlt => ⟨⟨by omega, by simpa using hlt⟩, fun y hy => ⟨!okP (atL ol y.1, atL l y.1), pickOk .., fun hv => ?_, fun hv => ?_⟩⟩, fun hge => ⟨fun h => by simp at h, fun _ => ⟨!okP (ol.1, l.1), pickOk .., fun hv => ?_, fun hv => ?_⟩⟩⟩
    · rw [prs_step (by simpa using hy)] at hjnv
      rw [← hjnv]
      simp at hv; simp [hv]
    · have hy' : l.2[j]? = some y := by simpa using hy
      rw [prs_step hy'] at hjnv
      have hl : j < l.2.length := (List.getElem?_eq_some_iff.1 hy').1
      refine ⟨j + 1, ⟨by omega, ?_⟩, by omega, wrap_succ hl hB⟩
      rw [← hjnv]; simp at hv; simp [hv]
    · simp at hv; simp [hv]
    · have hje : j = l.2.length := by simp at hge; omega
      rw [prs_end hje] at hjnv
      rw [← hjnv]; simp at hv; simp [hv]
theorem all_any (l : List (Int × Int)) : (l.all fun x => !badP x) = !l.any badP := by
  induction l with
  | nil => rfl
  | cons x l ih => simp only [List.all_cons, List.any_cons, ih]; cases badP x <;> simp
theorem notB : ∀ b : Bool, true = (!b) → b = false := by decide
theorem pickBad (x y : Int) : ((x == 0) = true → decide (y < 4) = badP (x, y)) ∧ ((x == 0) = !true → false = badP (x, y)) := by
  unfold badP
  exact ⟨fun h => by rw [h]; simp, fun h => by rw [h]; simp⟩
theorem own_ok : PSpecOk PP 17 (Q [lab, objT] [.bool] (fun _ => true) (fun x => (ownV x.1 x.2.1, ()))) := by
  refine pspec_Q mixed (fn := Try.f17) (c := c17) rfl rfl _ _ rfl ?_
  rintro ⟨l, o, ⟨⟩⟩ - -
  refine ⟨eLow (olab o) l (fun x => !badP x), env_ok .., rfl, hold (own_vc l o) ?_⟩
  simp only [true_and, and_true, Prod.eta, eq_self_iff_true, wr1, wr2, decide_true, decide_false]
  generalize hol : o.fst.snd.snd.snd.snd.snd = ol
  have hV : ownV l o = (((prs ol l ol.2).any badP || ((prs ol l l.2).any badP || badP (ol.1, l.1))) && (okind o == 4 || okind o == 5)) := by rw [← hol]; rfl
  have hO : olab o = ol := hol
  rw [hV, hO]
  have hk : ∀ X : Bool, X = true → ((o.fst.snd.fst == 4) = false → (o.fst.snd.fst == 5) = (X && (okind o == 4 || okind o == 5))) ∧ ((o.fst.snd.fst == 4) = !false → true = (X && (okind o == 4 || okind o == 5))) := by
    intro X hX
    show (((okind o : Int) == 4) = false → ((okind o : Int) == 5) = _) ∧ (((okind o : Int) == 4) = !false → true = _)
    subst hX
    refine ⟨fun h => ?_, fun h => ?_⟩
    · rw [h]; rfl
    · rw [h]; rfl
  have all_any := all_any
  refine ⟨fun _ => ⟨⟨by omega, by decide⟩, fun hA => ⟨0, ⟨Nat.zero_le _, rfl⟩, rfl, ?_⟩⟩, fun h => by simp at h⟩
  rintro i ⟨hi, hinv⟩
  refine ⟨fun hlt => ⟨⟨by omega, by simpa using hlt⟩, fun y hy => ⟨badP (atL ol y.1, atL l y.1), pickBad .., fun hv => ?_, fun hv => ?_⟩⟩, fun hge => ⟨fun _ => ⟨⟨by omega, by decide⟩, fun hB => ⟨0, ⟨Nat.zero_le _, rfl⟩, rfl, ?_⟩⟩, fun h => by simp at h⟩⟩
  · rw [prs_step (by simpa using hy), all_any (prs ol l ol.2), hv] at hinv
    refine hk _ ?_
    simp at hinv; simp [hinv]
  · have hy' : ol.2[i]? = some y := by simpa using hy
    rw [prs_step hy'] at hinv
    have hl : i < ol.2.length := (List.getElem?_eq_some_iff.1 hy').1
    refine ⟨i + 1, ⟨by omega, ?_⟩, by omega, wrap_succ hl hA⟩
    rw [← hinv, hv]; rfl
  · have hie : i = ol.2.length := by simp at hge; omega
    rw [prs_end hie, all_any] at hinv
    have hinv := notB _ hinv
    rw [hinv]
    rintro j ⟨hj, hjnv⟩
    refine ⟨fun hlt => ⟨⟨by omega, by simpa using hlt⟩, fun y hy => ⟨badP (atL ol y.1, atL l y.1), pickBad .., fun hv => ?_, fun hv => ?_⟩⟩, fun hge => ⟨fun h => by simp at h, fun _ => ⟨badP (ol.1, l.1), pickBad .., fun hv => ?_, fun hv => ?_⟩⟩⟩
    · rw [prs_step (by simpa using hy), all_any (prs ol l l.2), hv] at hjnv
      refine hk _ ?_
      simp at hjnv; simp [hjnv]
    · have hy' : l.2[j]? = some y := by simpa using hy
      rw [prs_step hy'] at hjnv
      have hl : j < l.2.length := (List.getElem?_eq_some_iff.1 hy').1
      refine ⟨j + 1, ⟨by omega, ?_⟩, by omega, wrap_succ hl hB⟩
      rw [← hjnv, hv]; rfl
    · refine hk _ ?_
      simp [hv]
    · have hje : j = l.2.length := by simp at hge; omega
      rw [prs_end hje, all_any] at hjnv
      have hjnv := notB _ hjnv
      rw [hjnv, hv]; rfl
noncomputable def p17 : Pv PP := ⟨17, _, ⟨rfl, own_ok⟩⟩
noncomputable def p12 : Pv PP := ⟨12, _, ⟨rfl, low_ok⟩⟩
end Go.Proofs.Ytlnclaggmjhbfaa
namespace Go.Proofs.Ytlnclaggmjhbfaa
open Go.Proofs.Ytlnclaggmjhbfaa.Gx
set_option linter.unusedSimpArgs false
set_option linter.unusedVariables false
def first (d : List Obj) (id : Int) : Option Obj := d.find? (fun o => oid o == id)
def okO (l : Lab) (o : Obj) : Bool := plainL (olab o) && lowV l (olab o)
inductive Vis (d : List Obj) (root : Int) (l : Lab) : Int → Prop
  | root (o : Obj) : first d root = some o → okO l o = true → Vis d root l root
  | step (id : Int) (o : Obj) (x : Int) (o' : Obj) : Vis d root l id → first d id = some o → okind o = 1 → x ∈ olist o → first d x = some o' → okO l o' = true → Vis d root l x
def allM : List Obj → List (Int × Obj)
  | [] => []
  | o :: d => insL (allM d) (oid o) o
structure FindPost (d : List Obj) (root : Int) (l : Lab) (y : List (Int × Obj)) : Prop where
  no : freeL l = false → y = []
  yes : freeL l = true → ∀ id, id ∈ y.map (·.1) ↔ Vis d root l id
  vals : ∀ p ∈ y, first d p.1 = some p.2
  nodup : (y.map (·.1)).Nodup
/-- What is left to be found. -/
def weight (out : List (Int × Obj)) : List (Int × Obj) → Nat
  | [] => 0
  | p :: es => (if p.1 ∈ out.map (·.1) then 0 else (olist p.2).length + 1) + weight out es
structure FindInv (d : List Obj) (root : Int) (l : Lab) (ahead : List Int) (out : List (Int × Obj)) : Prop where
  nodup : (out.map (·.1)).Nodup
  vals : ∀ p ∈ out, first d p.1 = some p.2 ∧ Vis d root l p.1
  reach : ∀ x ∈ ahead, ∀ o, first d x = some o → okO l o = true → Vis d root l x
  root : root ∈ ahead ∨ root ∈ out.map (·.1) ∨ ∀ o, first d root = some o → okO l o = false
  closed : ∀ p ∈ out, okind p.2 = 1 → ∀ x ∈ olist p.2, x ∈ ahead ∨ x ∈ out.map (·.1) ∨ ∀ o, first d x = some o → okO l o = false
  len : ahead.length + weight out (allM d) ≤ weight [] (allM d) + 1
def smallD (d : List Obj) : Bool := decide (d.length ≤ 1000) && d.all fun o => decide ((olist o).length ≤ 1000) && decide ((olab o).2.length ≤ 1000)
end Go.Proofs.Ytlnclaggmjhbfaa
namespace Go.Proofs.Ytlnclaggmjhbfaa
open Go.Proofs.Ytlnclaggmjhbfaa.Gx
set_option maxRecDepth 100000
set_option linter.unusedVariables false
set_option maxHeartbeats 0
def bkLoop (d : List Obj) (r : Nat) : List (Nat × (St → Option LoopSpec)) :=
  [(1, fun _ => some { α := Nat, inv := fun k => k ≤ d.length ∧ True, ov := fun k => [(3, .int .i64 ((k : Int) - 1))], rov := fun k => [(r, .mapr .i64 true objT (allM (d.drop k)) none)], meas := fun k => k })]
noncomputable def s49 : Sv PP := ⟨49, inl PP e0 Try.f49 c49, ⟨rfl, inl_ok (env_ok ..) rfl mixed rfl rfl⟩⟩
noncomputable def i64b (d : List Obj) : Iv PP := ⟨64, inlY PP (env PP [] [] [] [] (bkLoop d 2)) Try.f64 c64, ⟨rfl, inlY_ok (env_ok ..) mixed rfl rfl⟩⟩
def findLoop (d : List Obj) (root : Int) (l : Lab) : List (Nat × (St → Option LoopSpec)) :=
  [(9, fun (S : St) => match getT S.fr.tm 11 with
      | .row r => some { α := List Int × List (Int × Obj), inv := fun x => FindInv d root l x.1 x.2, ov := fun _ => [(11, .row r)], rov := fun x => [(r, .row 0 i64 x.1), (1, .mapr .i64 true objT x.2 none)], meas := fun x => x.1.length + weight x.2 (allM d), ct := [11] }
      | _ => none)]
noncomputable def eFind (d : List Obj) (root : Int) (l : Lab) : Env := env PP [p48, p50, p12] [s49] [i64b d] [] (findLoop d root l)
def findH : HC where
  α := List Obj × Int × Lab
  m := 0
  ss := fun x => ofArgs [.slice objT, i64, lab] (x.1, x.2.1, x.2.2, ())
  Rs := fun _ => []
  pre := fun x => smallD x.1 = true
  alts := [{ β := List (Int × Obj), post := fun x y => FindPost x.1 x.2.1 x.2.2 y, r := fun _ _ => .mp 1, res := fun _ y => [.gone, .mapr .i64 true objT y none], kp := [] }]
theorem find_vc (d : List Obj) (root : Int) (l : Lab) : fvc PP (eFind d root l) Try.f29 c29 (findH.ss (d, root, l)) (St1 []) (fun r S => altsOk 0 (d, root, l) r S findH.alts) = (
  true = true ∧ ((!freeL (l.fst, l.snd)) = true → ∃ (y : List (Int × Obj)), FindPost (d, root, l).fst (d, root, l).snd.fst (d, root, l).snd.snd y ∧ True ∧ (True ∧ ([] = y ∧ True) ∧ True) ∧ True ∧ True) ∧ ((!freeL (l.fst, 
  l.snd)) = false → d.length ≤ maxLen → ∃ (x0 : Nat), (x0 ≤ d.length ∧ True) ∧ ((((True ∧ True) ∧ True ∧ false = false ∧ True ∧ SV.val (Value.map none) = SV.val (Value.map none) ∧ True ∧ d = d ∧ root = root ∧ (l.fst = 
  l.fst ∧ l.snd = l.snd ∧ True) ∧ True) ∧ True ∧ True) ∧ (IntKind.i64.wrap ((↑d.length : Int) - (1 : Int)) = (↑x0 : Int) - (1 : Int) ∧ True ∧ True ∧ True) ∧ (l.fst = l.fst ∧ l.snd = l.snd ∧ True) ∧ (([] : List (Int × 
  Obj)) = [] ∧ True) ∧ ([] = allM (List.drop x0 d) ∧ True) ∧ (True ∧ True) ∧ (d = d ∧ True) ∧ True ∧ ((True ∧ True) ∧ True ∧ false = false ∧ True ∧ SV.val (Value.map none) = SV.val (Value.map none) ∧ True ∧ d = d ∧ root 
  = root ∧ (l.fst = l.fst ∧ l.snd = l.snd ∧ True) ∧ True) ∧ True) ∧ ∀ (x : Nat), x ≤ d.length ∧ True → (decide ((↑x : Int) - (1 : Int) ≥ (0 : Int)) = true → ((0 : Int) ≤ (↑x : Int) - (1 : Int) ∧ (↑x : Int) - (1 : Int) < 
  (↑d.length : Int)) ∧ ∀ (y : (Int × Int × Int × Int × Int × Int × List (Int × Int)) × List Int × ByteArray × List (Int × Int × Int × Int × Int × Bool × Bool) × (Int × List (Int × Int)) × (Int × Int) × ((Int × Int × Int 
  × Int × Int × Int × Int × Int × Int × Int × Int × Int × Int × Int × Int × Int) × Int) × Int × Int × Int × Int × List Int × ByteArray × ByteArray), d[((↑x : Int) - (1 : Int)).toNat]? = some y → ∃ (x' : Nat), (x' ≤ 
  d.length ∧ True) ∧ x' < x ∧ (((True ∧ True) ∧ True ∧ false = false ∧ True ∧ SV.val (Value.map none) = SV.val (Value.map none) ∧ True ∧ d = d ∧ root = root ∧ (l.fst = l.fst ∧ l.snd = l.snd ∧ True) ∧ True) ∧ True ∧ True) 
  ∧ (IntKind.i64.wrap ((↑x : Int) - (1 : Int) - (1 : Int)) = (↑x' : Int) - (1 : Int) ∧ True ∧ True ∧ True) ∧ (l.fst = l.fst ∧ l.snd = l.snd ∧ True) ∧ (([] : List (Int × Obj)) = [] ∧ True) ∧ (insL (allM (List.drop x d)) 
  y.fst.fst ((y.fst.fst, y.fst.snd.fst, y.fst.snd.snd.fst, y.fst.snd.snd.snd.fst, y.fst.snd.snd.snd.snd.fst, y.fst.snd.snd.snd.snd.snd.fst, y.fst.snd.snd.snd.snd.snd.snd), y.snd.fst, y.snd.snd.fst, y.snd.snd.snd.fst, 
  (y.snd.snd.snd.snd.fst.fst, y.snd.snd.snd.snd.fst.snd), (y.snd.snd.snd.snd.snd.fst.fst, y.snd.snd.snd.snd.snd.fst.snd), ((y.snd.snd.snd.snd.snd.snd.fst.fst.fst, y.snd.snd.snd.snd.snd.snd.fst.fst.snd.fst, 
  y.snd.snd.snd.snd.snd.snd.fst.fst.snd.snd.fst, y.snd.snd.snd.snd.snd.snd.fst.fst.snd.snd.snd.fst, y.snd.snd.snd.snd.snd.snd.fst.fst.snd.snd.snd.snd.fst, y.snd.snd.snd.snd.snd.snd.fst.fst.snd.snd.snd.snd.snd.fst, 
  y.snd.snd.snd.snd.snd.snd.fst.fst.snd.snd.snd.snd.snd.snd.fst, y.snd.snd.snd.snd.snd.snd.fst.fst.snd.snd.snd.snd.snd.snd.snd.fst, y.snd.snd.snd.snd.snd.snd.fst.fst.snd.snd.snd.snd.snd.snd.snd.snd.fst, 
  y.snd.snd.snd.snd.snd.snd.fst.fst.snd.snd.snd.snd.snd.snd.snd.snd.snd.fst, y.snd.snd.snd.snd.snd.snd.fst.fst.snd.snd.snd.snd.snd.snd.snd.snd.snd.snd.fst, 
  y.snd.snd.snd.snd.snd.snd.fst.fst.snd.snd.snd.snd.snd.snd.snd.snd.snd.snd.snd.fst, y.snd.snd.snd.snd.snd.snd.fst.fst.snd.snd.snd.snd.snd.snd.snd.snd.snd.snd.snd.snd.fst, 
  y.snd.snd.snd.snd.snd.snd.fst.fst.snd.snd.snd.snd.snd.snd.snd.snd.snd.snd.snd.snd.snd.fst, y.snd.snd.snd.snd.snd.snd.fst.fst.snd.snd.snd.snd.snd.snd.snd.snd.snd.snd.snd.snd.snd.snd.fst, 
  y.snd.snd.snd.snd.snd.snd.fst.fst.snd.snd.snd.snd.snd.snd.snd.snd.snd.snd.snd.snd.snd.snd.snd), y.snd.snd.snd.snd.snd.snd.fst.snd), y.snd.snd.snd.snd.snd.snd.snd.fst, y.snd.snd.snd.snd.snd.snd.snd.snd.fst, 
  y.snd.snd.snd.snd.snd.snd.snd.snd.snd.fst, y.snd.snd.snd.snd.snd.snd.snd.snd.snd.snd.fst, y.snd.snd.snd.snd.snd.snd.snd.snd.snd.snd.snd.fst, y.snd.snd.snd.snd.snd.snd.snd.snd.snd.snd.snd.snd.fst, 
  y.snd.snd.snd.snd.snd.snd.snd.snd.snd.snd.snd.snd.snd) = allM (List.drop x' d) ∧ True) ∧ (True ∧ True) ∧ (d = d ∧ True) ∧ True ∧ ((True ∧ True) ∧ True ∧ false = false ∧ True ∧ SV.val (Value.map none) = SV.val 
  (Value.map none) ∧ True ∧ d = d ∧ root = root ∧ (l.fst = l.fst ∧ l.snd = l.snd ∧ True) ∧ True) ∧ True) ∧ (decide ((↑x : Int) - (1 : Int) ≥ (0 : Int)) = false → ∃ (x0 : List Int × List (Int × Obj)), FindInv d root l 
  x0.fst x0.snd ∧ ((True ∧ True) ∧ (True ∧ (True ∧ True) ∧ True ∧ false = false ∧ True ∧ SV.val (Value.map none) = SV.val (Value.map none) ∧ True ∧ d = d ∧ root = root ∧ (l.fst = l.fst ∧ l.snd = l.snd ∧ True) ∧ True) ∧ 
  (l.fst = l.fst ∧ l.snd = l.snd ∧ True) ∧ ([] = x0.snd ∧ True) ∧ (allM (List.drop x d) = allM (List.drop x d) ∧ True) ∧ (True ∧ True) ∧ (d = d ∧ True) ∧ True ∧ True ∧ [root] = x0.fst ∧ True) ∧ ∀ (x_1 : List Int × List 
  (Int × Obj)), FindInv d root l x_1.fst x_1.snd → x_1.fst.length ≤ maxLen → (decide ((↑x_1.fst.length : Int) > (0 : Int)) = true → x_1.fst.length ≤ maxLen → ((0 : Int) ≤ IntKind.i64.wrap ((↑x_1.fst.length : Int) - (1 : 
  Int)) ∧ IntKind.i64.wrap ((↑x_1.fst.length : Int) - (1 : Int)) < (↑x_1.fst.length : Int)) ∧ (IntKind.i64.wrap ((↑x_1.fst.length : Int) - (1 : Int))).toNat < x_1.fst.length ∧ ∀ (y : Int), x_1.fst[(IntKind.i64.wrap 
  ((↑x_1.fst.length : Int) - (1 : Int))).toNat]? = some y → x_1.fst.length ≤ maxLen → ((0 : Int) ≤ (some (IntKind.i64.wrap ((↑x_1.fst.length : Int) - (1 : Int)))).getD (↑x_1.fst.length : Int) ∧ (some (IntKind.i64.wrap 
  ((↑x_1.fst.length : Int) - (1 : Int)))).getD (↑x_1.fst.length : Int) ≤ (↑x_1.fst.length : Int) ∧ (0 : Int) ≤ none.getD (0 : Int) ∧ none.getD (0 : Int) ≤ (some (IntKind.i64.wrap ((↑x_1.fst.length : Int) - (1 : 
  Int)))).getD (↑x_1.fst.length : Int)) ∧ ((lookL x_1.snd y).isSome = false → ((!(lookL (allM (List.drop x d)) y).isSome) = false → true = true ∧ ((!plainL (((lookL (allM (List.drop x d)) y).getD (((0 : Int), (0 : Int), 
  (0 : Int), (0 : Int), (0 : Int), (0 : Int), []), [], ByteArray.mk #[], [], ((0 : Int), []), ((0 : Int), (0 : Int)), (((0 : Int), (0 : Int), (0 : Int), (0 : Int), (0 : Int), (0 : Int), (0 : Int), (0 : Int), (0 : Int), 
  (0 : Int), (0 : Int), (0 : Int), (0 : Int), (0 : Int), (0 : Int), (0 : Int)), (0 : Int)), (0 : Int), (0 : Int), (0 : Int), (0 : Int), [], ByteArray.mk #[], ByteArray.mk #[])).fst.snd.snd.snd.snd.snd.fst, ((lookL (allM 
  (List.drop x d)) y).getD (((0 : Int), (0 : Int), (0 : Int), (0 : Int), (0 : Int), (0 : Int), []), [], ByteArray.mk #[], [], ((0 : Int), []), ((0 : Int), (0 : Int)), (((0 : Int), (0 : Int), (0 : Int), (0 : Int), (0 : 
  Int), (0 : Int), (0 : Int), (0 : Int), (0 : Int), (0 : Int), (0 : Int), (0 : Int), (0 : Int), (0 : Int), (0 : Int), (0 : Int)), (0 : Int)), (0 : Int), (0 : Int), (0 : Int), (0 : Int), [], ByteArray.mk #[], ByteArray.mk 
  #[])).fst.snd.snd.snd.snd.snd.snd)) = false → true = true ∧ ((!lowV (l.fst, l.snd) (olab ((((lookL (allM (List.drop x d)) y).getD (((0 : Int), (0 : Int), (0 : Int), (0 : Int), (0 : Int), (0 : Int), []), [], 
  ByteArray.mk #[], [], ((0 : Int), []), ((0 : Int), (0 : Int)), (((0 : Int), (0 : Int), (0 : Int), (0 : Int), (0 : Int), (0 : Int), (0 : Int), (0 : Int), (0 : Int), (0 : Int), (0 : Int), (0 : Int), (0 : Int), (0 : Int), 
  (0 : Int), (0 : Int)), (0 : Int)), (0 : Int), (0 : Int), (0 : Int), (0 : Int), [], ByteArray.mk #[], ByteArray.mk #[])).fst.fst, ((lookL (allM (List.drop x d)) y).getD (((0 : Int), (0 : Int), (0 : Int), (0 : Int), (0 : 
  Int), (0 : Int), []), [], ByteArray.mk #[], [], ((0 : Int), []), ((0 : Int), (0 : Int)), (((0 : Int), (0 : Int), (0 : Int), (0 : Int), (0 : Int), (0 : Int), (0 : Int), (0 : Int), (0 : Int), (0 : Int), (0 : Int), (0 : 
  Int), (0 : Int), (0 : Int), (0 : Int), (0 : Int)), (0 : Int)), (0 : Int), (0 : Int), (0 : Int), (0 : Int), [], ByteArray.mk #[], ByteArray.mk #[])).fst.snd.fst, ((lookL (allM (List.drop x d)) y).getD (((0 : Int), (0 : 
  Int), (0 : Int), (0 : Int), (0 : Int), (0 : Int), []), [], ByteArray.mk #[], [], ((0 : Int), []), ((0 : Int), (0 : Int)), (((0 : Int), (0 : Int), (0 : Int), (0 : Int), (0 : Int), (0 : Int), (0 : Int), (0 : Int), (0 : 
  Int), (0 : Int), (0 : Int), (0 : Int), (0 : Int), (0 : Int), (0 : Int), (0 : Int)), (0 : Int)), (0 : Int), (0 : Int), (0 : Int), (0 : Int), [], ByteArray.mk #[], ByteArray.mk #[])).fst.snd.snd.fst, ((lookL (allM 
  (List.drop x d)) y).getD (((0 : Int), (0 : Int), (0 : Int), (0 : Int), (0 : Int), (0 : Int), []), [], ByteArray.mk #[], [], ((0 : Int), []), ((0 : Int), (0 : Int)), (((0 : Int), (0 : Int), (0 : Int), (0 : Int), (0 : 
  Int), (0 : Int), (0 : Int), (0 : Int), (0 : Int), (0 : Int), (0 : Int), (0 : Int), (0 : Int), (0 : Int), (0 : Int), (0 : Int)), (0 : Int)), (0 : Int), (0 : Int), (0 : Int), (0 : Int), [], ByteArray.mk #[], ByteArray.mk 
  #[])).fst.snd.snd.snd.fst, ((lookL (allM (List.drop x d)) y).getD (((0 : Int), (0 : Int), (0 : Int), (0 : Int), (0 : Int), (0 : Int), []), [], ByteArray.mk #[], [], ((0 : Int), []), ((0 : Int), (0 : Int)), (((0 : Int), 
  (0 : Int), (0 : Int), (0 : Int), (0 : Int), (0 : Int), (0 : Int), (0 : Int), (0 : Int), (0 : Int), (0 : Int), (0 : Int), (0 : Int), (0 : Int), (0 : Int), (0 : Int)), (0 : Int)), (0 : Int), (0 : Int), (0 : Int), (0 : 
  Int), [], ByteArray.mk #[], ByteArray.mk #[])).fst.snd.snd.snd.snd.fst, ((lookL (allM (List.drop x d)) y).getD (((0 : Int), (0 : Int), (0 : Int), (0 : Int), (0 : Int), (0 : Int), []), [], ByteArray.mk #[], [], ((0 : 
  Int), []), ((0 : Int), (0 : Int)), (((0 : Int), (0 : Int), (0 : Int), (0 : Int), (0 : Int), (0 : Int), (0 : Int), (0 : Int), (0 : Int), (0 : Int), (0 : Int), (0 : Int), (0 : Int), (0 : Int), (0 : Int), (0 : Int)), (0 : 
  Int)), (0 : Int), (0 : Int), (0 : Int), (0 : Int), [], ByteArray.mk #[], ByteArray.mk #[])).fst.snd.snd.snd.snd.snd.fst, ((lookL (allM (List.drop x d)) y).getD (((0 : Int), (0 : Int), (0 : Int), (0 : Int), (0 : Int), 
  (0 : Int), []), [], ByteArray.mk #[], [], ((0 : Int), []), ((0 : Int), (0 : Int)), (((0 : Int), (0 : Int), (0 : Int), (0 : Int), (0 : Int), (0 : Int), (0 : Int), (0 : Int), (0 : Int), (0 : Int), (0 : Int), (0 : Int), 
  (0 : Int), (0 : Int), (0 : Int), (0 : Int)), (0 : Int)), (0 : Int), (0 : Int), (0 : Int), (0 : Int), [], ByteArray.mk #[], ByteArray.mk #[])).fst.snd.snd.snd.snd.snd.snd), ((lookL (allM (List.drop x d)) y).getD (((0 : 
  Int), (0 : Int), (0 : Int), (0 : Int), (0 : Int), (0 : Int), []), [], ByteArray.mk #[], [], ((0 : Int), []), ((0 : Int), (0 : Int)), (((0 : Int), (0 : Int), (0 : Int), (0 : Int), (0 : Int), (0 : Int), (0 : Int), (0 : 
  Int), (0 : Int), (0 : Int), (0 : Int), (0 : Int), (0 : Int), (0 : Int), (0 : Int), (0 : Int)), (0 : Int)), (0 : Int), (0 : Int), (0 : Int), (0 : Int), [], ByteArray.mk #[], ByteArray.mk #[])).snd.fst, ((lookL (allM 
  (List.drop x d)) y).getD (((0 : Int), (0 : Int), (0 : Int), (0 : Int), (0 : Int), (0 : Int), []), [], ByteArray.mk #[], [], ((0 : Int), []), ((0 : Int), (0 : Int)), (((0 : Int), (0 : Int), (0 : Int), (0 : Int), (0 : 
  Int), (0 : Int), (0 : Int), (0 : Int), (0 : Int), (0 : Int), (0 : Int), (0 : Int), (0 : Int), (0 : Int), (0 : Int), (0 : Int)), (0 : Int)), (0 : Int), (0 : Int), (0 : Int), (0 : Int), [], ByteArray.mk #[], ByteArray.mk 
  #[])).snd.snd.fst, ((lookL (allM (List.drop x d)) y).getD (((0 : Int), (0 : Int), (0 : Int), (0 : Int), (0 : Int), (0 : Int), []), [], ByteArray.mk #[], [], ((0 : Int), []), ((0 : Int), (0 : Int)), (((0 : Int), (0 : 
  Int), (0 : Int), (0 : Int), (0 : Int), (0 : Int), (0 : Int), (0 : Int), (0 : Int), (0 : Int), (0 : Int), (0 : Int), (0 : Int), (0 : Int), (0 : Int), (0 : Int)), (0 : Int)), (0 : Int), (0 : Int), (0 : Int), (0 : Int), 
  [], ByteArray.mk #[], ByteArray.mk #[])).snd.snd.snd.fst, (((lookL (allM (List.drop x d)) y).getD (((0 : Int), (0 : Int), (0 : Int), (0 : Int), (0 : Int), (0 : Int), []), [], ByteArray.mk #[], [], ((0 : Int), []), ((0 
  : Int), (0 : Int)), (((0 : Int), (0 : Int), (0 : Int), (0 : Int), (0 : Int), (0 : Int), (0 : Int), (0 : Int), (0 : Int), (0 : Int), (0 : Int), (0 : Int), (0 : Int), (0 : Int), (0 : Int), (0 : Int)), (0 : Int)), (0 : 
  Int), (0 : Int), (0 : Int), (0 : Int), [], ByteArray.mk #[], ByteArray.mk #[])).snd.snd.snd.snd.fst.fst, ((lookL (allM (List.drop x d)) y).getD (((0 : Int), (0 : Int), (0 : Int), (0 : Int), (0 : Int), (0 : Int), []), 
  [], ByteArray.mk #[], [], ((0 : Int), []), ((0 : Int), (0 : Int)), (((0 : Int), (0 : Int), (0 : Int), (0 : Int), (0 : Int), (0 : Int), (0 : Int), (0 : Int), (0 : Int), (0 : Int), (0 : Int), (0 : Int), (0 : Int), (0 : 
  Int), (0 : Int), (0 : Int)), (0 : Int)), (0 : Int), (0 : Int), (0 : Int), (0 : Int), [], ByteArray.mk #[], ByteArray.mk #[])).snd.snd.snd.snd.fst.snd), (((lookL (allM (List.drop x d)) y).getD (((0 : Int), (0 : Int), (0 
  : Int), (0 : Int), (0 : Int), (0 : Int), []), [], ByteArray.mk #[], [], ((0 : Int), []), ((0 : Int), (0 : Int)), (((0 : Int), (0 : Int), (0 : Int), (0 : Int), (0 : Int), (0 : Int), (0 : Int), (0 : Int), (0 : Int), (0 : 
  Int), (0 : Int), (0 : Int), (0 : Int), (0 : Int), (0 : Int), (0 : Int)), (0 : Int)), (0 : Int), (0 : Int), (0 : Int), (0 : Int), [], ByteArray.mk #[], ByteArray.mk #[])).snd.snd.snd.snd.snd.fst.fst, ((lookL (allM 
  (List.drop x d)) y).getD (((0 : Int), (0 : Int), (0 : Int), (0 : Int), (0 : Int), (0 : Int), []), [], ByteArray.mk #[], [], ((0 : Int), []), ((0 : Int), (0 : Int)), (((0 : Int), (0 : Int), (0 : Int), (0 : Int), (0 : 
  Int), (0 : Int), (0 : Int), (0 : Int), (0 : Int), (0 : Int), (0 : Int), (0 : Int), (0 : Int), (0 : Int), (0 : Int), (0 : Int)), (0 : Int)), (0 : Int), (0 : Int), (0 : Int), (0 : Int), [], ByteArray.mk #[], ByteArray.mk 
  #[])).snd.snd.snd.snd.snd.fst.snd), ((((lookL (allM (List.drop x d)) y).getD (((0 : Int), (0 : Int), (0 : Int), (0 : Int), (0 : Int), (0 : Int), []), [], ByteArray.mk #[], [], ((0 : Int), []), ((0 : Int), (0 : Int)), 
  (((0 : Int), (0 : Int), (0 : Int), (0 : Int), (0 : Int), (0 : Int), (0 : Int), (0 : Int), (0 : Int), (0 : Int), (0 : Int), (0 : Int), (0 : Int), (0 : Int), (0 : Int), (0 : Int)), (0 : Int)), (0 : Int), (0 : Int), (0 : 
  Int), (0 : Int), [], ByteArray.mk #[], ByteArray.mk #[])).snd.snd.snd.snd.snd.snd.fst.fst.fst, ((lookL (allM (List.drop x d)) y).getD (((0 : Int), (0 : Int), (0 : Int), (0 : Int), (0 : Int), (0 : Int), []), [], 
  ByteArray.mk #[], [], ((0 : Int), []), ((0 : Int), (0 : Int)), (((0 : Int), (0 : Int), (0 : Int), (0 : Int), (0 : Int), (0 : Int), (0 : Int), (0 : Int), (0 : Int), (0 : Int), (0 : Int), (0 : Int), (0 : Int), (0 : Int), 
  (0 : Int), (0 : Int)), (0 : Int)), (0 : Int), (0 : Int), (0 : Int), (0 : Int), [], ByteArray.mk #[], ByteArray.mk #[])).snd.snd.snd.snd.snd.snd.fst.fst.snd.fst, ((lookL (allM (List.drop x d)) y).getD (((0 : Int), (0 : 
  Int), (0 : Int), (0 : Int), (0 : Int), (0 : Int), []), [], ByteArray.mk #[], [], ((0 : Int), []), ((0 : Int), (0 : Int)), (((0 : Int), (0 : Int), (0 : Int), (0 : Int), (0 : Int), (0 : Int), (0 : Int), (0 : Int), (0 : 
  Int), (0 : Int), (0 : Int), (0 : Int), (0 : Int), (0 : Int), (0 : Int), (0 : Int)), (0 : Int)), (0 : Int), (0 : Int), (0 : Int), (0 : Int), [], ByteArray.mk #[], ByteArray.mk 
  #[])).snd.snd.snd.snd.snd.snd.fst.fst.snd.snd.fst, ((lookL (allM (List.drop x d)) y).getD (((0 : Int), (0 : Int), (0 : Int), (0 : Int), (0 : Int), (0 : Int), []), [], ByteArray.mk #[], [], ((0 : Int), []), ((0 : Int), 
  (0 : Int)), (((0 : Int), (0 : Int), (0 : Int), (0 : Int), (0 : Int), (0 : Int), (0 : Int), (0 : Int), (0 : Int), (0 : Int), (0 : Int), (0 : Int), (0 : Int), (0 : Int), (0 : Int), (0 : Int)), (0 : Int)), (0 : Int), (0 : 
  Int), (0 : Int), (0 : Int), [], ByteArray.mk #[], ByteArray.mk #[])).snd.snd.snd.snd.snd.snd.fst.fst.snd.snd.snd.fst, ((lookL (allM (List.drop x d)) y).getD (((0 : Int), (0 : Int), (0 : Int), (0 : Int), (0 : Int), (0 : 
  Int), []), [], ByteArray.mk #[], [], ((0 : Int), []), ((0 : Int), (0 : Int)), (((0 : Int), (0 : Int), (0 : Int), (0 : Int), (0 : Int), (0 : Int), (0 : Int), (0 : Int), (0 : Int), (0 : Int), (0 : Int), (0 : Int), (0 : 
  Int), (0 : Int), (0 : Int), (0 : Int)), (0 : Int)), (0 : Int), (0 : Int), (0 : Int), (0 : Int), [], ByteArray.mk #[], ByteArray.mk #[])).snd.snd.snd.snd.snd.snd.fst.fst.snd.snd.snd.snd.fst, ((lookL (allM (List.drop x 
  d)) y).getD (((0 : Int), (0 : Int), (0 : Int), (0 : Int), (0 : Int), (0 : Int), []), [], ByteArray.mk #[], [], ((0 : Int), []), ((0 : Int), (0 : Int)), (((0 : Int), (0 : Int), (0 : Int), (0 : Int), (0 : Int), (0 : 
  Int), (0 : Int), (0 : Int), (0 : Int), (0 : Int), (0 : Int), (0 : Int), (0 : Int), (0 : Int), (0 : Int), (0 : Int)), (0 : Int)), (0 : Int), (0 : Int), (0 : Int), (0 : Int), [], ByteArray.mk #[], ByteArray.mk 
  #[])).snd.snd.snd.snd.snd.snd.fst.fst.snd.snd.snd.snd.snd.fst, ((lookL (allM (List.drop x d)) y).getD (((0 : Int), (0 : Int), (0 : Int), (0 : Int), (0 : Int), (0 : Int), []), [], ByteArray.mk #[], [], ((0 : Int), []), 
  ((0 : Int), (0 : Int)), (((0 : Int), (0 : Int), (0 : Int), (0 : Int), (0 : Int), (0 : Int), (0 : Int), (0 : Int), (0 : Int), (0 : Int), (0 : Int), (0 : Int), (0 : Int), (0 : Int), (0 : Int), (0 : Int)), (0 : Int)), (0 
  : Int), (0 : Int), (0 : Int), (0 : Int), [], ByteArray.mk #[], ByteArray.mk #[])).snd.snd.snd.snd.snd.snd.fst.fst.snd.snd.snd.snd.snd.snd.fst, ((lookL (allM (List.drop x d)) y).getD (((0 : Int), (0 : Int), (0 : Int), 
  (0 : Int), (0 : Int), (0 : Int), []), [], ByteArray.mk #[], [], ((0 : Int), []), ((0 : Int), (0 : Int)), (((0 : Int), (0 : Int), (0 : Int), (0 : Int), (0 : Int), (0 : Int), (0 : Int), (0 : Int), (0 : Int), (0 : Int), 
  (0 : Int), (0 : Int), (0 : Int), (0 : Int), (0 : Int), (0 : Int)), (0 : Int)), (0 : Int), (0 : Int), (0 : Int), (0 : Int), [], ByteArray.mk #[], ByteArray.mk 
  #[])).snd.snd.snd.snd.snd.snd.fst.fst.snd.snd.snd.snd.snd.snd.snd.fst, ((lookL (allM (List.drop x d)) y).getD (((0 : Int), (0 : Int), (0 : Int), (0 : Int), (0 : Int), (0 : Int), []), [], ByteArray.mk #[], [], ((0 : 
  Int), []), ((0 : Int), (0 : Int)), (((0 : Int), (0 : Int), (0 : Int), (0 : Int), (0 : Int), (0 : Int), (0 : Int), (0 : Int), (0 : Int), (0 : Int), (0 : Int), (0 : Int), (0 : Int), (0 : Int), (0 : Int), (0 : Int)), (0 : 
  Int)), (0 : Int), (0 : Int), (0 : Int), (0 : Int), [], ByteArray.mk #[], ByteArray.mk #[])).snd.snd.snd.snd.snd.snd.fst.fst.snd.snd.snd.snd.snd.snd.snd.snd.fst, ((lookL (allM (List.drop x d)) y).getD (((0 : Int), (0 : 
  Int), (0 : Int), (0 : Int), (0 : Int), (0 : Int), []), [], ByteArray.mk #[], [], ((0 : Int), []), ((0 : Int), (0 : Int)), (((0 : Int), (0 : Int), (0 : Int), (0 : Int), (0 : Int), (0 : Int), (0 : Int), (0 : Int), (0 : 
  Int), (0 : Int), (0 : Int), (0 : Int), (0 : Int), (0 : Int), (0 : Int), (0 : Int)), (0 : Int)), (0 : Int), (0 : Int), (0 : Int), (0 : Int), [], ByteArray.mk #[], ByteArray.mk 
  #[])).snd.snd.snd.snd.snd.snd.fst.fst.snd.snd.snd.snd.snd.snd.snd.snd.snd.fst, ((lookL (allM (List.drop x d)) y).getD (((0 : Int), (0 : Int), (0 : Int), (0 : Int), (0 : Int), (0 : Int), []), [], ByteArray.mk #[], [], 
  ((0 : Int), []), ((0 : Int), (0 : Int)), (((0 : Int), (0 : Int), (0 : Int), (0 : Int), (0 : Int), (0 : Int), (0 : Int), (0 : Int), (0 : Int), (0 : Int), (0 : Int), (0 : Int), (0 : Int), (0 : Int), (0 : Int), (0 : 
  Int)), (0 : Int)), (0 : Int), (0 : Int), (0 : Int), (0 : Int), [], ByteArray.mk #[], ByteArray.mk #[])).snd.snd.snd.snd.snd.snd.fst.fst.snd.snd.snd.snd.snd.snd.snd.snd.snd.snd.fst, ((lookL (allM (List.drop x d)) 
  y).getD (((0 : Int), (0 : Int), (0 : Int), (0 : Int), (0 : Int), (0 : Int), []), [], ByteArray.mk #[], [], ((0 : Int), []), ((0 : Int), (0 : Int)), (((0 : Int), (0 : Int), (0 : Int), (0 : Int), (0 : Int), (0 : Int), (0 
  : Int), (0 : Int), (0 : Int), (0 : Int), (0 : Int), (0 : Int), (0 : Int), (0 : Int), (0 : Int), (0 : Int)), (0 : Int)), (0 : Int), (0 : Int), (0 : Int), (0 : Int), [], ByteArray.mk #[], ByteArray.mk 
  #[])).snd.snd.snd.snd.snd.snd.fst.fst.snd.snd.snd.snd.snd.snd.snd.snd.snd.snd.snd.fst, ((lookL (allM (List.drop x d)) y).getD (((0 : Int), (0 : Int), (0 : Int), (0 : Int), (0 : Int), (0 : Int), []), [], ByteArray.mk 
  #[], [], ((0 : Int), []), ((0 : Int), (0 : Int)), (((0 : Int), (0 : Int), (0 : Int), (0 : Int), (0 : Int), (0 : Int), (0 : Int), (0 : Int), (0 : Int), (0 : Int), (0 : Int), (0 : Int), (0 : Int), (0 : Int), (0 : Int), 
  (0 : Int)), (0 : Int)), (0 : Int), (0 : Int), (0 : Int), (0 : Int), [], ByteArray.mk #[], ByteArray.mk #[])).snd.snd.snd.snd.snd.snd.fst.fst.snd.snd.snd.snd.snd.snd.snd.snd.snd.snd.snd.snd.fst, ((lookL (allM (List.drop 
  x d)) y).getD (((0 : Int), (0 : Int), (0 : Int), (0 : Int), (0 : Int), (0 : Int), []), [], ByteArray.mk #[], [], ((0 : Int), []), ((0 : Int), (0 : Int)), (((0 : Int), (0 : Int), (0 : Int), (0 : Int), (0 : Int), (0 : 
  Int), (0 : Int), (0 : Int), (0 : Int), (0 : Int), (0 : Int), (0 : Int), (0 : Int), (0 : Int), (0 : Int), (0 : Int)), (0 : Int)), (0 : Int), (0 : Int), (0 : Int), (0 : Int), [], ByteArray.mk #[], ByteArray.mk 
  #[])).snd.snd.snd.snd.snd.snd.fst.fst.snd.snd.snd.snd.snd.snd.snd.snd.snd.snd.snd.snd.snd.fst, ((lookL (allM (List.drop x d)) y).getD (((0 : Int), (0 : Int), (0 : Int), (0 : Int), (0 : Int), (0 : Int), []), [], 
  ByteArray.mk #[], [], ((0 : Int), []), ((0 : Int), (0 : Int)), (((0 : Int), (0 : Int), (0 : Int), (0 : Int), (0 : Int), (0 : Int), (0 : Int), (0 : Int), (0 : Int), (0 : Int), (0 : Int), (0 : Int), (0 : Int), (0 : Int), 
  (0 : Int), (0 : Int)), (0 : Int)), (0 : Int), (0 : Int), (0 : Int), (0 : Int), [], ByteArray.mk #[], ByteArray.mk #[])).snd.snd.snd.snd.snd.snd.fst.fst.snd.snd.snd.snd.snd.snd.snd.snd.snd.snd.snd.snd.snd.snd.fst, 
  ((lookL (allM (List.drop x d)) y).getD (((0 : Int), (0 : Int), (0 : Int), (0 : Int), (0 : Int), (0 : Int), []), [], ByteArray.mk #[], [], ((0 : Int), []), ((0 : Int), (0 : Int)), (((0 : Int), (0 : Int), (0 : Int), (0 : 
  Int), (0 : Int), (0 : Int), (0 : Int), (0 : Int), (0 : Int), (0 : Int), (0 : Int), (0 : Int), (0 : Int), (0 : Int), (0 : Int), (0 : Int)), (0 : Int)), (0 : Int), (0 : Int), (0 : Int), (0 : Int), [], ByteArray.mk #[], 
  ByteArray.mk #[])).snd.snd.snd.snd.snd.snd.fst.fst.snd.snd.snd.snd.snd.snd.snd.snd.snd.snd.snd.snd.snd.snd.snd), ((lookL (allM (List.drop x d)) y).getD (((0 : Int), (0 : Int), (0 : Int), (0 : Int), (0 : Int), (0 : 
  Int), []), [], ByteArray.mk #[], [], ((0 : Int), []), ((0 : Int), (0 : Int)), (((0 : Int), (0 : Int), (0 : Int), (0 : Int), (0 : Int), (0 : Int), (0 : Int), (0 : Int), (0 : Int), (0 : Int), (0 : Int), (0 : Int), (0 : 
  Int), (0 : Int), (0 : Int), (0 : Int)), (0 : Int)), (0 : Int), (0 : Int), (0 : Int), (0 : Int), [], ByteArray.mk #[], ByteArray.mk #[])).snd.snd.snd.snd.snd.snd.fst.snd), ((lookL (allM (List.drop x d)) y).getD (((0 : 
  Int), (0 : Int), (0 : Int), (0 : Int), (0 : Int), (0 : Int), []), [], ByteArray.mk #[], [], ((0 : Int), []), ((0 : Int), (0 : Int)), (((0 : Int), (0 : Int), (0 : Int), (0 : Int), (0 : Int), (0 : Int), (0 : Int), (0 : 
  Int), (0 : Int), (0 : Int), (0 : Int), (0 : Int), (0 : Int), (0 : Int), (0 : Int), (0 : Int)), (0 : Int)), (0 : Int), (0 : Int), (0 : Int), (0 : Int), [], ByteArray.mk #[], ByteArray.mk 
  #[])).snd.snd.snd.snd.snd.snd.snd.fst, ((lookL (allM (List.drop x d)) y).getD (((0 : Int), (0 : Int), (0 : Int), (0 : Int), (0 : Int), (0 : Int), []), [], ByteArray.mk #[], [], ((0 : Int), []), ((0 : Int), (0 : Int)), 
  (((0 : Int), (0 : Int), (0 : Int), (0 : Int), (0 : Int), (0 : Int), (0 : Int), (0 : Int), (0 : Int), (0 : Int), (0 : Int), (0 : Int), (0 : Int), (0 : Int), (0 : Int), (0 : Int)), (0 : Int)), (0 : Int), (0 : Int), (0 : 
  Int), (0 : Int), [], ByteArray.mk #[], ByteArray.mk #[])).snd.snd.snd.snd.snd.snd.snd.snd.fst, ((lookL (allM (List.drop x d)) y).getD (((0 : Int), (0 : Int), (0 : Int), (0 : Int), (0 : Int), (0 : Int), []), [], 
  ByteArray.mk #[], [], ((0 : Int), []), ((0 : Int), (0 : Int)), (((0 : Int), (0 : Int), (0 : Int), (0 : Int), (0 : Int), (0 : Int), (0 : Int), (0 : Int), (0 : Int), (0 : Int), (0 : Int), (0 : Int), (0 : Int), (0 : Int), 
  (0 : Int), (0 : Int)), (0 : Int)), (0 : Int), (0 : Int), (0 : Int), (0 : Int), [], ByteArray.mk #[], ByteArray.mk #[])).snd.snd.snd.snd.snd.snd.snd.snd.snd.fst, ((lookL (allM (List.drop x d)) y).getD (((0 : Int), (0 : 
  Int), (0 : Int), (0 : Int), (0 : Int), (0 : Int), []), [], ByteArray.mk #[], [], ((0 : Int), []), ((0 : Int), (0 : Int)), (((0 : Int), (0 : Int), (0 : Int), (0 : Int), (0 : Int), (0 : Int), (0 : Int), (0 : Int), (0 : 
  Int), (0 : Int), (0 : Int), (0 : Int), (0 : Int), (0 : Int), (0 : Int), (0 : Int)), (0 : Int)), (0 : Int), (0 : Int), (0 : Int), (0 : Int), [], ByteArray.mk #[], ByteArray.mk 
  #[])).snd.snd.snd.snd.snd.snd.snd.snd.snd.snd.fst, ((lookL (allM (List.drop x d)) y).getD (((0 : Int), (0 : Int), (0 : Int), (0 : Int), (0 : Int), (0 : Int), []), [], ByteArray.mk #[], [], ((0 : Int), []), ((0 : Int), 
  (0 : Int)), (((0 : Int), (0 : Int), (0 : Int), (0 : Int), (0 : Int), (0 : Int), (0 : Int), (0 : Int), (0 : Int), (0 : Int), (0 : Int), (0 : Int), (0 : Int), (0 : Int), (0 : Int), (0 : Int)), (0 : Int)), (0 : Int), (0 : 
  Int), (0 : Int), (0 : Int), [], ByteArray.mk #[], ByteArray.mk #[])).snd.snd.snd.snd.snd.snd.snd.snd.snd.snd.snd.fst, ((lookL (allM (List.drop x d)) y).getD (((0 : Int), (0 : Int), (0 : Int), (0 : Int), (0 : Int), (0 : 
  Int), []), [], ByteArray.mk #[], [], ((0 : Int), []), ((0 : Int), (0 : Int)), (((0 : Int), (0 : Int), (0 : Int), (0 : Int), (0 : Int), (0 : Int), (0 : Int), (0 : Int), (0 : Int), (0 : Int), (0 : Int), (0 : Int), (0 : 
  Int), (0 : Int), (0 : Int), (0 : Int)), (0 : Int)), (0 : Int), (0 : Int), (0 : Int), (0 : Int), [], ByteArray.mk #[], ByteArray.mk #[])).snd.snd.snd.snd.snd.snd.snd.snd.snd.snd.snd.snd.fst, ((lookL (allM (List.drop x 
  d)) y).getD (((0 : Int), (0 : Int), (0 : Int), (0 : Int), (0 : Int), (0 : Int), []), [], ByteArray.mk #[], [], ((0 : Int), []), ((0 : Int), (0 : Int)), (((0 : Int), (0 : Int), (0 : Int), (0 : Int), (0 : Int), (0 : 
  Int), (0 : Int), (0 : Int), (0 : Int), (0 : Int), (0 : Int), (0 : Int), (0 : Int), (0 : Int), (0 : Int), (0 : Int)), (0 : Int)), (0 : Int), (0 : Int), (0 : Int), (0 : Int), [], ByteArray.mk #[], ByteArray.mk 
  #[])).snd.snd.snd.snd.snd.snd.snd.snd.snd.snd.snd.snd.snd))) = true → ∃ (x' : List Int × List (Int × Obj)), FindInv d root l x'.fst x'.snd ∧ x'.fst.length + weight x'.snd (allM d) < x_1.fst.length + weight x_1.snd 
  (allM d) ∧ (True ∧ True) ∧ (True ∧ (True ∧ True) ∧ True ∧ false = false ∧ True ∧ SV.val (Value.map none) = SV.val (Value.map none) ∧ True ∧ d = d ∧ root = root ∧ (l.fst = l.fst ∧ l.snd = l.snd ∧ True) ∧ True) ∧ (l.fst 
  = l.fst ∧ l.snd = l.snd ∧ True) ∧ (x_1.snd = x'.snd ∧ True) ∧ (allM (List.drop x d) = allM (List.drop x d) ∧ True) ∧ (True ∧ True) ∧ (d = d ∧ True) ∧ True ∧ True ∧ List.take ((some (IntKind.i64.wrap ((↑x_1.fst.length : 
  Int) - (1 : Int)))).getD (↑x_1.fst.length : Int)).toNat x_1.fst = x'.fst ∧ True) ∧ ((!lowV (l.fst, l.snd) (olab ((((lookL (allM (List.drop x d)) y).getD (((0 : Int), (0 : Int), (0 : Int), (0 : Int), (0 : Int), (0 : 
  Int), []), [], ByteArray.mk #[], [], ((0 : Int), []), ((0 : Int), (0 : Int)), (((0 : Int), (0 : Int), (0 : Int), (0 : Int), (0 : Int), (0 : Int), (0 : Int), (0 : Int), (0 : Int), (0 : Int), (0 : Int), (0 : Int), (0 : 
  Int), (0 : Int), (0 : Int), (0 : Int)), (0 : Int)), (0 : Int), (0 : Int), (0 : Int), (0 : Int), [], ByteArray.mk #[], ByteArray.mk #[])).fst.fst, ((lookL (allM (List.drop x d)) y).getD (((0 : Int), (0 : Int), (0 : 
  Int), (0 : Int), (0 : Int), (0 : Int), []), [], ByteArray.mk #[], [], ((0 : Int), []), ((0 : Int), (0 : Int)), (((0 : Int), (0 : Int), (0 : Int), (0 : Int), (0 : Int), (0 : Int), (0 : Int), (0 : Int), (0 : Int), (0 : 
  Int), (0 : Int), (0 : Int), (0 : Int), (0 : Int), (0 : Int), (0 : Int)), (0 : Int)), (0 : Int), (0 : Int), (0 : Int), (0 : Int), [], ByteArray.mk #[], ByteArray.mk #[])).fst.snd.fst, ((lookL (allM (List.drop x d)) 
  y).getD (((0 : Int), (0 : Int), (0 : Int), (0 : Int), (0 : Int), (0 : Int), []), [], ByteArray.mk #[], [], ((0 : Int), []), ((0 : Int), (0 : Int)), (((0 : Int), (0 : Int), (0 : Int), (0 : Int), (0 : Int), (0 : Int), (0 
  : Int), (0 : Int), (0 : Int), (0 : Int), (0 : Int), (0 : Int), (0 : Int), (0 : Int), (0 : Int), (0 : Int)), (0 : Int)), (0 : Int), (0 : Int), (0 : Int), (0 : Int), [], ByteArray.mk #[], ByteArray.mk 
  #[])).fst.snd.snd.fst, ((lookL (allM (List.drop x d)) y).getD (((0 : Int), (0 : Int), (0 : Int), (0 : Int), (0 : Int), (0 : Int), []), [], ByteArray.mk #[], [], ((0 : Int), []), ((0 : Int), (0 : Int)), (((0 : Int), (0 
  : Int), (0 : Int), (0 : Int), (0 : Int), (0 : Int), (0 : Int), (0 : Int), (0 : Int), (0 : Int), (0 : Int), (0 : Int), (0 : Int), (0 : Int), (0 : Int), (0 : Int)), (0 : Int)), (0 : Int), (0 : Int), (0 : Int), (0 : Int), 
  [], ByteArray.mk #[], ByteArray.mk #[])).fst.snd.snd.snd.fst, ((lookL (allM (List.drop x d)) y).getD (((0 : Int), (0 : Int), (0 : Int), (0 : Int), (0 : Int), (0 : Int), []), [], ByteArray.mk #[], [], ((0 : Int), []), 
  ((0 : Int), (0 : Int)), (((0 : Int), (0 : Int), (0 : Int), (0 : Int), (0 : Int), (0 : Int), (0 : Int), (0 : Int), (0 : Int), (0 : Int), (0 : Int), (0 : Int), (0 : Int), (0 : Int), (0 : Int), (0 : Int)), (0 : Int)), (0 
  : Int), (0 : Int), (0 : Int), (0 : Int), [], ByteArray.mk #[], ByteArray.mk #[])).fst.snd.snd.snd.snd.fst, ((lookL (allM (List.drop x d)) y).getD (((0 : Int), (0 : Int), (0 : Int), (0 : Int), (0 : Int), (0 : Int), []), 
  [], ByteArray.mk #[], [], ((0 : Int), []), ((0 : Int), (0 : Int)), (((0 : Int), (0 : Int), (0 : Int), (0 : Int), (0 : Int), (0 : Int), (0 : Int), (0 : Int), (0 : Int), (0 : Int), (0 : Int), (0 : Int), (0 : Int), (0 : 
  Int), (0 : Int), (0 : Int)), (0 : Int)), (0 : Int), (0 : Int), (0 : Int), (0 : Int), [], ByteArray.mk #[], ByteArray.mk #[])).fst.snd.snd.snd.snd.snd.fst, ((lookL (allM (List.drop x d)) y).getD (((0 : Int), (0 : Int), 
  (0 : Int), (0 : Int), (0 : Int), (0 : Int), []), [], ByteArray.mk #[], [], ((0 : Int), []), ((0 : Int), (0 : Int)), (((0 : Int), (0 : Int), (0 : Int), (0 : Int), (0 : Int), (0 : Int), (0 : Int), (0 : Int), (0 : Int), 
  (0 : Int), (0 : Int), (0 : Int), (0 : Int), (0 : Int), (0 : Int), (0 : Int)), (0 : Int)), (0 : Int), (0 : Int), (0 : Int), (0 : Int), [], ByteArray.mk #[], ByteArray.mk #[])).fst.snd.snd.snd.snd.snd.snd), ((lookL (allM 
  (List.drop x d)) y).getD (((0 : Int), (0 : Int), (0 : Int), (0 : Int), (0 : Int), (0 : Int), []), [], ByteArray.mk #[], [], ((0 : Int), []), ((0 : Int), (0 : Int)), (((0 : Int), (0 : Int), (0 : Int), (0 : Int), (0 : 
  Int), (0 : Int), (0 : Int), (0 : Int), (0 : Int), (0 : Int), (0 : Int), (0 : Int), (0 : Int), (0 : Int), (0 : Int), (0 : Int)), (0 : Int)), (0 : Int), (0 : Int), (0 : Int), (0 : Int), [], ByteArray.mk #[], ByteArray.mk 
  #[])).snd.fst, ((lookL (allM (List.drop x d)) y).getD (((0 : Int), (0 : Int), (0 : Int), (0 : Int), (0 : Int), (0 : Int), []), [], ByteArray.mk #[], [], ((0 : Int), []), ((0 : Int), (0 : Int)), (((0 : Int), (0 : Int), 
  (0 : Int), (0 : Int), (0 : Int), (0 : Int), (0 : Int), (0 : Int), (0 : Int), (0 : Int), (0 : Int), (0 : Int), (0 : Int), (0 : Int), (0 : Int), (0 : Int)), (0 : Int)), (0 : Int), (0 : Int), (0 : Int), (0 : Int), [], 
  ByteArray.mk #[], ByteArray.mk #[])).snd.snd.fst, ((lookL (allM (List.drop x d)) y).getD (((0 : Int), (0 : Int), (0 : Int), (0 : Int), (0 : Int), (0 : Int), []), [], ByteArray.mk #[], [], ((0 : Int), []), ((0 : Int), 
  (0 : Int)), (((0 : Int), (0 : Int), (0 : Int), (0 : Int), (0 : Int), (0 : Int), (0 : Int), (0 : Int), (0 : Int), (0 : Int), (0 : Int), (0 : Int), (0 : Int), (0 : Int), (0 : Int), (0 : Int)), (0 : Int)), (0 : Int), (0 : 
  Int), (0 : Int), (0 : Int), [], ByteArray.mk #[], ByteArray.mk #[])).snd.snd.snd.fst, (((lookL (allM (List.drop x d)) y).getD (((0 : Int), (0 : Int), (0 : Int), (0 : Int), (0 : Int), (0 : Int), []), [], ByteArray.mk 
  #[], [], ((0 : Int), []), ((0 : Int), (0 : Int)), (((0 : Int), (0 : Int), (0 : Int), (0 : Int), (0 : Int), (0 : Int), (0 : Int), (0 : Int), (0 : Int), (0 : Int), (0 : Int), (0 : Int), (0 : Int), (0 : Int), (0 : Int), 
  (0 : Int)), (0 : Int)), (0 : Int), (0 : Int), (0 : Int), (0 : Int), [], ByteArray.mk #[], ByteArray.mk #[])).snd.snd.snd.snd.fst.fst, ((lookL (allM (List.drop x d)) y).getD (((0 : Int), (0 : Int), (0 : Int), (0 : Int), 
  (0 : Int), (0 : Int), []), [], ByteArray.mk #[], [], ((0 : Int), []), ((0 : Int), (0 : Int)), (((0 : Int), (0 : Int), (0 : Int), (0 : Int), (0 : Int), (0 : Int), (0 : Int), (0 : Int), (0 : Int), (0 : Int), (0 : Int), 
  (0 : Int), (0 : Int), (0 : Int), (0 : Int), (0 : Int)), (0 : Int)), (0 : Int), (0 : Int), (0 : Int), (0 : Int), [], ByteArray.mk #[], ByteArray.mk #[])).snd.snd.snd.snd.fst.snd), (((lookL (allM (List.drop x d)) y).getD 
  (((0 : Int), (0 : Int), (0 : Int), (0 : Int), (0 : Int), (0 : Int), []), [], ByteArray.mk #[], [], ((0 : Int), []), ((0 : Int), (0 : Int)), (((0 : Int), (0 : Int), (0 : Int), (0 : Int), (0 : Int), (0 : Int), (0 : Int), 
  (0 : Int), (0 : Int), (0 : Int), (0 : Int), (0 : Int), (0 : Int), (0 : Int), (0 : Int), (0 : Int)), (0 : Int)), (0 : Int), (0 : Int), (0 : Int), (0 : Int), [], ByteArray.mk #[], ByteArray.mk 
  #[])).snd.snd.snd.snd.snd.fst.fst, ((lookL (allM (List.drop x d)) y).getD (((0 : Int), (0 : Int), (0 : Int), (0 : Int), (0 : Int), (0 : Int), []), [], ByteArray.mk #[], [], ((0 : Int), []), ((0 : Int), (0 : Int)), (((0 
  : Int), (0 : Int), (0 : Int), (0 : Int), (0 : Int), (0 : Int), (0 : Int), (0 : Int), (0 : Int), (0 : Int), (0 : Int), (0 : Int), (0 : Int), (0 : Int), (0 : Int), (0 : Int)), (0 : Int)), (0 : Int), (0 : Int), (0 : Int), 
  (0 : Int), [], ByteArray.mk #[], ByteArray.mk #[])).snd.snd.snd.snd.snd.fst.snd), ((((lookL (allM (List.drop x d)) y).getD (((0 : Int), (0 : Int), (0 : Int), (0 : Int), (0 : Int), (0 : Int), []), [], ByteArray.mk #[], 
  [], ((0 : Int), []), ((0 : Int), (0 : Int)), (((0 : Int), (0 : Int), (0 : Int), (0 : Int), (0 : Int), (0 : Int), (0 : Int), (0 : Int), (0 : Int), (0 : Int), (0 : Int), (0 : Int), (0 : Int), (0 : Int), (0 : Int), (0 : 
  Int)), (0 : Int)), (0 : Int), (0 : Int), (0 : Int), (0 : Int), [], ByteArray.mk #[], ByteArray.mk #[])).snd.snd.snd.snd.snd.snd.fst.fst.fst, ((lookL (allM (List.drop x d)) y).getD (((0 : Int), (0 : Int), (0 : Int), (0 
  : Int), (0 : Int), (0 : Int), []), [], ByteArray.mk #[], [], ((0 : Int), []), ((0 : Int), (0 : Int)), (((0 : Int), (0 : Int), (0 : Int), (0 : Int), (0 : Int), (0 : Int), (0 : Int), (0 : Int), (0 : Int), (0 : Int), (0 : 
  Int), (0 : Int), (0 : Int), (0 : Int), (0 : Int), (0 : Int)), (0 : Int)), (0 : Int), (0 : Int), (0 : Int), (0 : Int), [], ByteArray.mk #[], ByteArray.mk #[])).snd.snd.snd.snd.snd.snd.fst.fst.snd.fst, ((lookL (allM 
  (List.drop x d)) y).getD (((0 : Int), (0 : Int), (0 : Int), (0 : Int), (0 : Int), (0 : Int), []), [], ByteArray.mk #[], [], ((0 : Int), []), ((0 : Int), (0 : Int)), (((0 : Int), (0 : Int), (0 : Int), (0 : Int), (0 : 
  Int), (0 : Int), (0 : Int), (0 : Int), (0 : Int), (0 : Int), (0 : Int), (0 : Int), (0 : Int), (0 : Int), (0 : Int), (0 : Int)), (0 : Int)), (0 : Int), (0 : Int), (0 : Int), (0 : Int), [], ByteArray.mk #[], ByteArray.mk 
  #[])).snd.snd.snd.snd.snd.snd.fst.fst.snd.snd.fst, ((lookL (allM (List.drop x d)) y).getD (((0 : Int), (0 : Int), (0 : Int), (0 : Int), (0 : Int), (0 : Int), []), [], ByteArray.mk #[], [], ((0 : Int), []), ((0 : Int), 
  (0 : Int)), (((0 : Int), (0 : Int), (0 : Int), (0 : Int), (0 : Int), (0 : Int), (0 : Int), (0 : Int), (0 : Int), (0 : Int), (0 : Int), (0 : Int), (0 : Int), (0 : Int), (0 : Int), (0 : Int)), (0 : Int)), (0 : Int), (0 : 
  Int), (0 : Int), (0 : Int), [], ByteArray.mk #[], ByteArray.mk #[])).snd.snd.snd.snd.snd.snd.fst.fst.snd.snd.snd.fst, ((lookL (allM (List.drop x d)) y).getD (((0 : Int), (0 : Int), (0 : Int), (0 : Int), (0 : Int), (0 : 
  Int), []), [], ByteArray.mk #[], [], ((0 : Int), []), ((0 : Int), (0 : Int)), (((0 : Int), (0 : Int), (0 : Int), (0 : Int), (0 : Int), (0 : Int), (0 : Int), (0 : Int), (0 : Int), (0 : Int), (0 : Int), (0 : Int), (0 : 
  Int), (0 : Int), (0 : Int), (0 : Int)), (0 : Int)), (0 : Int), (0 : Int), (0 : Int), (0 : Int), [], ByteArray.mk #[], ByteArray.mk #[])).snd.snd.snd.snd.snd.snd.fst.fst.snd.snd.snd.snd.fst, ((lookL (allM (List.drop x 
  d)) y).getD (((0 : Int), (0 : Int), (0 : Int), (0 : Int), (0 : Int), (0 : Int), []), [], ByteArray.mk #[], [], ((0 : Int), []), ((0 : Int), (0 : Int)), (((0 : Int), (0 : Int), (0 : Int), (0 : Int), (0 : Int), (0 : 
  Int), (0 : Int), (0 : Int), (0 : Int), (0 : Int), (0 : Int), (0 : Int), (0 : Int), (0 : Int), (0 : Int), (0 : Int)), (0 : Int)), (0 : Int), (0 : Int), (0 : Int), (0 : Int), [], ByteArray.mk #[], ByteArray.mk 
  #[])).snd.snd.snd.snd.snd.snd.fst.fst.snd.snd.snd.snd.snd.fst, ((lookL (allM (List.drop x d)) y).getD (((0 : Int), (0 : Int), (0 : Int), (0 : Int), (0 : Int), (0 : Int), []), [], ByteArray.mk #[], [], ((0 : Int), []), 
  ((0 : Int), (0 : Int)), (((0 : Int), (0 : Int), (0 : Int), (0 : Int), (0 : Int), (0 : Int), (0 : Int), (0 : Int), (0 : Int), (0 : Int), (0 : Int), (0 : Int), (0 : Int), (0 : Int), (0 : Int), (0 : Int)), (0 : Int)), (0 
  : Int), (0 : Int), (0 : Int), (0 : Int), [], ByteArray.mk #[], ByteArray.mk #[])).snd.snd.snd.snd.snd.snd.fst.fst.snd.snd.snd.snd.snd.snd.fst, ((lookL (allM (List.drop x d)) y).getD (((0 : Int), (0 : Int), (0 : Int), 
  (0 : Int), (0 : Int), (0 : Int), []), [], ByteArray.mk #[], [], ((0 : Int), []), ((0 : Int), (0 : Int)), (((0 : Int), (0 : Int), (0 : Int), (0 : Int), (0 : Int), (0 : Int), (0 : Int), (0 : Int), (0 : Int), (0 : Int), 
  (0 : Int), (0 : Int), (0 : Int), (0 : Int), (0 : Int), (0 : Int)), (0 : Int)), (0 : Int), (0 : Int), (0 : Int), (0 : Int), [], ByteArray.mk #[], ByteArray.mk 
  #[])).snd.snd.snd.snd.snd.snd.fst.fst.snd.snd.snd.snd.snd.snd.snd.fst, ((lookL (allM (List.drop x d)) y).getD (((0 : Int), (0 : Int), (0 : Int), (0 : Int), (0 : Int), (0 : Int), []), [], ByteArray.mk #[], [], ((0 : 
  Int), []), ((0 : Int), (0 : Int)), (((0 : Int), (0 : Int), (0 : Int), (0 : Int), (0 : Int), (0 : Int), (0 : Int), (0 : Int), (0 : Int), (0 : Int), (0 : Int), (0 : Int), (0 : Int), (0 : Int), (0 : Int), (0 : Int)), (0 : 
  Int)), (0 : Int), (0 : Int), (0 : Int), (0 : Int), [], ByteArray.mk #[], ByteArray.mk #[])).snd.snd.snd.snd.snd.snd.fst.fst.snd.snd.snd.snd.snd.snd.snd.snd.fst, ((lookL (allM (List.drop x d)) y).getD (((0 : Int), (0 : 
  Int), (0 : Int), (0 : Int), (0 : Int), (0 : Int), []), [], ByteArray.mk #[], [], ((0 : Int), []), ((0 : Int), (0 : Int)), (((0 : Int), (0 : Int), (0 : Int), (0 : Int), (0 : Int), (0 : Int), (0 : Int), (0 : Int), (0 : 
  Int), (0 : Int), (0 : Int), (0 : Int), (0 : Int), (0 : Int), (0 : Int), (0 : Int)), (0 : Int)), (0 : Int), (0 : Int), (0 : Int), (0 : Int), [], ByteArray.mk #[], ByteArray.mk 
  #[])).snd.snd.snd.snd.snd.snd.fst.fst.snd.snd.snd.snd.snd.snd.snd.snd.snd.fst, ((lookL (allM (List.drop x d)) y).getD (((0 : Int), (0 : Int), (0 : Int), (0 : Int), (0 : Int), (0 : Int), []), [], ByteArray.mk #[], [], 
  ((0 : Int), []), ((0 : Int), (0 : Int)), (((0 : Int), (0 : Int), (0 : Int), (0 : Int), (0 : Int), (0 : Int), (0 : Int), (0 : Int), (0 : Int), (0 : Int), (0 : Int), (0 : Int), (0 : Int), (0 : Int), (0 : Int), (0 : 
  Int)), (0 : Int)), (0 : Int), (0 : Int), (0 : Int), (0 : Int), [], ByteArray.mk #[], ByteArray.mk #[])).snd.snd.snd.snd.snd.snd.fst.fst.snd.snd.snd.snd.snd.snd.snd.snd.snd.snd.fst, ((lookL (allM (List.drop x d)) 
  y).getD (((0 : Int), (0 : Int), (0 : Int), (0 : Int), (0 : Int), (0 : Int), []), [], ByteArray.mk #[], [], ((0 : Int), []), ((0 : Int), (0 : Int)), (((0 : Int), (0 : Int), (0 : Int), (0 : Int), (0 : Int), (0 : Int), (0 
  : Int), (0 : Int), (0 : Int), (0 : Int), (0 : Int), (0 : Int), (0 : Int), (0 : Int), (0 : Int), (0 : Int)), (0 : Int)), (0 : Int), (0 : Int), (0 : Int), (0 : Int), [], ByteArray.mk #[], ByteArray.mk 
  #[])).snd.snd.snd.snd.snd.snd.fst.fst.snd.snd.snd.snd.snd.snd.snd.snd.snd.snd.snd.fst, ((lookL (allM (List.drop x d)) y).getD (((0 : Int), (0 : Int), (0 : Int), (0 : Int), (0 : Int), (0 : Int), []), [], ByteArray.mk 
  #[], [], ((0 : Int), []), ((0 : Int), (0 : Int)), (((0 : Int), (0 : Int), (0 : Int), (0 : Int), (0 : Int), (0 : Int), (0 : Int), (0 : Int), (0 : Int), (0 : Int), (0 : Int), (0 : Int), (0 : Int), (0 : Int), (0 : Int), 
  (0 : Int)), (0 : Int)), (0 : Int), (0 : Int), (0 : Int), (0 : Int), [], ByteArray.mk #[], ByteArray.mk #[])).snd.snd.snd.snd.snd.snd.fst.fst.snd.snd.snd.snd.snd.snd.snd.snd.snd.snd.snd.snd.fst, ((lookL (allM (List.drop 
  x d)) y).getD (((0 : Int), (0 : Int), (0 : Int), (0 : Int), (0 : Int), (0 : Int), []), [], ByteArray.mk #[], [], ((0 : Int), []), ((0 : Int), (0 : Int)), (((0 : Int), (0 : Int), (0 : Int), (0 : Int), (0 : Int), (0 : 
  Int), (0 : Int), (0 : Int), (0 : Int), (0 : Int), (0 : Int), (0 : Int), (0 : Int), (0 : Int), (0 : Int), (0 : Int)), (0 : Int)), (0 : Int), (0 : Int), (0 : Int), (0 : Int), [], ByteArray.mk #[], ByteArray.mk 
  #[])).snd.snd.snd.snd.snd.snd.fst.fst.snd.snd.snd.snd.snd.snd.snd.snd.snd.snd.snd.snd.snd.fst, ((lookL (allM (List.drop x d)) y).getD (((0 : Int), (0 : Int), (0 : Int), (0 : Int), (0 : Int), (0 : Int), []), [], 
  ByteArray.mk #[], [], ((0 : Int), []), ((0 : Int), (0 : Int)), (((0 : Int), (0 : Int), (0 : Int), (0 : Int), (0 : Int), (0 : Int), (0 : Int), (0 : Int), (0 : Int), (0 : Int), (0 : Int), (0 : Int), (0 : Int), (0 : Int), 
  (0 : Int), (0 : Int)), (0 : Int)), (0 : Int), (0 : Int), (0 : Int), (0 : Int), [], ByteArray.mk #[], ByteArray.mk #[])).snd.snd.snd.snd.snd.snd.fst.fst.snd.snd.snd.snd.snd.snd.snd.snd.snd.snd.snd.snd.snd.snd.fst, 
  ((lookL (allM (List.drop x d)) y).getD (((0 : Int), (0 : Int), (0 : Int), (0 : Int), (0 : Int), (0 : Int), []), [], ByteArray.mk #[], [], ((0 : Int), []), ((0 : Int), (0 : Int)), (((0 : Int), (0 : Int), (0 : Int), (0 : 
  Int), (0 : Int), (0 : Int), (0 : Int), (0 : Int), (0 : Int), (0 : Int), (0 : Int), (0 : Int), (0 : Int), (0 : Int), (0 : Int), (0 : Int)), (0 : Int)), (0 : Int), (0 : Int), (0 : Int), (0 : Int), [], ByteArray.mk #[], 
  ByteArray.mk #[])).snd.snd.snd.snd.snd.snd.fst.fst.snd.snd.snd.snd.snd.snd.snd.snd.snd.snd.snd.snd.snd.snd.snd), ((lookL (allM (List.drop x d)) y).getD (((0 : Int), (0 : Int), (0 : Int), (0 : Int), (0 : Int), (0 : 
  Int), []), [], ByteArray.mk #[], [], ((0 : Int), []), ((0 : Int), (0 : Int)), (((0 : Int), (0 : Int), (0 : Int), (0 : Int), (0 : Int), (0 : Int), (0 : Int), (0 : Int), (0 : Int), (0 : Int), (0 : Int), (0 : Int), (0 : 
  Int), (0 : Int), (0 : Int), (0 : Int)), (0 : Int)), (0 : Int), (0 : Int), (0 : Int), (0 : Int), [], ByteArray.mk #[], ByteArray.mk #[])).snd.snd.snd.snd.snd.snd.fst.snd), ((lookL (allM (List.drop x d)) y).getD (((0 : 
  Int), (0 : Int), (0 : Int), (0 : Int), (0 : Int), (0 : Int), []), [], ByteArray.mk #[], [], ((0 : Int), []), ((0 : Int), (0 : Int)), (((0 : Int), (0 : Int), (0 : Int), (0 : Int), (0 : Int), (0 : Int), (0 : Int), (0 : 
  Int), (0 : Int), (0 : Int), (0 : Int), (0 : Int), (0 : Int), (0 : Int), (0 : Int), (0 : Int)), (0 : Int)), (0 : Int), (0 : Int), (0 : Int), (0 : Int), [], ByteArray.mk #[], ByteArray.mk 
  #[])).snd.snd.snd.snd.snd.snd.snd.fst, ((lookL (allM (List.drop x d)) y).getD (((0 : Int), (0 : Int), (0 : Int), (0 : Int), (0 : Int), (0 : Int), []), [], ByteArray.mk #[], [], ((0 : Int), []), ((0 : Int), (0 : Int)), 
  (((0 : Int), (0 : Int), (0 : Int), (0 : Int), (0 : Int), (0 : Int), (0 : Int), (0 : Int), (0 : Int), (0 : Int), (0 : Int), (0 : Int), (0 : Int), (0 : Int), (0 : Int), (0 : Int)), (0 : Int)), (0 : Int), (0 : Int), (0 : 
  Int), (0 : Int), [], ByteArray.mk #[], ByteArray.mk #[])).snd.snd.snd.snd.snd.snd.snd.snd.fst, ((lookL (allM (List.drop x d)) y).getD (((0 : Int), (0 : Int), (0 : Int), (0 : Int), (0 : Int), (0 : Int), []), [], 
  ByteArray.mk #[], [], ((0 : Int), []), ((0 : Int), (0 : Int)), (((0 : Int), (0 : Int), (0 : Int), (0 : Int), (0 : Int), (0 : Int), (0 : Int), (0 : Int), (0 : Int), (0 : Int), (0 : Int), (0 : Int), (0 : Int), (0 : Int), 
  (0 : Int), (0 : Int)), (0 : Int)), (0 : Int), (0 : Int), (0 : Int), (0 : Int), [], ByteArray.mk #[], ByteArray.mk #[])).snd.snd.snd.snd.snd.snd.snd.snd.snd.fst, ((lookL (allM (List.drop x d)) y).getD (((0 : Int), (0 : 
  Int), (0 : Int), (0 : Int), (0 : Int), (0 : Int), []), [], ByteArray.mk #[], [], ((0 : Int), []), ((0 : Int), (0 : Int)), (((0 : Int), (0 : Int), (0 : Int), (0 : Int), (0 : Int), (0 : Int), (0 : Int), (0 : Int), (0 : 
  Int), (0 : Int), (0 : Int), (0 : Int), (0 : Int), (0 : Int), (0 : Int), (0 : Int)), (0 : Int)), (0 : Int), (0 : Int), (0 : Int), (0 : Int), [], ByteArray.mk #[], ByteArray.mk 
  #[])).snd.snd.snd.snd.snd.snd.snd.snd.snd.snd.fst, ((lookL (allM (List.drop x d)) y).getD (((0 : Int), (0 : Int), (0 : Int), (0 : Int), (0 : Int), (0 : Int), []), [], ByteArray.mk #[], [], ((0 : Int), []), ((0 : Int), 
  (0 : Int)), (((0 : Int), (0 : Int), (0 : Int), (0 : Int), (0 : Int), (0 : Int), (0 : Int), (0 : Int), (0 : Int), (0 : Int), (0 : Int), (0 : Int), (0 : Int), (0 : Int), (0 : Int), (0 : Int)), (0 : Int)), (0 : Int), (0 : 
  Int), (0 : Int), (0 : Int), [], ByteArray.mk #[], ByteArray.mk #[])).snd.snd.snd.snd.snd.snd.snd.snd.snd.snd.snd.fst, ((lookL (allM (List.drop x d)) y).getD (((0 : Int), (0 : Int), (0 : Int), (0 : Int), (0 : Int), (0 : 
  Int), []), [], ByteArray.mk #[], [], ((0 : Int), []), ((0 : Int), (0 : Int)), (((0 : Int), (0 : Int), (0 : Int), (0 : Int), (0 : Int), (0 : Int), (0 : Int), (0 : Int), (0 : Int), (0 : Int), (0 : Int), (0 : Int), (0 : 
  Int), (0 : Int), (0 : Int), (0 : Int)), (0 : Int)), (0 : Int), (0 : Int), (0 : Int), (0 : Int), [], ByteArray.mk #[], ByteArray.mk #[])).snd.snd.snd.snd.snd.snd.snd.snd.snd.snd.snd.snd.fst, ((lookL (allM (List.drop x 
  d)) y).getD (((0 : Int), (0 : Int), (0 : Int), (0 : Int), (0 : Int), (0 : Int), []), [], ByteArray.mk #[], [], ((0 : Int), []), ((0 : Int), (0 : Int)), (((0 : Int), (0 : Int), (0 : Int), (0 : Int), (0 : Int), (0 : 
  Int), (0 : Int), (0 : Int), (0 : Int), (0 : Int), (0 : Int), (0 : Int), (0 : Int), (0 : Int), (0 : Int), (0 : Int)), (0 : Int)), (0 : Int), (0 : Int), (0 : Int), (0 : Int), [], ByteArray.mk #[], ByteArray.mk 
  #[])).snd.snd.snd.snd.snd.snd.snd.snd.snd.snd.snd.snd.snd))) = false → ((((lookL (allM (List.drop x d)) y).getD (((0 : Int), (0 : Int), (0 : Int), (0 : Int), (0 : Int), (0 : Int), []), [], ByteArray.mk #[], [], ((0 : 
  Int), []), ((0 : Int), (0 : Int)), (((0 : Int), (0 : Int), (0 : Int), (0 : Int), (0 : Int), (0 : Int), (0 : Int), (0 : Int), (0 : Int), (0 : Int), (0 : Int), (0 : Int), (0 : Int), (0 : Int), (0 : Int), (0 : Int)), (0 : 
  Int)), (0 : Int), (0 : Int), (0 : Int), (0 : Int), [], ByteArray.mk #[], ByteArray.mk #[])).fst.snd.fst == (1 : Int)) = true → ((List.take ((some (IntKind.i64.wrap ((↑x_1.fst.length : Int) - (1 : Int)))).getD 
  (↑x_1.fst.length : Int)).toNat x_1.fst).length + ((lookL (allM (List.drop x d)) y).getD (((0 : Int), (0 : Int), (0 : Int), (0 : Int), (0 : Int), (0 : Int), []), [], ByteArray.mk #[], [], ((0 : Int), []), ((0 : Int), (0 
  : Int)), (((0 : Int), (0 : Int), (0 : Int), (0 : Int), (0 : Int), (0 : Int), (0 : Int), (0 : Int), (0 : Int), (0 : Int), (0 : Int), (0 : Int), (0 : Int), (0 : Int), (0 : Int), (0 : Int)), (0 : Int)), (0 : Int), (0 : 
  Int), (0 : Int), (0 : Int), [], ByteArray.mk #[], ByteArray.mk #[])).snd.fst.length) * (8 : Nat) ≤ (140737488355328 : Nat) ∧ ∃ (x' : List Int × List (Int × Obj)), FindInv d root l x'.fst x'.snd ∧ x'.fst.length + weight 
  x'.snd (allM d) < x_1.fst.length + weight x_1.snd (allM d) ∧ (True ∧ True) ∧ (True ∧ (True ∧ True) ∧ True ∧ false = false ∧ True ∧ SV.val (Value.map none) = SV.val (Value.map none) ∧ True ∧ d = d ∧ root = root ∧ (l.fst 
  = l.fst ∧ l.snd = l.snd ∧ True) ∧ True) ∧ (l.fst = l.fst ∧ l.snd = l.snd ∧ True) ∧ (insL x_1.snd y ((((lookL (allM (List.drop x d)) y).getD (((0 : Int), (0 : Int), (0 : Int), (0 : Int), (0 : Int), (0 : Int), []), [], 
  ByteArray.mk #[], [], ((0 : Int), []), ((0 : Int), (0 : Int)), (((0 : Int), (0 : Int), (0 : Int), (0 : Int), (0 : Int), (0 : Int), (0 : Int), (0 : Int), (0 : Int), (0 : Int), (0 : Int), (0 : Int), (0 : Int), (0 : Int), 
  (0 : Int), (0 : Int)), (0 : Int)), (0 : Int), (0 : Int), (0 : Int), (0 : Int), [], ByteArray.mk #[], ByteArray.mk #[])).fst.fst, ((lookL (allM (List.drop x d)) y).getD (((0 : Int), (0 : Int), (0 : Int), (0 : Int), (0 : 
  Int), (0 : Int), []), [], ByteArray.mk #[], [], ((0 : Int), []), ((0 : Int), (0 : Int)), (((0 : Int), (0 : Int), (0 : Int), (0 : Int), (0 : Int), (0 : Int), (0 : Int), (0 : Int), (0 : Int), (0 : Int), (0 : Int), (0 : 
  Int), (0 : Int), (0 : Int), (0 : Int), (0 : Int)), (0 : Int)), (0 : Int), (0 : Int), (0 : Int), (0 : Int), [], ByteArray.mk #[], ByteArray.mk #[])).fst.snd.fst, ((lookL (allM (List.drop x d)) y).getD (((0 : Int), (0 : 
  Int), (0 : Int), (0 : Int), (0 : Int), (0 : Int), []), [], ByteArray.mk #[], [], ((0 : Int), []), ((0 : Int), (0 : Int)), (((0 : Int), (0 : Int), (0 : Int), (0 : Int), (0 : Int), (0 : Int), (0 : Int), (0 : Int), (0 : 
  Int), (0 : Int), (0 : Int), (0 : Int), (0 : Int), (0 : Int), (0 : Int), (0 : Int)), (0 : Int)), (0 : Int), (0 : Int), (0 : Int), (0 : Int), [], ByteArray.mk #[], ByteArray.mk #[])).fst.snd.snd.fst, ((lookL (allM 
  (List.drop x d)) y).getD (((0 : Int), (0 : Int), (0 : Int), (0 : Int), (0 : Int), (0 : Int), []), [], ByteArray.mk #[], [], ((0 : Int), []), ((0 : Int), (0 : Int)), (((0 : Int), (0 : Int), (0 : Int), (0 : Int), (0 : 
  Int), (0 : Int), (0 : Int), (0 : Int), (0 : Int), (0 : Int), (0 : Int), (0 : Int), (0 : Int), (0 : Int), (0 : Int), (0 : Int)), (0 : Int)), (0 : Int), (0 : Int), (0 : Int), (0 : Int), [], ByteArray.mk #[], ByteArray.mk 
  #[])).fst.snd.snd.snd.fst, ((lookL (allM (List.drop x d)) y).getD (((0 : Int), (0 : Int), (0 : Int), (0 : Int), (0 : Int), (0 : Int), []), [], ByteArray.mk #[], [], ((0 : Int), []), ((0 : Int), (0 : Int)), (((0 : Int), 
  (0 : Int), (0 : Int), (0 : Int), (0 : Int), (0 : Int), (0 : Int), (0 : Int), (0 : Int), (0 : Int), (0 : Int), (0 : Int), (0 : Int), (0 : Int), (0 : Int), (0 : Int)), (0 : Int)), (0 : Int), (0 : Int), (0 : Int), (0 : 
  Int), [], ByteArray.mk #[], ByteArray.mk #[])).fst.snd.snd.snd.snd.fst, ((lookL (allM (List.drop x d)) y).getD (((0 : Int), (0 : Int), (0 : Int), (0 : Int), (0 : Int), (0 : Int), []), [], ByteArray.mk #[], [], ((0 : 
  Int), []), ((0 : Int), (0 : Int)), (((0 : Int), (0 : Int), (0 : Int), (0 : Int), (0 : Int), (0 : Int), (0 : Int), (0 : Int), (0 : Int), (0 : Int), (0 : Int), (0 : Int), (0 : Int), (0 : Int), (0 : Int), (0 : Int)), (0 : 
  Int)), (0 : Int), (0 : Int), (0 : Int), (0 : Int), [], ByteArray.mk #[], ByteArray.mk #[])).fst.snd.snd.snd.snd.snd.fst, ((lookL (allM (List.drop x d)) y).getD (((0 : Int), (0 : Int), (0 : Int), (0 : Int), (0 : Int), 
  (0 : Int), []), [], ByteArray.mk #[], [], ((0 : Int), []), ((0 : Int), (0 : Int)), (((0 : Int), (0 : Int), (0 : Int), (0 : Int), (0 : Int), (0 : Int), (0 : Int), (0 : Int), (0 : Int), (0 : Int), (0 : Int), (0 : Int), 
  (0 : Int), (0 : Int), (0 : Int), (0 : Int)), (0 : Int)), (0 : Int), (0 : Int), (0 : Int), (0 : Int), [], ByteArray.mk #[], ByteArray.mk #[])).fst.snd.snd.snd.snd.snd.snd), ((lookL (allM (List.drop x d)) y).getD (((0 : 
  Int), (0 : Int), (0 : Int), (0 : Int), (0 : Int), (0 : Int), []), [], ByteArray.mk #[], [], ((0 : Int), []), ((0 : Int), (0 : Int)), (((0 : Int), (0 : Int), (0 : Int), (0 : Int), (0 : Int), (0 : Int), (0 : Int), (0 : 
  Int), (0 : Int), (0 : Int), (0 : Int), (0 : Int), (0 : Int), (0 : Int), (0 : Int), (0 : Int)), (0 : Int)), (0 : Int), (0 : Int), (0 : Int), (0 : Int), [], ByteArray.mk #[], ByteArray.mk #[])).snd.fst, ((lookL (allM 
  (List.drop x d)) y).getD (((0 : Int), (0 : Int), (0 : Int), (0 : Int), (0 : Int), (0 : Int), []), [], ByteArray.mk #[], [], ((0 : Int), []), ((0 : Int), (0 : Int)), (((0 : Int), (0 : Int), (0 : Int), (0 : Int), (0 : 
  Int), (0 : Int), (0 : Int), (0 : Int), (0 : Int), (0 : Int), (0 : Int), (0 : Int), (0 : Int), (0 : Int), (0 : Int), (0 : Int)), (0 : Int)), (0 : Int), (0 : Int), (0 : Int), (0 : Int), [], ByteArray.mk #[], ByteArray.mk 
  #[])).snd.snd.fst, ((lookL (allM (List.drop x d)) y).getD (((0 : Int), (0 : Int), (0 : Int), (0 : Int), (0 : Int), (0 : Int), []), [], ByteArray.mk #[], [], ((0 : Int), []), ((0 : Int), (0 : Int)), (((0 : Int), (0 : 
  Int), (0 : Int), (0 : Int), (0 : Int), (0 : Int), (0 : Int), (0 : Int), (0 : Int), (0 : Int), (0 : Int), (0 : Int), (0 : Int), (0 : Int), (0 : Int), (0 : Int)), (0 : Int)), (0 : Int), (0 : Int), (0 : Int), (0 : Int), 
  [], ByteArray.mk #[], ByteArray.mk #[])).snd.snd.snd.fst, (((lookL (allM (List.drop x d)) y).getD (((0 : Int), (0 : Int), (0 : Int), (0 : Int), (0 : Int), (0 : Int), []), [], ByteArray.mk #[], [], ((0 : Int), []), ((0 
  : Int), (0 : Int)), (((0 : Int), (0 : Int), (0 : Int), (0 : Int), (0 : Int), (0 : Int), (0 : Int), (0 : Int), (0 : Int), (0 : Int), (0 : Int), (0 : Int), (0 : Int), (0 : Int), (0 : Int), (0 : Int)), (0 : Int)), (0 : 
  Int), (0 : Int), (0 : Int), (0 : Int), [], ByteArray.mk #[], ByteArray.mk #[])).snd.snd.snd.snd.fst.fst, ((lookL (allM (List.drop x d)) y).getD (((0 : Int), (0 : Int), (0 : Int), (0 : Int), (0 : Int), (0 : Int), []), 
  [], ByteArray.mk #[], [], ((0 : Int), []), ((0 : Int), (0 : Int)), (((0 : Int), (0 : Int), (0 : Int), (0 : Int), (0 : Int), (0 : Int), (0 : Int), (0 : Int), (0 : Int), (0 : Int), (0 : Int), (0 : Int), (0 : Int), (0 : 
  Int), (0 : Int), (0 : Int)), (0 : Int)), (0 : Int), (0 : Int), (0 : Int), (0 : Int), [], ByteArray.mk #[], ByteArray.mk #[])).snd.snd.snd.snd.fst.snd), (((lookL (allM (List.drop x d)) y).getD (((0 : Int), (0 : Int), (0 
  : Int), (0 : Int), (0 : Int), (0 : Int), []), [], ByteArray.mk #[], [], ((0 : Int), []), ((0 : Int), (0 : Int)), (((0 : Int), (0 : Int), (0 : Int), (0 : Int), (0 : Int), (0 : Int), (0 : Int), (0 : Int), (0 : Int), (0 : 
  Int), (0 : Int), (0 : Int), (0 : Int), (0 : Int), (0 : Int), (0 : Int)), (0 : Int)), (0 : Int), (0 : Int), (0 : Int), (0 : Int), [], ByteArray.mk #[], ByteArray.mk #[])).snd.snd.snd.snd.snd.fst.fst, ((lookL (allM 
  (List.drop x d)) y).getD (((0 : Int), (0 : Int), (0 : Int), (0 : Int), (0 : Int), (0 : Int), []), [], ByteArray.mk #[], [], ((0 : Int), []), ((0 : Int), (0 : Int)), (((0 : Int), (0 : Int), (0 : Int), (0 : Int), (0 : 
  Int), (0 : Int), (0 : Int), (0 : Int), (0 : Int), (0 : Int), (0 : Int), (0 : Int), (0 : Int), (0 : Int), (0 : Int), (0 : Int)), (0 : Int)), (0 : Int), (0 : Int), (0 : Int), (0 : Int), [], ByteArray.mk #[], ByteArray.mk 
  #[])).snd.snd.snd.snd.snd.fst.snd), ((((lookL (allM (List.drop x d)) y).getD (((0 : Int), (0 : Int), (0 : Int), (0 : Int), (0 : Int), (0 : Int), []), [], ByteArray.mk #[], [], ((0 : Int), []), ((0 : Int), (0 : Int)), 
  (((0 : Int), (0 : Int), (0 : Int), (0 : Int), (0 : Int), (0 : Int), (0 : Int), (0 : Int), (0 : Int), (0 : Int), (0 : Int), (0 : Int), (0 : Int), (0 : Int), (0 : Int), (0 : Int)), (0 : Int)), (0 : Int), (0 : Int), (0 : 
  Int), (0 : Int), [], ByteArray.mk #[], ByteArray.mk #[])).snd.snd.snd.snd.snd.snd.fst.fst.fst, ((lookL (allM (List.drop x d)) y).getD (((0 : Int), (0 : Int), (0 : Int), (0 : Int), (0 : Int), (0 : Int), []), [], 
  ByteArray.mk #[], [], ((0 : Int), []), ((0 : Int), (0 : Int)), (((0 : Int), (0 : Int), (0 : Int), (0 : Int), (0 : Int), (0 : Int), (0 : Int), (0 : Int), (0 : Int), (0 : Int), (0 : Int), (0 : Int), (0 : Int), (0 : Int), 
  (0 : Int), (0 : Int)), (0 : Int)), (0 : Int), (0 : Int), (0 : Int), (0 : Int), [], ByteArray.mk #[], ByteArray.mk #[])).snd.snd.snd.snd.snd.snd.fst.fst.snd.fst, ((lookL (allM (List.drop x d)) y).getD (((0 : Int), (0 : 
  Int), (0 : Int), (0 : Int), (0 : Int), (0 : Int), []), [], ByteArray.mk #[], [], ((0 : Int), []), ((0 : Int), (0 : Int)), (((0 : Int), (0 : Int), (0 : Int), (0 : Int), (0 : Int), (0 : Int), (0 : Int), (0 : Int), (0 : 
  Int), (0 : Int), (0 : Int), (0 : Int), (0 : Int), (0 : Int), (0 : Int), (0 : Int)), (0 : Int)), (0 : Int), (0 : Int), (0 : Int), (0 : Int), [], ByteArray.mk #[], ByteArray.mk 
  #[])).snd.snd.snd.snd.snd.snd.fst.fst.snd.snd.fst, ((lookL (allM (List.drop x d)) y).getD (((0 : Int), (0 : Int), (0 : Int), (0 : Int), (0 : Int), (0 : Int), []), [], ByteArray.mk #[], [], ((0 : Int), []), ((0 : Int), 
  (0 : Int)), (((0 : Int), (0 : Int), (0 : Int), (0 : Int), (0 : Int), (0 : Int), (0 : Int), (0 : Int), (0 : Int), (0 : Int), (0 : Int), (0 : Int), (0 : Int), (0 : Int), (0 : Int), (0 : Int)), (0 : Int)), (0 : Int), (0 : 
  Int), (0 : Int), (0 : Int), [], ByteArray.mk #[], ByteArray.mk #[])).snd.snd.snd.snd.snd.snd.fst.fst.snd.snd.snd.fst, ((lookL (allM (List.drop x d)) y).getD (((0 : Int), (0 : Int), (0 : Int), (0 : Int), (0 : Int), (0 : 
  Int), []), [], ByteArray.mk #[], [], ((0 : Int), []), ((0 : Int), (0 : Int)), (((0 : Int), (0 : Int), (0 : Int), (0 : Int), (0 : Int), (0 : Int), (0 : Int), (0 : Int), (0 : Int), (0 : Int), (0 : Int), (0 : Int), (0 : 
  Int), (0 : Int), (0 : Int), (0 : Int)), (0 : Int)), (0 : Int), (0 : Int), (0 : Int), (0 : Int), [], ByteArray.mk #[], ByteArray.mk #[])).snd.snd.snd.snd.snd.snd.fst.fst.snd.snd.snd.snd.fst, ((lookL (allM (List.drop x 
  d)) y).getD (((0 : Int), (0 : Int), (0 : Int), (0 : Int), (0 : Int), (0 : Int), []), [], ByteArray.mk #[], [], ((0 : Int), []), ((0 : Int), (0 : Int)), (((0 : Int), (0 : Int), (0 : Int), (0 : Int), (0 : Int), (0 : 
  Int), (0 : Int), (0 : Int), (0 : Int), (0 : Int), (0 : Int), (0 : Int), (0 : Int), (0 : Int), (0 : Int), (0 : Int)), (0 : Int)), (0 : Int), (0 : Int), (0 : Int), (0 : Int), [], ByteArray.mk #[], ByteArray.mk 
  #[])).snd.snd.snd.snd.snd.snd.fst.fst.snd.snd.snd.snd.snd.fst, ((lookL (allM (List.drop x d)) y).getD (((0 : Int), (0 : Int), (0 : Int), (0 : Int), (0 : Int), (0 : Int), []), [], ByteArray.mk #[], [], ((0 : Int), []), 
  ((0 : Int), (0 : Int)), (((0 : Int), (0 : Int), (0 : Int), (0 : Int), (0 : Int), (0 : Int), (0 : Int), (0 : Int), (0 : Int), (0 : Int), (0 : Int), (0 : Int), (0 : Int), (0 : Int), (0 : Int), (0 : Int)), (0 : Int)), (0 
  : Int), (0 : Int), (0 : Int), (0 : Int), [], ByteArray.mk #[], ByteArray.mk #[])).snd.snd.snd.snd.snd.snd.fst.fst.snd.snd.snd.snd.snd.snd.fst, ((lookL (allM (List.drop x d)) y).getD (((0 : Int), (0 : Int), (0 : Int), 
  (0 : Int), (0 : Int), (0 : Int), []), [], ByteArray.mk #[], [], ((0 : Int), []), ((0 : Int), (0 : Int)), (((0 : Int), (0 : Int), (0 : Int), (0 : Int), (0 : Int), (0 : Int), (0 : Int), (0 : Int), (0 : Int), (0 : Int), 
  (0 : Int), (0 : Int), (0 : Int), (0 : Int), (0 : Int), (0 : Int)), (0 : Int)), (0 : Int), (0 : Int), (0 : Int), (0 : Int), [], ByteArray.mk #[], ByteArray.mk 
  #[])).snd.snd.snd.snd.snd.snd.fst.fst.snd.snd.snd.snd.snd.snd.snd.fst, ((lookL (allM (List.drop x d)) y).getD (((0 : Int), (0 : Int), (0 : Int), (0 : Int), (0 : Int), (0 : Int), []), [], ByteArray.mk #[], [], ((0 : 
  Int), []), ((0 : Int), (0 : Int)), (((0 : Int), (0 : Int), (0 : Int), (0 : Int), (0 : Int), (0 : Int), (0 : Int), (0 : Int), (0 : Int), (0 : Int), (0 : Int), (0 : Int), (0 : Int), (0 : Int), (0 : Int), (0 : Int)), (0 : 
  Int)), (0 : Int), (0 : Int), (0 : Int), (0 : Int), [], ByteArray.mk #[], ByteArray.mk #[])).snd.snd.snd.snd.snd.snd.fst.fst.snd.snd.snd.snd.snd.snd.snd.snd.fst, ((lookL (allM (List.drop x d)) y).getD (((0 : Int), (0 : 
  Int), (0 : Int), (0 : Int), (0 : Int), (0 : Int), []), [], ByteArray.mk #[], [], ((0 : Int), []), ((0 : Int), (0 : Int)), (((0 : Int), (0 : Int), (0 : Int), (0 : Int), (0 : Int), (0 : Int), (0 : Int), (0 : Int), (0 : 
  Int), (0 : Int), (0 : Int), (0 : Int), (0 : Int), (0 : Int), (0 : Int), (0 : Int)), (0 : Int)), (0 : Int), (0 : Int), (0 : Int), (0 : Int), [], ByteArray.mk #[], ByteArray.mk 
  #[])).snd.snd.snd.snd.snd.snd.fst.fst.snd.snd.snd.snd.snd.snd.snd.snd.snd.fst, ((lookL (allM (List.drop x d)) y).getD (((0 : Int), (0 : Int), (0 : Int), (0 : Int), (0 : Int), (0 : Int), []), [], ByteArray.mk #[], [], 
  ((0 : Int), []), ((0 : Int), (0 : Int)), (((0 : Int), (0 : Int), (0 : Int), (0 : Int), (0 : Int), (0 : Int), (0 : Int), (0 : Int), (0 : Int), (0 : Int), (0 : Int), (0 : Int), (0 : Int), (0 : Int), (0 : Int), (0 : 
  Int)), (0 : Int)), (0 : Int), (0 : Int), (0 : Int), (0 : Int), [], ByteArray.mk #[], ByteArray.mk #[])).snd.snd.snd.snd.snd.snd.fst.fst.snd.snd.snd.snd.snd.snd.snd.snd.snd.snd.fst, ((lookL (allM (List.drop x d)) 
  y).getD (((0 : Int), (0 : Int), (0 : Int), (0 : Int), (0 : Int), (0 : Int), []), [], ByteArray.mk #[], [], ((0 : Int), []), ((0 : Int), (0 : Int)), (((0 : Int), (0 : Int), (0 : Int), (0 : Int), (0 : Int), (0 : Int), (0 
  : Int), (0 : Int), (0 : Int), (0 : Int), (0 : Int), (0 : Int), (0 : Int), (0 : Int), (0 : Int), (0 : Int)), (0 : Int)), (0 : Int), (0 : Int), (0 : Int), (0 : Int), [], ByteArray.mk #[], ByteArray.mk 
  #[])).snd.snd.snd.snd.snd.snd.fst.fst.snd.snd.snd.snd.snd.snd.snd.snd.snd.snd.snd.fst, ((lookL (allM (List.drop x d)) y).getD (((0 : Int), (0 : Int), (0 : Int), (0 : Int), (0 : Int), (0 : Int), []), [], ByteArray.mk 
  #[], [], ((0 : Int), []), ((0 : Int), (0 : Int)), (((0 : Int), (0 : Int), (0 : Int), (0 : Int), (0 : Int), (0 : Int), (0 : Int), (0 : Int), (0 : Int), (0 : Int), (0 : Int), (0 : Int), (0 : Int), (0 : Int), (0 : Int), 
  (0 : Int)), (0 : Int)), (0 : Int), (0 : Int), (0 : Int), (0 : Int), [], ByteArray.mk #[], ByteArray.mk #[])).snd.snd.snd.snd.snd.snd.fst.fst.snd.snd.snd.snd.snd.snd.snd.snd.snd.snd.snd.snd.fst, ((lookL (allM (List.drop 
  x d)) y).getD (((0 : Int), (0 : Int), (0 : Int), (0 : Int), (0 : Int), (0 : Int), []), [], ByteArray.mk #[], [], ((0 : Int), []), ((0 : Int), (0 : Int)), (((0 : Int), (0 : Int), (0 : Int), (0 : Int), (0 : Int), (0 : 
  Int), (0 : Int), (0 : Int), (0 : Int), (0 : Int), (0 : Int), (0 : Int), (0 : Int), (0 : Int), (0 : Int), (0 : Int)), (0 : Int)), (0 : Int), (0 : Int), (0 : Int), (0 : Int), [], ByteArray.mk #[], ByteArray.mk 
  #[])).snd.snd.snd.snd.snd.snd.fst.fst.snd.snd.snd.snd.snd.snd.snd.snd.snd.snd.snd.snd.snd.fst, ((lookL (allM (List.drop x d)) y).getD (((0 : Int), (0 : Int), (0 : Int), (0 : Int), (0 : Int), (0 : Int), []), [], 
  ByteArray.mk #[], [], ((0 : Int), []), ((0 : Int), (0 : Int)), (((0 : Int), (0 : Int), (0 : Int), (0 : Int), (0 : Int), (0 : Int), (0 : Int), (0 : Int), (0 : Int), (0 : Int), (0 : Int), (0 : Int), (0 : Int), (0 : Int), 
  (0 : Int), (0 : Int)), (0 : Int)), (0 : Int), (0 : Int), (0 : Int), (0 : Int), [], ByteArray.mk #[], ByteArray.mk #[])).snd.snd.snd.snd.snd.snd.fst.fst.snd.snd.snd.snd.snd.snd.snd.snd.snd.snd.snd.snd.snd.snd.fst, 
  ((lookL (allM (List.drop x d)) y).getD (((0 : Int), (0 : Int), (0 : Int), (0 : Int), (0 : Int), (0 : Int), []), [], ByteArray.mk #[], [], ((0 : Int), []), ((0 : Int), (0 : Int)), (((0 : Int), (0 : Int), (0 : Int), (0 : 
  Int), (0 : Int), (0 : Int), (0 : Int), (0 : Int), (0 : Int), (0 : Int), (0 : Int), (0 : Int), (0 : Int), (0 : Int), (0 : Int), (0 : Int)), (0 : Int)), (0 : Int), (0 : Int), (0 : Int), (0 : Int), [], ByteArray.mk #[], 
  ByteArray.mk #[])).snd.snd.snd.snd.snd.snd.fst.fst.snd.snd.snd.snd.snd.snd.snd.snd.snd.snd.snd.snd.snd.snd.snd), ((lookL (allM (List.drop x d)) y).getD (((0 : Int), (0 : Int), (0 : Int), (0 : Int), (0 : Int), (0 : 
  Int), []), [], ByteArray.mk #[], [], ((0 : Int), []), ((0 : Int), (0 : Int)), (((0 : Int), (0 : Int), (0 : Int), (0 : Int), (0 : Int), (0 : Int), (0 : Int), (0 : Int), (0 : Int), (0 : Int), (0 : Int), (0 : Int), (0 : 
  Int), (0 : Int), (0 : Int), (0 : Int)), (0 : Int)), (0 : Int), (0 : Int), (0 : Int), (0 : Int), [], ByteArray.mk #[], ByteArray.mk #[])).snd.snd.snd.snd.snd.snd.fst.snd), ((lookL (allM (List.drop x d)) y).getD (((0 : 
  Int), (0 : Int), (0 : Int), (0 : Int), (0 : Int), (0 : Int), []), [], ByteArray.mk #[], [], ((0 : Int), []), ((0 : Int), (0 : Int)), (((0 : Int), (0 : Int), (0 : Int), (0 : Int), (0 : Int), (0 : Int), (0 : Int), (0 : 
  Int), (0 : Int), (0 : Int), (0 : Int), (0 : Int), (0 : Int), (0 : Int), (0 : Int), (0 : Int)), (0 : Int)), (0 : Int), (0 : Int), (0 : Int), (0 : Int), [], ByteArray.mk #[], ByteArray.mk 
  #[])).snd.snd.snd.snd.snd.snd.snd.fst, ((lookL (allM (List.drop x d)) y).getD (((0 : Int), (0 : Int), (0 : Int), (0 : Int), (0 : Int), (0 : Int), []), [], ByteArray.mk #[], [], ((0 : Int), []), ((0 : Int), (0 : Int)), 
  (((0 : Int), (0 : Int), (0 : Int), (0 : Int), (0 : Int), (0 : Int), (0 : Int), (0 : Int), (0 : Int), (0 : Int), (0 : Int), (0 : Int), (0 : Int), (0 : Int), (0 : Int), (0 : Int)), (0 : Int)), (0 : Int), (0 : Int), (0 : 
  Int), (0 : Int), [], ByteArray.mk #[], ByteArray.mk #[])).snd.snd.snd.snd.snd.snd.snd.snd.fst, ((lookL (allM (List.drop x d)) y).getD (((0 : Int), (0 : Int), (0 : Int), (0 : Int), (0 : Int), (0 : Int), []), [], 
  ByteArray.mk #[], [], ((0 : Int), []), ((0 : Int), (0 : Int)), (((0 : Int), (0 : Int), (0 : Int), (0 : Int), (0 : Int), (0 : Int), (0 : Int), (0 : Int), (0 : Int), (0 : Int), (0 : Int), (0 : Int), (0 : Int), (0 : Int), 
  (0 : Int), (0 : Int)), (0 : Int)), (0 : Int), (0 : Int), (0 : Int), (0 : Int), [], ByteArray.mk #[], ByteArray.mk #[])).snd.snd.snd.snd.snd.snd.snd.snd.snd.fst, ((lookL (allM (List.drop x d)) y).getD (((0 : Int), (0 : 
  Int), (0 : Int), (0 : Int), (0 : Int), (0 : Int), []), [], ByteArray.mk #[], [], ((0 : Int), []), ((0 : Int), (0 : Int)), (((0 : Int), (0 : Int), (0 : Int), (0 : Int), (0 : Int), (0 : Int), (0 : Int), (0 : Int), (0 : 
  Int), (0 : Int), (0 : Int), (0 : Int), (0 : Int), (0 : Int), (0 : Int), (0 : Int)), (0 : Int)), (0 : Int), (0 : Int), (0 : Int), (0 : Int), [], ByteArray.mk #[], ByteArray.mk 
  #[])).snd.snd.snd.snd.snd.snd.snd.snd.snd.snd.fst, ((lookL (allM (List.drop x d)) y).getD (((0 : Int), (0 : Int), (0 : Int), (0 : Int), (0 : Int), (0 : Int), []), [], ByteArray.mk #[], [], ((0 : Int), []), ((0 : Int), 
  (0 : Int)), (((0 : Int), (0 : Int), (0 : Int), (0 : Int), (0 : Int), (0 : Int), (0 : Int), (0 : Int), (0 : Int), (0 : Int), (0 : Int), (0 : Int), (0 : Int), (0 : Int), (0 : Int), (0 : Int)), (0 : Int)), (0 : Int), (0 : 
  Int), (0 : Int), (0 : Int), [], ByteArray.mk #[], ByteArray.mk #[])).snd.snd.snd.snd.snd.snd.snd.snd.snd.snd.snd.fst, ((lookL (allM (List.drop x d)) y).getD (((0 : Int), (0 : Int), (0 : Int), (0 : Int), (0 : Int), (0 : 
  Int), []), [], ByteArray.mk #[], [], ((0 : Int), []), ((0 : Int), (0 : Int)), (((0 : Int), (0 : Int), (0 : Int), (0 : Int), (0 : Int), (0 : Int), (0 : Int), (0 : Int), (0 : Int), (0 : Int), (0 : Int), (0 : Int), (0 : 
  Int), (0 : Int), (0 : Int), (0 : Int)), (0 : Int)), (0 : Int), (0 : Int), (0 : Int), (0 : Int), [], ByteArray.mk #[], ByteArray.mk #[])).snd.snd.snd.snd.snd.snd.snd.snd.snd.snd.snd.snd.fst, ((lookL (allM (List.drop x 
  d)) y).getD (((0 : Int), (0 : Int), (0 : Int), (0 : Int), (0 : Int), (0 : Int), []), [], ByteArray.mk #[], [], ((0 : Int), []), ((0 : Int), (0 : Int)), (((0 : Int), (0 : Int), (0 : Int), (0 : Int), (0 : Int), (0 : 
  Int), (0 : Int), (0 : Int), (0 : Int), (0 : Int), (0 : Int), (0 : Int), (0 : Int), (0 : Int), (0 : Int), (0 : Int)), (0 : Int)), (0 : Int), (0 : Int), (0 : Int), (0 : Int), [], ByteArray.mk #[], ByteArray.mk 
  #[])).snd.snd.snd.snd.snd.snd.snd.snd.snd.snd.snd.snd.snd) = x'.snd ∧ True) ∧ (allM (List.drop x d) = allM (List.drop x d) ∧ True) ∧ (True ∧ True) ∧ (d = d ∧ True) ∧ True ∧ True ∧ List.take ((some (IntKind.i64.wrap 
  ((↑x_1.fst.length : Int) - (1 : Int)))).getD (↑x_1.fst.length : Int)).toNat x_1.fst ++ ((lookL (allM (List.drop x d)) y).getD (((0 : Int), (0 : Int), (0 : Int), (0 : Int), (0 : Int), (0 : Int), []), [], ByteArray.mk 
  #[], [], ((0 : Int), []), ((0 : Int), (0 : Int)), (((0 : Int), (0 : Int), (0 : Int), (0 : Int), (0 : Int), (0 : Int), (0 : Int), (0 : Int), (0 : Int), (0 : Int), (0 : Int), (0 : Int), (0 : Int), (0 : Int), (0 : Int), 
  (0 : Int)), (0 : Int)), (0 : Int), (0 : Int), (0 : Int), (0 : Int), [], ByteArray.mk #[], ByteArray.mk #[])).snd.fst = x'.fst ∧ True) ∧ ((((lookL (allM (List.drop x d)) y).getD (((0 : Int), (0 : Int), (0 : Int), (0 : 
  Int), (0 : Int), (0 : Int), []), [], ByteArray.mk #[], [], ((0 : Int), []), ((0 : Int), (0 : Int)), (((0 : Int), (0 : Int), (0 : Int), (0 : Int), (0 : Int), (0 : Int), (0 : Int), (0 : Int), (0 : Int), (0 : Int), (0 : 
  Int), (0 : Int), (0 : Int), (0 : Int), (0 : Int), (0 : Int)), (0 : Int)), (0 : Int), (0 : Int), (0 : Int), (0 : Int), [], ByteArray.mk #[], ByteArray.mk #[])).fst.snd.fst == (1 : Int)) = false → ∃ (x' : List Int × List 
  (Int × Obj)), FindInv d root l x'.fst x'.snd ∧ x'.fst.length + weight x'.snd (allM d) < x_1.fst.length + weight x_1.snd (allM d) ∧ (True ∧ True) ∧ (True ∧ (True ∧ True) ∧ True ∧ false = false ∧ True ∧ SV.val (Value.map 
  none) = SV.val (Value.map none) ∧ True ∧ d = d ∧ root = root ∧ (l.fst = l.fst ∧ l.snd = l.snd ∧ True) ∧ True) ∧ (l.fst = l.fst ∧ l.snd = l.snd ∧ True) ∧ (insL x_1.snd y ((((lookL (allM (List.drop x d)) y).getD (((0 : 
  Int), (0 : Int), (0 : Int), (0 : Int), (0 : Int), (0 : Int), []), [], ByteArray.mk #[], [], ((0 : Int), []), ((0 : Int), (0 : Int)), (((0 : Int), (0 : Int), (0 : Int), (0 : Int), (0 : Int), (0 : Int), (0 : Int), (0 : 
  Int), (0 : Int), (0 : Int), (0 : Int), (0 : Int), (0 : Int), (0 : Int), (0 : Int), (0 : Int)), (0 : Int)), (0 : Int), (0 : Int), (0 : Int), (0 : Int), [], ByteArray.mk #[], ByteArray.mk #[])).fst.fst, ((lookL (allM 
  (List.drop x d)) y).getD (((0 : Int), (0 : Int), (0 : Int), (0 : Int), (0 : Int), (0 : Int), []), [], ByteArray.mk #[], [], ((0 : Int), []), ((0 : Int), (0 : Int)), (((0 : Int), (0 : Int), (0 : Int), (0 : Int), (0 : 
  Int), (0 : Int), (0 : Int), (0 : Int), (0 : Int), (0 : Int), (0 : Int), (0 : Int), (0 : Int), (0 : Int), (0 : Int), (0 : Int)), (0 : Int)), (0 : Int), (0 : Int), (0 : Int), (0 : Int), [], ByteArray.mk #[], ByteArray.mk 
  #[])).fst.snd.fst, ((lookL (allM (List.drop x d)) y).getD (((0 : Int), (0 : Int), (0 : Int), (0 : Int), (0 : Int), (0 : Int), []), [], ByteArray.mk #[], [], ((0 : Int), []), ((0 : Int), (0 : Int)), (((0 : Int), (0 : 
  Int), (0 : Int), (0 : Int), (0 : Int), (0 : Int), (0 : Int), (0 : Int), (0 : Int), (0 : Int), (0 : Int), (0 : Int), (0 : Int), (0 : Int), (0 : Int), (0 : Int)), (0 : Int)), (0 : Int), (0 : Int), (0 : Int), (0 : Int), 
  [], ByteArray.mk #[], ByteArray.mk #[])).fst.snd.snd.fst, ((lookL (allM (List.drop x d)) y).getD (((0 : Int), (0 : Int), (0 : Int), (0 : Int), (0 : Int), (0 : Int), []), [], ByteArray.mk #[], [], ((0 : Int), []), ((0 : 
  Int), (0 : Int)), (((0 : Int), (0 : Int), (0 : Int), (0 : Int), (0 : Int), (0 : Int), (0 : Int), (0 : Int), (0 : Int), (0 : Int), (0 : Int), (0 : Int), (0 : Int), (0 : Int), (0 : Int), (0 : Int)), (0 : Int)), (0 : 
  Int), (0 : Int), (0 : Int), (0 : Int), [], ByteArray.mk #[], ByteArray.mk #[])).fst.snd.snd.snd.fst, ((lookL (allM (List.drop x d)) y).getD (((0 : Int), (0 : Int), (0 : Int), (0 : Int), (0 : Int), (0 : Int), []), [], 
  ByteArray.mk #[], [], ((0 : Int), []), ((0 : Int), (0 : Int)), (((0 : Int), (0 : Int), (0 : Int), (0 : Int), (0 : Int), (0 : Int), (0 : Int), (0 : Int), (0 : Int), (0 : Int), (0 : Int), (0 : Int), (0 : Int), (0 : Int), 
  (0 : Int), (0 : Int)), (0 : Int)), (0 : Int), (0 : Int), (0 : Int), (0 : Int), [], ByteArray.mk #[], ByteArray.mk #[])).fst.snd.snd.snd.snd.fst, ((lookL (allM (List.drop x d)) y).getD (((0 : Int), (0 : Int), (0 : Int), 
  (0 : Int), (0 : Int), (0 : Int), []), [], ByteArray.mk #[], [], ((0 : Int), []), ((0 : Int), (0 : Int)), (((0 : Int), (0 : Int), (0 : Int), (0 : Int), (0 : Int), (0 : Int), (0 : Int), (0 : Int), (0 : Int), (0 : Int), 
  (0 : Int), (0 : Int), (0 : Int), (0 : Int), (0 : Int), (0 : Int)), (0 : Int)), (0 : Int), (0 : Int), (0 : Int), (0 : Int), [], ByteArray.mk #[], ByteArray.mk #[])).fst.snd.snd.snd.snd.snd.fst, ((lookL (allM (List.drop 
  x d)) y).getD (((0 : Int), (0 : Int), (0 : Int), (0 : Int), (0 : Int), (0 : Int), []), [], ByteArray.mk #[], [], ((0 : Int), []), ((0 : Int), (0 : Int)), (((0 : Int), (0 : Int), (0 : Int), (0 : Int), (0 : Int), (0 : 
  Int), (0 : Int), (0 : Int), (0 : Int), (0 : Int), (0 : Int), (0 : Int), (0 : Int), (0 : Int), (0 : Int), (0 : Int)), (0 : Int)), (0 : Int), (0 : Int), (0 : Int), (0 : Int), [], ByteArray.mk #[], ByteArray.mk 
  #[])).fst.snd.snd.snd.snd.snd.snd), ((lookL (allM (List.drop x d)) y).getD (((0 : Int), (0 : Int), (0 : Int), (0 : Int), (0 : Int), (0 : Int), []), [], ByteArray.mk #[], [], ((0 : Int), []), ((0 : Int), (0 : Int)), 
  (((0 : Int), (0 : Int), (0 : Int), (0 : Int), (0 : Int), (0 : Int), (0 : Int), (0 : Int), (0 : Int), (0 : Int), (0 : Int), (0 : Int), (0 : Int), (0 : Int), (0 : Int), (0 : Int)), (0 : Int)), (0 : Int), (0 : Int), (0 : 
  Int), (0 : Int), [], ByteArray.mk #[], ByteArray.mk #[])).snd.fst, ((lookL (allM (List.drop x d)) y).getD (((0 : Int), (0 : Int), (0 : Int), (0 : Int), (0 : Int), (0 : Int), []), [], ByteArray.mk #[], [], ((0 : Int), 
  []), ((0 : Int), (0 : Int)), (((0 : Int), (0 : Int), (0 : Int), (0 : Int), (0 : Int), (0 : Int), (0 : Int), (0 : Int), (0 : Int), (0 : Int), (0 : Int), (0 : Int), (0 : Int), (0 : Int), (0 : Int), (0 : Int)), (0 : 
  Int)), (0 : Int), (0 : Int), (0 : Int), (0 : Int), [], ByteArray.mk #[], ByteArray.mk #[])).snd.snd.fst, ((lookL (allM (List.drop x d)) y).getD (((0 : Int), (0 : Int), (0 : Int), (0 : Int), (0 : Int), (0 : Int), []), 
  [], ByteArray.mk #[], [], ((0 : Int), []), ((0 : Int), (0 : Int)), (((0 : Int), (0 : Int), (0 : Int), (0 : Int), (0 : Int), (0 : Int), (0 : Int), (0 : Int), (0 : Int), (0 : Int), (0 : Int), (0 : Int), (0 : Int), (0 : 
  Int), (0 : Int), (0 : Int)), (0 : Int)), (0 : Int), (0 : Int), (0 : Int), (0 : Int), [], ByteArray.mk #[], ByteArray.mk #[])).snd.snd.snd.fst, (((lookL (allM (List.drop x d)) y).getD (((0 : Int), (0 : Int), (0 : Int), 
  (0 : Int), (0 : Int), (0 : Int), []), [], ByteArray.mk #[], [], ((0 : Int), []), ((0 : Int), (0 : Int)), (((0 : Int), (0 : Int), (0 : Int), (0 : Int), (0 : Int), (0 : Int), (0 : Int), (0 : Int), (0 : Int), (0 : Int), 
  (0 : Int), (0 : Int), (0 : Int), (0 : Int), (0 : Int), (0 : Int)), (0 : Int)), (0 : Int), (0 : Int), (0 : Int), (0 : Int), [], ByteArray.mk #[], ByteArray.mk #[])).snd.snd.snd.snd.fst.fst, ((lookL (allM (List.drop x 
  d)) y).getD (((0 : Int), (0 : Int), (0 : Int), (0 : Int), (0 : Int), (0 : Int), []), [], ByteArray.mk #[], [], ((0 : Int), []), ((0 : Int), (0 : Int)), (((0 : Int), (0 : Int), (0 : Int), (0 : Int), (0 : Int), (0 : 
  Int), (0 : Int), (0 : Int), (0 : Int), (0 : Int), (0 : Int), (0 : Int), (0 : Int), (0 : Int), (0 : Int), (0 : Int)), (0 : Int)), (0 : Int), (0 : Int), (0 : Int), (0 : Int), [], ByteArray.mk #[], ByteArray.mk 
  #[])).snd.snd.snd.snd.fst.snd), (((lookL (allM (List.drop x d)) y).getD (((0 : Int), (0 : Int), (0 : Int), (0 : Int), (0 : Int), (0 : Int), []), [], ByteArray.mk #[], [], ((0 : Int), []), ((0 : Int), (0 : Int)), (((0 : 
  Int), (0 : Int), (0 : Int), (0 : Int), (0 : Int), (0 : Int), (0 : Int), (0 : Int), (0 : Int), (0 : Int), (0 : Int), (0 : Int), (0 : Int), (0 : Int), (0 : Int), (0 : Int)), (0 : Int)), (0 : Int), (0 : Int), (0 : Int), 
  (0 : Int), [], ByteArray.mk #[], ByteArray.mk #[])).snd.snd.snd.snd.snd.fst.fst, ((lookL (allM (List.drop x d)) y).getD (((0 : Int), (0 : Int), (0 : Int), (0 : Int), (0 : Int), (0 : Int), []), [], ByteArray.mk #[], [], 
  ((0 : Int), []), ((0 : Int), (0 : Int)), (((0 : Int), (0 : Int), (0 : Int), (0 : Int), (0 : Int), (0 : Int), (0 : Int), (0 : Int), (0 : Int), (0 : Int), (0 : Int), (0 : Int), (0 : Int), (0 : Int), (0 : Int), (0 : 
  Int)), (0 : Int)), (0 : Int), (0 : Int), (0 : Int), (0 : Int), [], ByteArray.mk #[], ByteArray.mk #[])).snd.snd.snd.snd.snd.fst.snd), ((((lookL (allM (List.drop x d)) y).getD (((0 : Int), (0 : Int), (0 : Int), (0 : 
  Int), (0 : Int), (0 : Int), []), [], ByteArray.mk #[], [], ((0 : Int), []), ((0 : Int), (0 : Int)), (((0 : Int), (0 : Int), (0 : Int), (0 : Int), (0 : Int), (0 : Int), (0 : Int), (0 : Int), (0 : Int), (0 : Int), (0 : 
  Int), (0 : Int), (0 : Int), (0 : Int), (0 : Int), (0 : Int)), (0 : Int)), (0 : Int), (0 : Int), (0 : Int), (0 : Int), [], ByteArray.mk #[], ByteArray.mk #[])).snd.snd.snd.snd.snd.snd.fst.fst.fst, ((lookL (allM 
  (List.drop x d)) y).getD (((0 : Int), (0 : Int), (0 : Int), (0 : Int), (0 : Int), (0 : Int), []), [], ByteArray.mk #[], [], ((0 : Int), []), ((0 : Int), (0 : Int)), (((0 : Int), (0 : Int), (0 : Int), (0 : Int), (0 : 
  Int), (0 : Int), (0 : Int), (0 : Int), (0 : Int), (0 : Int), (0 : Int), (0 : Int), (0 : Int), (0 : Int), (0 : Int), (0 : Int)), (0 : Int)), (0 : Int), (0 : Int), (0 : Int), (0 : Int), [], ByteArray.mk #[], ByteArray.mk 
  #[])).snd.snd.snd.snd.snd.snd.fst.fst.snd.fst, ((lookL (allM (List.drop x d)) y).getD (((0 : Int), (0 : Int), (0 : Int), (0 : Int), (0 : Int), (0 : Int), []), [], ByteArray.mk #[], [], ((0 : Int), []), ((0 : Int), (0 : 
  Int)), (((0 : Int), (0 : Int), (0 : Int), (0 : Int), (0 : Int), (0 : Int), (0 : Int), (0 : Int), (0 : Int), (0 : Int), (0 : Int), (0 : Int), (0 : Int), (0 : Int), (0 : Int), (0 : Int)), (0 : Int)), (0 : Int), (0 : 
  Int), (0 : Int), (0 : Int), [], ByteArray.mk #[], ByteArray.mk #[])).snd.snd.snd.snd.snd.snd.fst.fst.snd.snd.fst, ((lookL (allM (List.drop x d)) y).getD (((0 : Int), (0 : Int), (0 : Int), (0 : Int), (0 : Int), (0 : 
  Int), []), [], ByteArray.mk #[], [], ((0 : Int), []), ((0 : Int), (0 : Int)), (((0 : Int), (0 : Int), (0 : Int), (0 : Int), (0 : Int), (0 : Int), (0 : Int), (0 : Int), (0 : Int), (0 : Int), (0 : Int), (0 : Int), (0 : 
  Int), (0 : Int), (0 : Int), (0 : Int)), (0 : Int)), (0 : Int), (0 : Int), (0 : Int), (0 : Int), [], ByteArray.mk #[], ByteArray.mk #[])).snd.snd.snd.snd.snd.snd.fst.fst.snd.snd.snd.fst, ((lookL (allM (List.drop x d)) 
  y).getD (((0 : Int), (0 : Int), (0 : Int), (0 : Int), (0 : Int), (0 : Int), []), [], ByteArray.mk #[], [], ((0 : Int), []), ((0 : Int), (0 : Int)), (((0 : Int), (0 : Int), (0 : Int), (0 : Int), (0 : Int), (0 : Int), (0 
  : Int), (0 : Int), (0 : Int), (0 : Int), (0 : Int), (0 : Int), (0 : Int), (0 : Int), (0 : Int), (0 : Int)), (0 : Int)), (0 : Int), (0 : Int), (0 : Int), (0 : Int), [], ByteArray.mk #[], ByteArray.mk 
  #[])).snd.snd.snd.snd.snd.snd.fst.fst.snd.snd.snd.snd.fst, ((lookL (allM (List.drop x d)) y).getD (((0 : Int), (0 : Int), (0 : Int), (0 : Int), (0 : Int), (0 : Int), []), [], ByteArray.mk #[], [], ((0 : Int), []), ((0 
  : Int), (0 : Int)), (((0 : Int), (0 : Int), (0 : Int), (0 : Int), (0 : Int), (0 : Int), (0 : Int), (0 : Int), (0 : Int), (0 : Int), (0 : Int), (0 : Int), (0 : Int), (0 : Int), (0 : Int), (0 : Int)), (0 : Int)), (0 : 
  Int), (0 : Int), (0 : Int), (0 : Int), [], ByteArray.mk #[], ByteArray.mk #[])).snd.snd.snd.snd.snd.snd.fst.fst.snd.snd.snd.snd.snd.fst, ((lookL (allM (List.drop x d)) y).getD (((0 : Int), (0 : Int), (0 : Int), (0 : 
  Int), (0 : Int), (0 : Int), []), [], ByteArray.mk #[], [], ((0 : Int), []), ((0 : Int), (0 : Int)), (((0 : Int), (0 : Int), (0 : Int), (0 : Int), (0 : Int), (0 : Int), (0 : Int), (0 : Int), (0 : Int), (0 : Int), (0 : 
  Int), (0 : Int), (0 : Int), (0 : Int), (0 : Int), (0 : Int)), (0 : Int)), (0 : Int), (0 : Int), (0 : Int), (0 : Int), [], ByteArray.mk #[], ByteArray.mk 
  #[])).snd.snd.snd.snd.snd.snd.fst.fst.snd.snd.snd.snd.snd.snd.fst, ((lookL (allM (List.drop x d)) y).getD (((0 : Int), (0 : Int), (0 : Int), (0 : Int), (0 : Int), (0 : Int), []), [], ByteArray.mk #[], [], ((0 : Int), 
  []), ((0 : Int), (0 : Int)), (((0 : Int), (0 : Int), (0 : Int), (0 : Int), (0 : Int), (0 : Int), (0 : Int), (0 : Int), (0 : Int), (0 : Int), (0 : Int), (0 : Int), (0 : Int), (0 : Int), (0 : Int), (0 : Int)), (0 : 
  Int)), (0 : Int), (0 : Int), (0 : Int), (0 : Int), [], ByteArray.mk #[], ByteArray.mk #[])).snd.snd.snd.snd.snd.snd.fst.fst.snd.snd.snd.snd.snd.snd.snd.fst, ((lookL (allM (List.drop x d)) y).getD (((0 : Int), (0 : 
  Int), (0 : Int), (0 : Int), (0 : Int), (0 : Int), []), [], ByteArray.mk #[], [], ((0 : Int), []), ((0 : Int), (0 : Int)), (((0 : Int), (0 : Int), (0 : Int), (0 : Int), (0 : Int), (0 : Int), (0 : Int), (0 : Int), (0 : 
  Int), (0 : Int), (0 : Int), (0 : Int), (0 : Int), (0 : Int), (0 : Int), (0 : Int)), (0 : Int)), (0 : Int), (0 : Int), (0 : Int), (0 : Int), [], ByteArray.mk #[], ByteArray.mk 
  #[])).snd.snd.snd.snd.snd.snd.fst.fst.snd.snd.snd.snd.snd.snd.snd.snd.fst, ((lookL (allM (List.drop x d)) y).getD (((0 : Int), (0 : Int), (0 : Int), (0 : Int), (0 : Int), (0 : Int), []), [], ByteArray.mk #[], [], ((0 : 
  Int), []), ((0 : Int), (0 : Int)), (((0 : Int), (0 : Int), (0 : Int), (0 : Int), (0 : Int), (0 : Int), (0 : Int), (0 : Int), (0 : Int), (0 : Int), (0 : Int), (0 : Int), (0 : Int), (0 : Int), (0 : Int), (0 : Int)), (0 : 
  Int)), (0 : Int), (0 : Int), (0 : Int), (0 : Int), [], ByteArray.mk #[], ByteArray.mk #[])).snd.snd.snd.snd.snd.snd.fst.fst.snd.snd.snd.snd.snd.snd.snd.snd.snd.fst, ((lookL (allM (List.drop x d)) y).getD (((0 : Int), 
  (0 : Int), (0 : Int), (0 : Int), (0 : Int), (0 : Int), []), [], ByteArray.mk #[], [], ((0 : Int), []), ((0 : Int), (0 : Int)), (((0 : Int), (0 : Int), (0 : Int), (0 : Int), (0 : Int), (0 : Int), (0 : Int), (0 : Int), 
  (0 : Int), (0 : Int), (0 : Int), (0 : Int), (0 : Int), (0 : Int), (0 : Int), (0 : Int)), (0 : Int)), (0 : Int), (0 : Int), (0 : Int), (0 : Int), [], ByteArray.mk #[], ByteArray.mk 
  #[])).snd.snd.snd.snd.snd.snd.fst.fst.snd.snd.snd.snd.snd.snd.snd.snd.snd.snd.fst, ((lookL (allM (List.drop x d)) y).getD (((0 : Int), (0 : Int), (0 : Int), (0 : Int), (0 : Int), (0 : Int), []), [], ByteArray.mk #[], 
  [], ((0 : Int), []), ((0 : Int), (0 : Int)), (((0 : Int), (0 : Int), (0 : Int), (0 : Int), (0 : Int), (0 : Int), (0 : Int), (0 : Int), (0 : Int), (0 : Int), (0 : Int), (0 : Int), (0 : Int), (0 : Int), (0 : Int), (0 : 
  Int)), (0 : Int)), (0 : Int), (0 : Int), (0 : Int), (0 : Int), [], ByteArray.mk #[], ByteArray.mk #[])).snd.snd.snd.snd.snd.snd.fst.fst.snd.snd.snd.snd.snd.snd.snd.snd.snd.snd.snd.fst, ((lookL (allM (List.drop x d)) 
  y).getD (((0 : Int), (0 : Int), (0 : Int), (0 : Int), (0 : Int), (0 : Int), []), [], ByteArray.mk #[], [], ((0 : Int), []), ((0 : Int), (0 : Int)), (((0 : Int), (0 : Int), (0 : Int), (0 : Int), (0 : Int), (0 : Int), (0 
  : Int), (0 : Int), (0 : Int), (0 : Int), (0 : Int), (0 : Int), (0 : Int), (0 : Int), (0 : Int), (0 : Int)), (0 : Int)), (0 : Int), (0 : Int), (0 : Int), (0 : Int), [], ByteArray.mk #[], ByteArray.mk 
  #[])).snd.snd.snd.snd.snd.snd.fst.fst.snd.snd.snd.snd.snd.snd.snd.snd.snd.snd.snd.snd.fst, ((lookL (allM (List.drop x d)) y).getD (((0 : Int), (0 : Int), (0 : Int), (0 : Int), (0 : Int), (0 : Int), []), [], 
  ByteArray.mk #[], [], ((0 : Int), []), ((0 : Int), (0 : Int)), (((0 : Int), (0 : Int), (0 : Int), (0 : Int), (0 : Int), (0 : Int), (0 : Int), (0 : Int), (0 : Int), (0 : Int), (0 : Int), (0 : Int), (0 : Int), (0 : Int), 
  (0 : Int), (0 : Int)), (0 : Int)), (0 : Int), (0 : Int), (0 : Int), (0 : Int), [], ByteArray.mk #[], ByteArray.mk #[])).snd.snd.snd.snd.snd.snd.fst.fst.snd.snd.snd.snd.snd.snd.snd.snd.snd.snd.snd.snd.snd.fst, ((lookL 
  (allM (List.drop x d)) y).getD (((0 : Int), (0 : Int), (0 : Int), (0 : Int), (0 : Int), (0 : Int), []), [], ByteArray.mk #[], [], ((0 : Int), []), ((0 : Int), (0 : Int)), (((0 : Int), (0 : Int), (0 : Int), (0 : Int), 
  (0 : Int), (0 : Int), (0 : Int), (0 : Int), (0 : Int), (0 : Int), (0 : Int), (0 : Int), (0 : Int), (0 : Int), (0 : Int), (0 : Int)), (0 : Int)), (0 : Int), (0 : Int), (0 : Int), (0 : Int), [], ByteArray.mk #[], 
  ByteArray.mk #[])).snd.snd.snd.snd.snd.snd.fst.fst.snd.snd.snd.snd.snd.snd.snd.snd.snd.snd.snd.snd.snd.snd.fst, ((lookL (allM (List.drop x d)) y).getD (((0 : Int), (0 : Int), (0 : Int), (0 : Int), (0 : Int), (0 : Int), 
  []), [], ByteArray.mk #[], [], ((0 : Int), []), ((0 : Int), (0 : Int)), (((0 : Int), (0 : Int), (0 : Int), (0 : Int), (0 : Int), (0 : Int), (0 : Int), (0 : Int), (0 : Int), (0 : Int), (0 : Int), (0 : Int), (0 : Int), 
  (0 : Int), (0 : Int), (0 : Int)), (0 : Int)), (0 : Int), (0 : Int), (0 : Int), (0 : Int), [], ByteArray.mk #[], ByteArray.mk 
  #[])).snd.snd.snd.snd.snd.snd.fst.fst.snd.snd.snd.snd.snd.snd.snd.snd.snd.snd.snd.snd.snd.snd.snd), ((lookL (allM (List.drop x d)) y).getD (((0 : Int), (0 : Int), (0 : Int), (0 : Int), (0 : Int), (0 : Int), []), [], 
  ByteArray.mk #[], [], ((0 : Int), []), ((0 : Int), (0 : Int)), (((0 : Int), (0 : Int), (0 : Int), (0 : Int), (0 : Int), (0 : Int), (0 : Int), (0 : Int), (0 : Int), (0 : Int), (0 : Int), (0 : Int), (0 : Int), (0 : Int), 
  (0 : Int), (0 : Int)), (0 : Int)), (0 : Int), (0 : Int), (0 : Int), (0 : Int), [], ByteArray.mk #[], ByteArray.mk #[])).snd.snd.snd.snd.snd.snd.fst.snd), ((lookL (allM (List.drop x d)) y).getD (((0 : Int), (0 : Int), 
  (0 : Int), (0 : Int), (0 : Int), (0 : Int), []), [], ByteArray.mk #[], [], ((0 : Int), []), ((0 : Int), (0 : Int)), (((0 : Int), (0 : Int), (0 : Int), (0 : Int), (0 : Int), (0 : Int), (0 : Int), (0 : Int), (0 : Int), 
  (0 : Int), (0 : Int), (0 : Int), (0 : Int), (0 : Int), (0 : Int), (0 : Int)), (0 : Int)), (0 : Int), (0 : Int), (0 : Int), (0 : Int), [], ByteArray.mk #[], ByteArray.mk #[])).snd.snd.snd.snd.snd.snd.snd.fst, ((lookL 
  (allM (List.drop x d)) y).getD (((0 : Int), (0 : Int), (0 : Int), (0 : Int), (0 : Int), (0 : Int), []), [], ByteArray.mk #[], [], ((0 : Int), []), ((0 : Int), (0 : Int)), (((0 : Int), (0 : Int), (0 : Int), (0 : Int), 
  (0 : Int), (0 : Int), (0 : Int), (0 : Int), (0 : Int), (0 : Int), (0 : Int), (0 : Int), (0 : Int), (0 : Int), (0 : Int), (0 : Int)), (0 : Int)), (0 : Int), (0 : Int), (0 : Int), (0 : Int), [], ByteArray.mk #[], 
  ByteArray.mk #[])).snd.snd.snd.snd.snd.snd.snd.snd.fst, ((lookL (allM (List.drop x d)) y).getD (((0 : Int), (0 : Int), (0 : Int), (0 : Int), (0 : Int), (0 : Int), []), [], ByteArray.mk #[], [], ((0 : Int), []), ((0 : 
  Int), (0 : Int)), (((0 : Int), (0 : Int), (0 : Int), (0 : Int), (0 : Int), (0 : Int), (0 : Int), (0 : Int), (0 : Int), (0 : Int), (0 : Int), (0 : Int), (0 : Int), (0 : Int), (0 : Int), (0 : Int)), (0 : Int)), (0 : 
  Int), (0 : Int), (0 : Int), (0 : Int), [], ByteArray.mk #[], ByteArray.mk #[])).snd.snd.snd.snd.snd.snd.snd.snd.snd.fst, ((lookL (allM (List.drop x d)) y).getD (((0 : Int), (0 : Int), (0 : Int), (0 : Int), (0 : Int), 
  (0 : Int), []), [], ByteArray.mk #[], [], ((0 : Int), []), ((0 : Int), (0 : Int)), (((0 : Int), (0 : Int), (0 : Int), (0 : Int), (0 : Int), (0 : Int), (0 : Int), (0 : Int), (0 : Int), (0 : Int), (0 : Int), (0 : Int), 
  (0 : Int), (0 : Int), (0 : Int), (0 : Int)), (0 : Int)), (0 : Int), (0 : Int), (0 : Int), (0 : Int), [], ByteArray.mk #[], ByteArray.mk #[])).snd.snd.snd.snd.snd.snd.snd.snd.snd.snd.fst, ((lookL (allM (List.drop x d)) 
  y).getD (((0 : Int), (0 : Int), (0 : Int), (0 : Int), (0 : Int), (0 : Int), []), [], ByteArray.mk #[], [], ((0 : Int), []), ((0 : Int), (0 : Int)), (((0 : Int), (0 : Int), (0 : Int), (0 : Int), (0 : Int), (0 : Int), (0 
  : Int), (0 : Int), (0 : Int), (0 : Int), (0 : Int), (0 : Int), (0 : Int), (0 : Int), (0 : Int), (0 : Int)), (0 : Int)), (0 : Int), (0 : Int), (0 : Int), (0 : Int), [], ByteArray.mk #[], ByteArray.mk 
  #[])).snd.snd.snd.snd.snd.snd.snd.snd.snd.snd.snd.fst, ((lookL (allM (List.drop x d)) y).getD (((0 : Int), (0 : Int), (0 : Int), (0 : Int), (0 : Int), (0 : Int), []), [], ByteArray.mk #[], [], ((0 : Int), []), ((0 : 
  Int), (0 : Int)), (((0 : Int), (0 : Int), (0 : Int), (0 : Int), (0 : Int), (0 : Int), (0 : Int), (0 : Int), (0 : Int), (0 : Int), (0 : Int), (0 : Int), (0 : Int), (0 : Int), (0 : Int), (0 : Int)), (0 : Int)), (0 : 
  Int), (0 : Int), (0 : Int), (0 : Int), [], ByteArray.mk #[], ByteArray.mk #[])).snd.snd.snd.snd.snd.snd.snd.snd.snd.snd.snd.snd.fst, ((lookL (allM (List.drop x d)) y).getD (((0 : Int), (0 : Int), (0 : Int), (0 : Int), 
  (0 : Int), (0 : Int), []), [], ByteArray.mk #[], [], ((0 : Int), []), ((0 : Int), (0 : Int)), (((0 : Int), (0 : Int), (0 : Int), (0 : Int), (0 : Int), (0 : Int), (0 : Int), (0 : Int), (0 : Int), (0 : Int), (0 : Int), 
  (0 : Int), (0 : Int), (0 : Int), (0 : Int), (0 : Int)), (0 : Int)), (0 : Int), (0 : Int), (0 : Int), (0 : Int), [], ByteArray.mk #[], ByteArray.mk #[])).snd.snd.snd.snd.snd.snd.snd.snd.snd.snd.snd.snd.snd) = x'.snd ∧ 
  True) ∧ (allM (List.drop x d) = allM (List.drop x d) ∧ True) ∧ (True ∧ True) ∧ (d = d ∧ True) ∧ True ∧ True ∧ List.take ((some (IntKind.i64.wrap ((↑x_1.fst.length : Int) - (1 : Int)))).getD (↑x_1.fst.length : 
  Int)).toNat x_1.fst = x'.fst ∧ True))) ∧ ((!plainL (((lookL (allM (List.drop x d)) y).getD (((0 : Int), (0 : Int), (0 : Int), (0 : Int), (0 : Int), (0 : Int), []), [], ByteArray.mk #[], [], ((0 : Int), []), ((0 : Int), 
  (0 : Int)), (((0 : Int), (0 : Int), (0 : Int), (0 : Int), (0 : Int), (0 : Int), (0 : Int), (0 : Int), (0 : Int), (0 : Int), (0 : Int), (0 : Int), (0 : Int), (0 : Int), (0 : Int), (0 : Int)), (0 : Int)), (0 : Int), (0 : 
  Int), (0 : Int), (0 : Int), [], ByteArray.mk #[], ByteArray.mk #[])).fst.snd.snd.snd.snd.snd.fst, ((lookL (allM (List.drop x d)) y).getD (((0 : Int), (0 : Int), (0 : Int), (0 : Int), (0 : Int), (0 : Int), []), [], 
  ByteArray.mk #[], [], ((0 : Int), []), ((0 : Int), (0 : Int)), (((0 : Int), (0 : Int), (0 : Int), (0 : Int), (0 : Int), (0 : Int), (0 : Int), (0 : Int), (0 : Int), (0 : Int), (0 : Int), (0 : Int), (0 : Int), (0 : Int), 
  (0 : Int), (0 : Int)), (0 : Int)), (0 : Int), (0 : Int), (0 : Int), (0 : Int), [], ByteArray.mk #[], ByteArray.mk #[])).fst.snd.snd.snd.snd.snd.snd)) = !false → ∃ (x' : List Int × List (Int × Obj)), FindInv d root l 
  x'.fst x'.snd ∧ x'.fst.length + weight x'.snd (allM d) < x_1.fst.length + weight x_1.snd (allM d) ∧ (True ∧ True) ∧ (True ∧ (True ∧ True) ∧ True ∧ false = false ∧ True ∧ SV.val (Value.map none) = SV.val (Value.map 
  none) ∧ True ∧ d = d ∧ root = root ∧ (l.fst = l.fst ∧ l.snd = l.snd ∧ True) ∧ True) ∧ (l.fst = l.fst ∧ l.snd = l.snd ∧ True) ∧ (x_1.snd = x'.snd ∧ True) ∧ (allM (List.drop x d) = allM (List.drop x d) ∧ True) ∧ (True ∧ 
  True) ∧ (d = d ∧ True) ∧ True ∧ True ∧ List.take ((some (IntKind.i64.wrap ((↑x_1.fst.length : Int) - (1 : Int)))).getD (↑x_1.fst.length : Int)).toNat x_1.fst = x'.fst ∧ True)) ∧ ((!(lookL (allM (List.drop x d)) 
  y).isSome) = !false → ∃ (x' : List Int × List (Int × Obj)), FindInv d root l x'.fst x'.snd ∧ x'.fst.length + weight x'.snd (allM d) < x_1.fst.length + weight x_1.snd (allM d) ∧ (True ∧ True) ∧ (True ∧ (True ∧ True) ∧ 
  True ∧ false = false ∧ True ∧ SV.val (Value.map none) = SV.val (Value.map none) ∧ True ∧ d = d ∧ root = root ∧ (l.fst = l.fst ∧ l.snd = l.snd ∧ True) ∧ True) ∧ (l.fst = l.fst ∧ l.snd = l.snd ∧ True) ∧ (x_1.snd = x'.snd 
  ∧ True) ∧ (allM (List.drop x d) = allM (List.drop x d) ∧ True) ∧ (True ∧ True) ∧ (d = d ∧ True) ∧ True ∧ True ∧ List.take ((some (IntKind.i64.wrap ((↑x_1.fst.length : Int) - (1 : Int)))).getD (↑x_1.fst.length : 
  Int)).toNat x_1.fst = x'.fst ∧ True)) ∧ ((lookL x_1.snd y).isSome = !false → ∃ (x' : List Int × List (Int × Obj)), FindInv d root l x'.fst x'.snd ∧ x'.fst.length + weight x'.snd (allM d) < x_1.fst.length + weight 
  x_1.snd (allM d) ∧ (True ∧ True) ∧ (True ∧ (True ∧ True) ∧ True ∧ false = false ∧ True ∧ SV.val (Value.map none) = SV.val (Value.map none) ∧ True ∧ d = d ∧ root = root ∧ (l.fst = l.fst ∧ l.snd = l.snd ∧ True) ∧ True) ∧ 
  (l.fst = l.fst ∧ l.snd = l.snd ∧ True) ∧ (x_1.snd = x'.snd ∧ True) ∧ (allM (List.drop x d) = allM (List.drop x d) ∧ True) ∧ (True ∧ True) ∧ (d = d ∧ True) ∧ True ∧ True ∧ List.take ((some (IntKind.i64.wrap 
  ((↑x_1.fst.length : Int) - (1 : Int)))).getD (↑x_1.fst.length : Int)).toNat x_1.fst = x'.fst ∧ True)) ∧ (decide ((↑x_1.fst.length : Int) > (0 : Int)) = false → ∃ (y : List (Int × Obj)), FindPost (d, root, l).fst (d, 
  root, l).snd.fst (d, root, l).snd.snd y ∧ True ∧ (True ∧ (x_1.snd = y ∧ True) ∧ True) ∧ True ∧ True)))) := by kernel_rfl
end Go.Proofs.Ytlnclaggmjhbfaa
namespace Go.Proofs.Ytlnclaggmjhbfaa
open Go.Proofs.Ytlnclaggmjhbfaa.Gx
set_option maxRecDepth 100000
set_option linter.unusedSimpArgs false
set_option linter.unusedVariables false
section
variable {α : Type}
theorem look_ins (l : List (Int × α)) (k : Int) (v : α) (j : Int) : lookL (insL l k v) j = if k = j then some v else lookL l j := by
  induction l with
  | nil => simp [insL, lookL]
  | cons x l ih =>
    simp only [insL]
    by_cases h : x.1 = k
    · rw [if_pos h]
      simp only [lookL]
      by_cases h2 : k = j
      · rw [if_pos h2, if_pos h2]
      · rw [if_neg h2, if_neg h2, if_neg (by rw [h]; exact h2)]
    · rw [if_neg h]
      simp only [lookL, ih]
      by_cases h2 : x.1 = j
      · rw [if_pos h2, if_pos h2, if_neg (by intro e; exact h (h2.trans e.symm))]
      · rw [if_neg h2, if_neg h2]
theorem ins_new (l : List (Int × α)) (k : Int) (v : α) (h : k ∉ l.map (·.1)) : insL l k v = l ++ [(k, v)] := by
  induction l with
  | nil => rfl
  | cons x l ih =>
    simp only [List.map_cons, List.mem_cons, not_or] at h
    simp only [insL]
    rw [if_neg (fun e => h.1 e.symm), ih h.2]; rfl
theorem ins_mem (l : List (Int × α)) (k : Int) (v : α) : ∀ p ∈ insL l k v, p = (k, v) ∨ p ∈ l := by
  induction l with
  | nil => intro p hp; simp [insL] at hp; exact .inl hp
  | cons x l ih =>
    intro p hp
    simp only [insL] at hp
    split at hp
    · simp only [List.mem_cons] at hp ⊢
      rcases hp with h | h
      · exact .inl h
      · exact .inr (.inr h)
    · simp only [List.mem_cons] at hp ⊢
      rcases hp with h | h
      · exact .inr (.inl h)
      · rcases ih p h with h | h
        · exact .inl h
        · exact .inr (.inr h)
theorem ins_len (l : List (Int × α)) (k : Int) (v : α) : (insL l k v).length ≤ l.length + 1 := by
  induction l with
  | nil => simp [insL]
  | cons x l ih => simp only [insL]; split <;> simp only [List.length_cons] <;> omega
theorem look_mem {l : List (Int × α)} {k : Int} {v : α} (h : lookL l k = some v) : (k, v) ∈ l := by
  induction l with
  | nil => cases h
  | cons x l ih =>
    simp only [lookL] at h
    split at h
    · rename_i e; cases h; subst e; simp
    · simp [ih h]
theorem look_key {l : List (Int × α)} {k : Int} : (lookL l k).isSome = true ↔ k ∈ l.map (·.1) := by
  cases h : lookL l k with
  | none => simp only [Option.isSome_none, Bool.false_eq_true, false_iff]; exact (lookL_none l).1 h
  | some v => simp only [Option.isSome_some, true_iff]; exact List.mem_map_of_mem (f := (·.1)) (look_mem h)
end
theorem look_all (d : List Obj) (k : Int) : lookL (allM d) k = first d k := by
  induction d with
  | nil => rfl
  | cons o d ih =>
    simp only [allM, look_ins, ih, first, List.find?_cons]
    by_cases h : oid o = k
    · rw [if_pos h]; simp [h]
    · rw [if_neg h]
      have : (oid o == k) = false := by simpa using h
      rw [this]
theorem all_mem (d : List Obj) : ∀ p ∈ allM d, p.2 ∈ d := by
  induction d with
  | nil => simp [allM]
  | cons o d ih =>
    intro p hp
    rcases ins_mem _ _ _ p hp with rfl | h
    · simp
    · simp [ih p h]
theorem all_len (d : List Obj) : (allM d).length ≤ d.length := by
  induction d with
  | nil => simp [allM]
  | cons o d ih => have := ins_len (allM d) (oid o) o; simp only [allM, List.length_cons]; omega
theorem w_mono (out : List (Int × Obj)) (k : Int) (v : Obj) : ∀ es, weight (out ++ [(k, v)]) es ≤ weight out es
  | [] => Nat.le_refl _
  | p :: es => by
    have := w_mono out k v es
    simp only [weight]
    by_cases h : p.1 ∈ out.map (·.1)
    · rw [if_pos h, if_pos (by simp only [List.map_append, List.mem_append]; exact .inl h)]; omega
    · rw [if_neg h]; split <;> omega
theorem w_step {out : List (Int × Obj)} {k : Int} {o v : Obj} : ∀ {es : List (Int × Obj)}, lookL es k = some o → k ∉ out.map (·.1) → weight (out ++ [(k, v)]) es + ((olist o).length + 1) ≤ weight out es
  | [], h, _ => by cases h
  | p :: es, h, hk => by
    simp only [lookL] at h
    have hm := w_mono out k v es
    simp only [weight]
    split at h
    · rename_i e
      cases h
      rw [if_pos (by simp [e]), if_neg (by rw [e]; exact hk)]
      omega
    · rename_i e
      have ih := w_step (v := v) h hk
      by_cases h2 : p.1 ∈ out.map (·.1)
      · rw [if_pos h2, if_pos (by simp only [List.map_append, List.mem_append]; exact .inl h2)]; omega
      · rw [if_neg h2, if_neg (by simp only [List.map_append, List.mem_append, not_or]; exact ⟨h2, by simp; exact e⟩)]; omega
theorem w_le (out : List (Int × Obj)) : ∀ es : List (Int × Obj), (∀ p ∈ es, (olist p.2).length ≤ 1000) → weight out es ≤ es.length * 1001
  | [], _ => by simp [weight]
  | p :: es, h => by
    have := w_le out es (fun q hq => h q (by simp [hq]))
    have h1 := h p (by simp)
    simp only [weight, List.length_cons]
    split <;> omega
theorem small_list {d : List Obj} (h : smallD d = true) : d.length ≤ 1000 ∧ ∀ o ∈ d, (olist o).length ≤ 1000 ∧ (olab o).2.length ≤ 1000 := by
  simp only [smallD, Bool.and_eq_true, decide_eq_true_eq, List.all_eq_true] at h
  exact ⟨h.1, fun o ho => h.2 o ho⟩
theorem w_small {d : List Obj} (h : smallD d = true) : weight [] (allM d) ≤ 1001000 := by
  obtain ⟨h1, h2⟩ := small_list h
  have := w_le [] (allM d) (fun p hp => (h2 _ (all_mem d p hp)).1)
  have := all_len d
  omega
theorem inv0 (d : List Obj) (root : Int) (l : Lab) : FindInv d root l [root] [] where
  nodup := by simp
  vals := by simp
  reach := fun x hx o h1 h2 => by simp at hx; subst hx; exact .root o h1 h2
  root := .inl (by simp)
  closed := by simp
  len := by simp; omega
theorem inv_skip {d : List Obj} {root : Int} {l : Lab} {rest : List Int} {y : Int} {out : List (Int × Obj)} (h : FindInv d root l (rest ++ [y]) out) (hy : y ∈ out.map (·.1) ∨ ∀ o, first d y = some o → okO l o = false) :
    FindInv d root l rest out where
  nodup := h.nodup
  vals := h.vals
  reach := fun x hx => h.reach x (by simp [hx])
  root := by
    rcases h.root with h1 | h1
    · simp only [List.mem_append, List.mem_singleton] at h1
      rcases h1 with h1 | h1
      · exact .inl h1
      · subst h1; exact .inr hy
    · exact .inr h1
  closed := fun p hp hk x hx => by
    rcases h.closed p hp hk x hx with h1 | h1
    · simp only [List.mem_append, List.mem_singleton] at h1
      rcases h1 with h1 | h1
      · exact .inl h1
      · subst h1; exact .inr hy
    · exact .inr h1
  len := by have := h.len; simp only [List.length_append, List.length_cons, List.length_nil] at this; omega
theorem inv_take {d : List Obj} {root : Int} {l : Lab} {rest more : List Int} {y : Int} {out : List (Int × Obj)} {o : Obj} (h : FindInv d root l (rest ++ [y]) out) (hy : y ∉ out.map (·.1)) (ho : first d y = some o) (hok : okO l o = true)
    (hm : (okind o = 1 ∧ more = olist o) ∨ (okind o ≠ 1 ∧ more = [])) :
    FindInv d root l (rest ++ more) (out ++ [(y, o)]) := by
  have hv : Vis d root l y := h.reach y (by simp) o ho hok
  have keep : ∀ x, (x ∈ rest ++ [y] ∨ x ∈ out.map (·.1) ∨ ∀ o, first d x = some o → okO l o = false) → x ∈ rest ++ more ∨ x ∈ (out ++ [(y, o)]).map (·.1) ∨ ∀ o, first d x = some o → okO l o = false := by
    intro x hx
    rcases hx with h1 | h1 | h1
    · simp only [List.mem_append, List.mem_singleton] at h1
      rcases h1 with h1 | h1
      · exact .inl (by simp [h1])
      · subst h1; exact .inr (.inl (by simp))
    · exact .inr (.inl (by simp only [List.map_append, List.mem_append]; exact .inl h1))
    · exact .inr (.inr h1)
  have hml : more.length ≤ (olist o).length := by
    rcases hm with ⟨_, rfl⟩ | ⟨_, rfl⟩ <;> simp
  refine ⟨?_, ?_, ?_, keep _ h.root, ?_, ?_⟩
  · rw [List.map_append, List.nodup_append]
    refine ⟨h.nodup, by simp, fun a ha b hb e => ?_⟩
    simp at hb; subst hb; subst e; exact hy ha
  · intro p hp
    simp only [List.mem_append, List.mem_singleton] at hp
    rcases hp with hp | rfl
    · exact h.vals p hp
    · exact ⟨ho, hv⟩
  · intro x hx o' h1 h2
    simp only [List.mem_append] at hx
    rcases hx with hx | hx
    · exact h.reach x (by simp [hx]) o' h1 h2
    · rcases hm with ⟨hk, rfl⟩ | ⟨_, rfl⟩
      · exact .step y o x o' hv ho hk hx h1 h2
      · simp at hx
  · intro p hp hk x hx
    simp only [List.mem_append, List.mem_singleton] at hp
    rcases hp with hp | rfl
    · exact keep x (h.closed p hp hk x hx)
    · rcases hm with ⟨_, rfl⟩ | ⟨hk2, _⟩
      · exact .inl (by simp only [List.mem_append]; exact .inr hx)
      · exact absurd hk hk2
  · have h1 := h.len
    have h2 := w_step (v := o) (es := allM d) ((look_all d y).trans ho) hy
    simp only [List.length_append, List.length_cons, List.length_nil] at h1 ⊢
    omega
theorem inv_meas {d : List Obj} {rest more : List Int} {y : Int} {out : List (Int × Obj)} {o : Obj} (hy : y ∉ out.map (·.1)) (ho : first d y = some o) (hml : more.length ≤ (olist o).length) :
    (rest ++ more).length + weight (out ++ [(y, o)]) (allM d) < (rest ++ [y]).length + weight out (allM d) := by
  have h2 := w_step (v := o) (es := allM d) ((look_all d y).trans ho) hy
  simp only [List.length_append, List.length_cons, List.length_nil]
  omega
theorem inv_end {d : List Obj} {root : Int} {l : Lab} {out : List (Int × Obj)} (h : FindInv d root l [] out) (hf : freeL l = true) : FindPost d root l out where
  no := fun e => by rw [hf] at e; cases e
  yes := fun _ id => by
    constructor
    · intro hi
      obtain ⟨p, hp, rfl⟩ := List.mem_map.1 hi
      exact (h.vals p hp).2
    · intro hv
      induction hv with
      | root o h1 h2 =>
        rcases h.root with h3 | h3 | h3
        · simp at h3
        · exact h3
        · rw [h3 o h1] at h2; cases h2
      | step id o x o' hv h1 hk hx h3 h4 ih =>
        obtain ⟨p, hp, rfl⟩ := List.mem_map.1 ih
        have e := (h.vals p hp).1.symm.trans h1
        cases e
        rcases h.closed p hp hk x hx with h5 | h5 | h5
        · simp at h5
        · exact h5
        · rw [h5 o' h3] at h4; cases h4
  vals := fun p hp => (h.vals p hp).1
  nodup := h.nodup
theorem post_no {d : List Obj} {root : Int} {l : Lab} (hf : freeL l = false) : FindPost d root l [] where
  no := fun _ => rfl
  yes := fun e => by rw [hf] at e; cases e
  vals := by simp
  nodup := by simp
end Go.Proofs.Ytlnclaggmjhbfaa
namespace Go.Proofs.Ytlnclaggmjhbfaa
open Go.Proofs.Ytlnclaggmjhbfaa.Gx
set_option maxRecDepth 100000
set_option maxHeartbeats 4000000
set_option linter.unusedSimpArgs false
set_option linter.unusedVariables false
theorem wrap_dec {n : Nat} (h : 0 < n) (hn : n ≤ maxLen) : IntKind.i64.wrap ((n : Int) - 1) = ((n - 1 : Nat) : Int) := by
  rw [wrap64 (by omega) (by rw [maxLen_eq] at hn; omega)]; omega
theorem find_ok : findH.ok PP 29 := by
  refine hc_of mixed (fn := Try.f29) (c := c29) rfl rfl findH (fun x => rfl) ?_
  rintro ⟨d, root, l⟩ hpre
  have hpre : smallD d = true := hpre
  refine ⟨eFind d root l, env_ok .., rfl, hold (find_vc d root l) ?_⟩
  simp only [true_and, and_true, Prod.eta, eq_self_iff_true, Option.getD_some, Option.getD_none]
  refine ⟨fun hf => ⟨[], post_no (by simpa using hf), rfl⟩, fun hf hA => ⟨d.length, Nat.le_refl _, ⟨?_, by rw [List.drop_length]; rfl⟩, ?_⟩⟩
  · rw [wrap64 (by omega) (by rw [maxLen_eq] at hA; omega)]
  intro k hk
  refine ⟨fun h1 => ⟨⟨by simp at h1; omega, by omega⟩, fun y hy => ⟨k - 1, by omega, by simp at h1; omega, ?_, ?_⟩⟩, fun h1 => ⟨([root], []), inv0 .., ⟨rfl, rfl⟩, ?_⟩⟩
  · simp at h1
    rw [wrap64 (by omega) (by rw [maxLen_eq] at hA; omega)]; omega
  · simp at h1
    obtain ⟨h2, rfl⟩ := List.getElem?_eq_some_iff.1 hy
    have e : ((k : Int) - 1).toNat = k - 1 := by omega
    simp only [e]
    rw [List.drop_eq_getElem_cons (i := k - 1) (by omega), show k - 1 + 1 = k by omega]
    rfl
  have hk0 : k = 0 := by simp at h1; omega
  subst hk0
  clear h1
  rw [List.drop_zero]
  have hfree : freeL l = true := by simpa using hf
  rintro ⟨ah, out⟩ hinv hlen
  simp only at hinv hlen ⊢
  refine ⟨fun h1 _ => ?_, fun h1 => ⟨out, ?_, rfl⟩⟩
  rotate_left
  · have : ah = [] := by simp at h1; exact h1
    subst this
    exact inv_end hinv hfree
  have hpos : 0 < ah.length := by simpa using h1
  rw [wrap_dec hpos hlen]
  refine ⟨⟨by omega, by omega⟩, by simp; omega, ?_⟩
  intro y hy _
  refine ⟨⟨by omega, by omega, by omega, by omega⟩, ?_⟩
  rw [Int.toNat_natCast] at hy ⊢
  obtain ⟨h2, hyv⟩ := List.getElem?_eq_some_iff.1 hy
  have hsplit : ah = ah.take (ah.length - 1) ++ [y] := by
    conv => lhs; rw [← List.take_append_drop (ah.length - 1) ah]
    rw [List.drop_eq_getElem_cons h2, hyv, show ah.length - 1 + 1 = ah.length by omega, List.drop_length]
  generalize hrest : ah.take (ah.length - 1) = rest at hsplit ⊢
  subst hsplit
  have skip : (y ∈ out.map (·.1) ∨ ∀ o, first d y = some o → okO l o = false) → ∃ (x' : List Int × List (Int × Obj)), FindInv d root l x'.1 x'.2 ∧ x'.1.length + weight x'.2 (allM d) < (rest ++ [y]).length + weight out (allM d) ∧ out = x'.2 ∧ rest = x'.1 :=
    fun h => ⟨(rest, out), inv_skip hinv h, by simp, rfl, rfl⟩
  rw [look_all]
  refine ⟨fun hs => ?_, fun hs => skip (.inl (look_key.1 (by simpa using hs)))⟩
  have hny : y ∉ out.map (·.1) := fun h => by rw [look_key.2 h] at hs; cases hs
  cases ho : first d y with
  | none => exact ⟨fun h => by simp at h, fun _ => skip (.inr (fun o e => by rw [ho] at e; cases e))⟩
  | some o =>
    simp only [Option.getD_some, Option.isSome_some]
    have hlaw := hinv.len
    have hw := w_small hpre
    refine ⟨fun _ => ⟨fun hp => ⟨fun hl => skip (.inr ?_), fun hl => ?_⟩, fun hp => skip (.inr ?_)⟩, fun h => by simp at h⟩
    · intro o' e; rw [ho] at e; cases e
      simp only [okO]; simp at hl; simp [hl]
    · have hok : okO l o = true := by
        simp only [okO, Bool.and_eq_true]
        exact ⟨by simpa using hp, by simpa using hl⟩
      have hno : olist o = o.snd.fst := rfl
      refine ⟨fun hc => ⟨?_, ⟨(rest ++ olist o, out ++ [(y, o)]), inv_take hinv hny ho hok (.inl ⟨by simpa using hc, rfl⟩), inv_meas hny ho (Nat.le_refl _), ins_new _ _ _ hny, rfl⟩⟩, fun hc => ⟨(rest, out ++ [(y, o)]), ?_, ?_, ins_new _ _ _ hny, rfl⟩⟩
      · have h3 := w_step (v := o) (es := allM d) ((look_all d y).trans ho) hny
        rw [← hno]
        simp only [List.length_append, List.length_cons, List.length_nil] at hlaw ⊢
        omega
      · have := inv_take (more := []) hinv hny ho hok (.inr ⟨by simpa using hc, rfl⟩)
        rwa [List.append_nil] at this
      · have := inv_meas (rest := rest) (out := out) (d := d) (more := []) hny ho (Nat.zero_le _)
        rwa [List.append_nil] at this
    · intro o' e; rw [ho] at e; cases e
      simp only [okO]
      have : plainL (olab o) = false := by simpa using hp
      rw [this]; rfl
end Go.Proofs.Ytlnclaggmjhbfaa
