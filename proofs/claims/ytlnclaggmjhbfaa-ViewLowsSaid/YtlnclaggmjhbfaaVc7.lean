/- Low and Owner of the reference, and the law of them; no condition. -/
import Derived.Test.YtlnclaggmjhbfaaVb7
namespace Go.Proofs.Ytlnclaggmjhbfaa
open Go.Proofs.Ytlnclaggmjhbfaa.Gx
set_option maxRecDepth 100000
set_option maxHeartbeats 4000000
set_option linter.unusedSimpArgs false
set_option linter.unusedVariables false
def catsSum : List Lab → Nat
  | [] => 0
  | l :: ls => l.2.length + catsSum ls
def sumLs (ls : List Lab) : Bool := decide (catsSum ls ≤ 17592186044415)
theorem catsSum_snoc : (ls : List Lab) → (l : Lab) → catsSum (ls ++ [l]) = catsSum ls + l.2.length
  | [], l => by simp [catsSum]
  | x :: ls, l => by simp only [List.cons_append, catsSum, catsSum_snoc ls l]; omega
theorem catsSum_append : (ls ks : List Lab) → catsSum (ls ++ ks) = catsSum ls + catsSum ks
  | [], ks => by simp [catsSum]
  | x :: ls, ks => by simp only [List.cons_append, catsSum, catsSum_append ls ks]; omega
theorem catsSum_take {ls : List Lab} {i : Nat} {l : Lab} (h : ls[i]? = some l) : catsSum (ls.take i) + l.2.length ≤ catsSum ls := by
  obtain ⟨hi, rfl⟩ := List.getElem?_eq_some_iff.1 h
  conv => rhs; rw [← List.take_append_drop i ls]
  rw [catsSum_append, List.drop_eq_getElem_cons hi, catsSum]
  omega
theorem namedL_lenS (ls : List Lab) : (namedL ls).length ≤ catsSum ls := by
  have : ∀ (ls : List Lab) (o : List Int), (ls.foldl (fun o l => addN o l.2) o).length ≤ o.length + catsSum ls := by
    intro ls
    induction ls with
    | nil => intro o; simp
    | cons l ls ih =>
      intro o
      have h1 := ih (addN o l.2)
      have h2 := addN_len l.2 o
      simp only [List.foldl_cons, catsSum]
      omega
  simpa [namedL] using this ls []
theorem named_ownS : OwnOk PP 33 [.slice lab] 3 i64 (fun x => sumLs x.1) (fun x => namedL x.1) := by
  refine own_Q mixed (fn := Try.f33) (c := c33) rfl rfl _ _ _ rfl ?_
  rintro ⟨ls, ⟨⟩⟩ ⟨⟨hA, hE⟩, -⟩ hp
  have hp : catsSum ls ≤ 17592186044415 := by simpa [sumLs] using hp
  refine ⟨_, env_ok [] [] [] [] (namedLoop ls), rfl, hold (named_vc ls) ?_⟩
  simp only [true_and, and_true]
  intro _
  refine ⟨0, by simp, ⟨rfl, rfl⟩, ?_⟩
  intro i hi
  rcases get_cases ls i hi with ⟨l, hl, hi'⟩ | ⟨hl, hi'⟩
  · refine ⟨fun _ => ⟨by omega, fun y hy => ?_⟩, fun h => by simp at h; omega⟩
    obtain rfl : l = y := by simpa [hl] using hy
    have hbase : (namedL (ls.take i)).length + l.2.length ≤ 17592186044415 := by
      have h1 := namedL_lenS (ls.take i)
      have h2 := catsSum_take hl
      omega
    intro hlm
    refine ⟨0, by simp, ⟨rfl, rfl⟩, ?_⟩
    intro j hj
    rcases get_cases l.2 j hj with ⟨x, hx, hj'⟩ | ⟨hx, hj'⟩
    · refine ⟨fun _ => ⟨by omega, fun y hy => ?_⟩, fun h => by simp at h; omega⟩
      obtain rfl : x = y := by simpa [hx] using hy
      have hsn : addN (namedL (ls.take i)) (l.2.take (j + 1)) = insN x.1 (addN (namedL (ls.take i)) (l.2.take j)) := by rw [take_snoc' hx, addN_snoc]
      have hlen := addN_len (l.2.take j) (namedL (ls.take i))
      rw [List.length_take, Nat.min_eq_left hj] at hlen
      generalize addN (namedL (ls.take i)) (l.2.take j) = o at *
      refine ⟨0, ⟨by simp, fun m y hm => by omega⟩, rfl, ?_⟩
      rintro k ⟨hk, hks⟩
      have hol : o.length ≤ maxLen := by rw [maxLen_eq]; omega
      have hins : (∀ y, o[k]? = some y → x.1 < y) → ∃ x' : Nat, x' ≤ l.2.length ∧ l.2.length - x' < l.2.length - j ∧ IntKind.i64.wrap ((j : Int) + 1) = (x' : Int) ∧ [] ++ o.take k ++ [x.1] ++ o.drop k = addN (namedL (ls.take i)) (l.2.take x') := by
        intro h
        refine ⟨j + 1, by omega, by omega, wrap_succ hj' hlm, ?_⟩
        rw [hsn, insN_new x.1 o k hk hks h]
        simp
      rcases get_cases o k hk with ⟨z, hz, hk'⟩ | ⟨hz, hk'⟩
      · refine ⟨decide (z < x.1), ?_, fun hv => ?_, fun hv => ⟨z == x.1, ?_, fun hv2 => ?_, fun hv2 => ?_⟩⟩
        · refine ⟨fun _ => ⟨by omega, by omega, fun y hy => ?_⟩, fun h => by simp at h; omega⟩
          obtain rfl : z = y := by simpa [hz] using hy
          rfl
        · refine ⟨k + 1, ⟨by omega, fun m y hm hy => ?_⟩, by omega, wrap_succ hk' hol⟩
          rcases Nat.lt_or_ge m k with h | h
          · exact hks m y h hy
          · obtain rfl : m = k := by omega
            rw [hz] at hy; cases hy; simpa using hv
        · refine ⟨fun _ => ⟨by omega, by omega, fun y hy => ?_⟩, fun h => by simp at h; omega⟩
          obtain rfl : z = y := by simpa [hz] using hy
          rfl
        · refine ⟨j + 1, by omega, by omega, wrap_succ hj' hlm, ?_⟩
          have : z = x.1 := by simpa using hv2
          rw [hsn, insN_skip x.1 o k hks (by rw [hz, this])]
        · have hlt : ∀ y, o[k]? = some y → x.1 < y := fun y hy => by
            rw [hz] at hy; cases hy; simp at hv hv2
            exact Int.lt_iff_le_and_ne.2 ⟨hv, fun e => hv2 e.symm⟩
          have := hins hlt
          simp only [Option.getD_some, Option.getD_none, Int.toNat_natCast, List.take_length, List.drop_zero]
          refine ⟨by omega, by simp; omega, by simp; omega, by omega, by simp; omega, this⟩
      · refine ⟨false, ?_, fun hv => by simp at hv, fun hv => ⟨false, ?_, fun hv2 => by simp at hv2, fun hv2 => ?_⟩⟩
        · refine ⟨fun h => by simp at h; omega, fun _ => rfl⟩
        · refine ⟨fun h => by simp at h; omega, fun _ => rfl⟩
        · have := hins (fun y hy => by rw [hz] at hy; cases hy)
          simp only [Option.getD_some, Option.getD_none, Int.toNat_natCast, List.take_length, List.drop_zero]
          refine ⟨by omega, by simp; omega, by simp; omega, by omega, by simp; omega, this⟩
    · subst hj'
      refine ⟨fun h => by simp at h, fun _ => ⟨i + 1, by omega, by omega, wrap_succ hi' hA, ?_⟩⟩
      rw [List.take_length, take_snoc' hl, namedL_snoc]
  · subst hi'
    refine ⟨fun h => by simp at h, fun _ => ?_⟩
    rw [List.take_length]
noncomputable def p33S : Pv PP := ⟨33, _, ⟨rfl, pspec_of_own named_ownS⟩⟩
noncomputable def s33S : Sv PP := ⟨33, _, ⟨rfl, spec_Qo named_ownS⟩⟩
end Go.Proofs.Ytlnclaggmjhbfaa
namespace Go.Proofs.Ytlnclaggmjhbfaa
open Go.Proofs.Ytlnclaggmjhbfaa.Gx
set_option maxRecDepth 100000
set_option linter.unusedVariables false
set_option maxHeartbeats 0
def nm (l ol : Lab) : List Int := namedL [l, ol] ++ [0]
def badN (l ol : Lab) (c : Int) : Bool := decide ((if atL ol c == 0 then 4 else atL ol c) > atL l c)
def lowN (l ol : Lab) : Bool := (nm l ol).all fun c => !badN l ol c
def ownC (l : Lab) (o : Obj) (c : Int) : Bool := (atL (olab o) c == 0 && decide (atL l c < 4)) && (okind o == 4 || okind o == 5)
def ownN (l : Lab) (o : Obj) : Bool := (nm l (olab o)).any (ownC l o)
def sml2 (l ol : Lab) : Bool := decide (l.2.length + ol.2.length ≤ 17592186044414)
def lowNLoop (l ol : Lab) : List (Nat × (St → Option LoopSpec)) :=
  [(2, fun _ => some { α := Nat, inv := fun i => i ≤ (nm l ol).length ∧ ((nm l ol).drop i).all (fun c => !badN l ol c) = lowN l ol, ov := fun i => [(18, .int .i64 (i : Int))], rov := fun _ => [], meas := fun i => (nm l ol).length - i })]
def ownNLoop (l : Lab) (o : Obj) : List (Nat × (St → Option LoopSpec)) :=
  [(2, fun _ => some { α := Nat, inv := fun i => i ≤ (nm l (olab o)).length ∧ ((nm l (olab o)).drop i).any (ownC l o) = ownN l o, ov := fun i => [(16, .int .i64 (i : Int))], rov := fun _ => [], meas := fun i => (nm l (olab o)).length - i })]
theorem lowN_vc (l : Lab) (o : Obj) : fvc PP (env PP [p34] [s33S] [] [] (lowNLoop l (olab o))) Try.f16 c16 (ofArgs [lab, objT] (l, o, ())) St0 (gives [.bool] (lowN l (olab o), ())) = (
  sumLs [(l.fst, l.snd), (o.fst.snd.snd.snd.snd.snd.fst, o.fst.snd.snd.snd.snd.snd.snd)] = true ∧ ((namedL [(l.fst, l.snd), (o.fst.snd.snd.snd.snd.snd.fst, o.fst.snd.snd.snd.snd.snd.snd)]).length + (1 : Nat)) * (8 : Nat) 
  ≤ (140737488355328 : Nat) ∧ ((namedL [(l.fst, l.snd), (o.fst.snd.snd.snd.snd.snd.fst, o.fst.snd.snd.snd.snd.snd.snd)] ++ [(0 : Int)]).length ≤ maxLen → ∃ (x0 : Nat), (x0 ≤ (nm l (olab o)).length ∧ ((List.drop x0 (nm l 
  (olab o))).all fun (c : Int) => !badN l (olab o) c) = lowN l (olab o)) ∧ ((True ∧ True) ∧ ((0 : Int) = (↑x0 : Int) ∧ (↑(namedL [(l.fst, l.snd), (o.fst.snd.snd.snd.snd.snd.fst, o.fst.snd.snd.snd.snd.snd.snd)] ++ [(0 : 
  Int)]).length : Int) = (↑(namedL [(l.fst, l.snd), (o.fst.snd.snd.snd.snd.snd.fst, o.fst.snd.snd.snd.snd.snd.snd)] ++ [(0 : Int)]).length : Int) ∧ True ∧ True ∧ True ∧ (l.fst = l.fst ∧ l.snd = l.snd ∧ True) ∧ (o.fst.fst 
  = o.fst.fst ∧ o.fst.snd.fst = o.fst.snd.fst ∧ o.fst.snd.snd.fst = o.fst.snd.snd.fst ∧ o.fst.snd.snd.snd.fst = o.fst.snd.snd.snd.fst ∧ o.fst.snd.snd.snd.snd.fst = o.fst.snd.snd.snd.snd.fst ∧ 
  o.fst.snd.snd.snd.snd.snd.fst = o.fst.snd.snd.snd.snd.snd.fst ∧ o.fst.snd.snd.snd.snd.snd.snd = o.fst.snd.snd.snd.snd.snd.snd ∧ o.snd.fst = o.snd.fst ∧ o.snd.snd.fst = o.snd.snd.fst ∧ o.snd.snd.snd.fst = 
  o.snd.snd.snd.fst ∧ o.snd.snd.snd.snd.fst.fst = o.snd.snd.snd.snd.fst.fst ∧ o.snd.snd.snd.snd.fst.snd = o.snd.snd.snd.snd.fst.snd ∧ o.snd.snd.snd.snd.snd.fst.fst = o.snd.snd.snd.snd.snd.fst.fst ∧ 
  o.snd.snd.snd.snd.snd.fst.snd = o.snd.snd.snd.snd.snd.fst.snd ∧ o.snd.snd.snd.snd.snd.snd.fst.fst.fst = o.snd.snd.snd.snd.snd.snd.fst.fst.fst ∧ o.snd.snd.snd.snd.snd.snd.fst.fst.snd.fst = 
  o.snd.snd.snd.snd.snd.snd.fst.fst.snd.fst ∧ o.snd.snd.snd.snd.snd.snd.fst.fst.snd.snd.fst = o.snd.snd.snd.snd.snd.snd.fst.fst.snd.snd.fst ∧ o.snd.snd.snd.snd.snd.snd.fst.fst.snd.snd.snd.fst = 
  o.snd.snd.snd.snd.snd.snd.fst.fst.snd.snd.snd.fst ∧ o.snd.snd.snd.snd.snd.snd.fst.fst.snd.snd.snd.snd.fst = o.snd.snd.snd.snd.snd.snd.fst.fst.snd.snd.snd.snd.fst ∧ 
  o.snd.snd.snd.snd.snd.snd.fst.fst.snd.snd.snd.snd.snd.fst = o.snd.snd.snd.snd.snd.snd.fst.fst.snd.snd.snd.snd.snd.fst ∧ o.snd.snd.snd.snd.snd.snd.fst.fst.snd.snd.snd.snd.snd.snd.fst = 
  o.snd.snd.snd.snd.snd.snd.fst.fst.snd.snd.snd.snd.snd.snd.fst ∧ o.snd.snd.snd.snd.snd.snd.fst.fst.snd.snd.snd.snd.snd.snd.snd.fst = o.snd.snd.snd.snd.snd.snd.fst.fst.snd.snd.snd.snd.snd.snd.snd.fst ∧ 
  o.snd.snd.snd.snd.snd.snd.fst.fst.snd.snd.snd.snd.snd.snd.snd.snd.fst = o.snd.snd.snd.snd.snd.snd.fst.fst.snd.snd.snd.snd.snd.snd.snd.snd.fst ∧ o.snd.snd.snd.snd.snd.snd.fst.fst.snd.snd.snd.snd.snd.snd.snd.snd.snd.fst 
  = o.snd.snd.snd.snd.snd.snd.fst.fst.snd.snd.snd.snd.snd.snd.snd.snd.snd.fst ∧ o.snd.snd.snd.snd.snd.snd.fst.fst.snd.snd.snd.snd.snd.snd.snd.snd.snd.snd.fst = 
  o.snd.snd.snd.snd.snd.snd.fst.fst.snd.snd.snd.snd.snd.snd.snd.snd.snd.snd.fst ∧ o.snd.snd.snd.snd.snd.snd.fst.fst.snd.snd.snd.snd.snd.snd.snd.snd.snd.snd.snd.fst = 
  o.snd.snd.snd.snd.snd.snd.fst.fst.snd.snd.snd.snd.snd.snd.snd.snd.snd.snd.snd.fst ∧ o.snd.snd.snd.snd.snd.snd.fst.fst.snd.snd.snd.snd.snd.snd.snd.snd.snd.snd.snd.snd.fst = 
  o.snd.snd.snd.snd.snd.snd.fst.fst.snd.snd.snd.snd.snd.snd.snd.snd.snd.snd.snd.snd.fst ∧ o.snd.snd.snd.snd.snd.snd.fst.fst.snd.snd.snd.snd.snd.snd.snd.snd.snd.snd.snd.snd.snd.fst = 
  o.snd.snd.snd.snd.snd.snd.fst.fst.snd.snd.snd.snd.snd.snd.snd.snd.snd.snd.snd.snd.snd.fst ∧ o.snd.snd.snd.snd.snd.snd.fst.fst.snd.snd.snd.snd.snd.snd.snd.snd.snd.snd.snd.snd.snd.snd.fst = 
  o.snd.snd.snd.snd.snd.snd.fst.fst.snd.snd.snd.snd.snd.snd.snd.snd.snd.snd.snd.snd.snd.snd.fst ∧ o.snd.snd.snd.snd.snd.snd.fst.fst.snd.snd.snd.snd.snd.snd.snd.snd.snd.snd.snd.snd.snd.snd.snd = 
  o.snd.snd.snd.snd.snd.snd.fst.fst.snd.snd.snd.snd.snd.snd.snd.snd.snd.snd.snd.snd.snd.snd.snd ∧ o.snd.snd.snd.snd.snd.snd.fst.snd = o.snd.snd.snd.snd.snd.snd.fst.snd ∧ o.snd.snd.snd.snd.snd.snd.snd.fst = 
  o.snd.snd.snd.snd.snd.snd.snd.fst ∧ o.snd.snd.snd.snd.snd.snd.snd.snd.fst = o.snd.snd.snd.snd.snd.snd.snd.snd.fst ∧ o.snd.snd.snd.snd.snd.snd.snd.snd.snd.fst = o.snd.snd.snd.snd.snd.snd.snd.snd.snd.fst ∧ 
  o.snd.snd.snd.snd.snd.snd.snd.snd.snd.snd.fst = o.snd.snd.snd.snd.snd.snd.snd.snd.snd.snd.fst ∧ o.snd.snd.snd.snd.snd.snd.snd.snd.snd.snd.snd.fst = o.snd.snd.snd.snd.snd.snd.snd.snd.snd.snd.snd.fst ∧ 
  o.snd.snd.snd.snd.snd.snd.snd.snd.snd.snd.snd.snd.fst = o.snd.snd.snd.snd.snd.snd.snd.snd.snd.snd.snd.snd.fst ∧ o.snd.snd.snd.snd.snd.snd.snd.snd.snd.snd.snd.snd.snd = 
  o.snd.snd.snd.snd.snd.snd.snd.snd.snd.snd.snd.snd.snd ∧ True) ∧ True) ∧ (l.fst = l.fst ∧ l.snd = l.snd ∧ True) ∧ (o.fst.fst = o.fst.fst ∧ o.fst.snd.fst = o.fst.snd.fst ∧ o.fst.snd.snd.fst = o.fst.snd.snd.fst ∧ 
  o.fst.snd.snd.snd.fst = o.fst.snd.snd.snd.fst ∧ o.fst.snd.snd.snd.snd.fst = o.fst.snd.snd.snd.snd.fst ∧ o.fst.snd.snd.snd.snd.snd.fst = o.fst.snd.snd.snd.snd.snd.fst ∧ o.fst.snd.snd.snd.snd.snd.snd = 
  o.fst.snd.snd.snd.snd.snd.snd ∧ o.snd.fst = o.snd.fst ∧ o.snd.snd.fst = o.snd.snd.fst ∧ o.snd.snd.snd.fst = o.snd.snd.snd.fst ∧ o.snd.snd.snd.snd.fst.fst = o.snd.snd.snd.snd.fst.fst ∧ o.snd.snd.snd.snd.fst.snd = 
  o.snd.snd.snd.snd.fst.snd ∧ o.snd.snd.snd.snd.snd.fst.fst = o.snd.snd.snd.snd.snd.fst.fst ∧ o.snd.snd.snd.snd.snd.fst.snd = o.snd.snd.snd.snd.snd.fst.snd ∧ o.snd.snd.snd.snd.snd.snd.fst.fst.fst = 
  o.snd.snd.snd.snd.snd.snd.fst.fst.fst ∧ o.snd.snd.snd.snd.snd.snd.fst.fst.snd.fst = o.snd.snd.snd.snd.snd.snd.fst.fst.snd.fst ∧ o.snd.snd.snd.snd.snd.snd.fst.fst.snd.snd.fst = 
  o.snd.snd.snd.snd.snd.snd.fst.fst.snd.snd.fst ∧ o.snd.snd.snd.snd.snd.snd.fst.fst.snd.snd.snd.fst = o.snd.snd.snd.snd.snd.snd.fst.fst.snd.snd.snd.fst ∧ o.snd.snd.snd.snd.snd.snd.fst.fst.snd.snd.snd.snd.fst = 
  o.snd.snd.snd.snd.snd.snd.fst.fst.snd.snd.snd.snd.fst ∧ o.snd.snd.snd.snd.snd.snd.fst.fst.snd.snd.snd.snd.snd.fst = o.snd.snd.snd.snd.snd.snd.fst.fst.snd.snd.snd.snd.snd.fst ∧ 
  o.snd.snd.snd.snd.snd.snd.fst.fst.snd.snd.snd.snd.snd.snd.fst = o.snd.snd.snd.snd.snd.snd.fst.fst.snd.snd.snd.snd.snd.snd.fst ∧ o.snd.snd.snd.snd.snd.snd.fst.fst.snd.snd.snd.snd.snd.snd.snd.fst = 
  o.snd.snd.snd.snd.snd.snd.fst.fst.snd.snd.snd.snd.snd.snd.snd.fst ∧ o.snd.snd.snd.snd.snd.snd.fst.fst.snd.snd.snd.snd.snd.snd.snd.snd.fst = o.snd.snd.snd.snd.snd.snd.fst.fst.snd.snd.snd.snd.snd.snd.snd.snd.fst ∧ 
  o.snd.snd.snd.snd.snd.snd.fst.fst.snd.snd.snd.snd.snd.snd.snd.snd.snd.fst = o.snd.snd.snd.snd.snd.snd.fst.fst.snd.snd.snd.snd.snd.snd.snd.snd.snd.fst ∧ 
  o.snd.snd.snd.snd.snd.snd.fst.fst.snd.snd.snd.snd.snd.snd.snd.snd.snd.snd.fst = o.snd.snd.snd.snd.snd.snd.fst.fst.snd.snd.snd.snd.snd.snd.snd.snd.snd.snd.fst ∧ 
  o.snd.snd.snd.snd.snd.snd.fst.fst.snd.snd.snd.snd.snd.snd.snd.snd.snd.snd.snd.fst = o.snd.snd.snd.snd.snd.snd.fst.fst.snd.snd.snd.snd.snd.snd.snd.snd.snd.snd.snd.fst ∧ 
  o.snd.snd.snd.snd.snd.snd.fst.fst.snd.snd.snd.snd.snd.snd.snd.snd.snd.snd.snd.snd.fst = o.snd.snd.snd.snd.snd.snd.fst.fst.snd.snd.snd.snd.snd.snd.snd.snd.snd.snd.snd.snd.fst ∧ 
  o.snd.snd.snd.snd.snd.snd.fst.fst.snd.snd.snd.snd.snd.snd.snd.snd.snd.snd.snd.snd.snd.fst = o.snd.snd.snd.snd.snd.snd.fst.fst.snd.snd.snd.snd.snd.snd.snd.snd.snd.snd.snd.snd.snd.fst ∧ 
  o.snd.snd.snd.snd.snd.snd.fst.fst.snd.snd.snd.snd.snd.snd.snd.snd.snd.snd.snd.snd.snd.snd.fst = o.snd.snd.snd.snd.snd.snd.fst.fst.snd.snd.snd.snd.snd.snd.snd.snd.snd.snd.snd.snd.snd.snd.fst ∧ 
  o.snd.snd.snd.snd.snd.snd.fst.fst.snd.snd.snd.snd.snd.snd.snd.snd.snd.snd.snd.snd.snd.snd.snd = o.snd.snd.snd.snd.snd.snd.fst.fst.snd.snd.snd.snd.snd.snd.snd.snd.snd.snd.snd.snd.snd.snd.snd ∧ 
  o.snd.snd.snd.snd.snd.snd.fst.snd = o.snd.snd.snd.snd.snd.snd.fst.snd ∧ o.snd.snd.snd.snd.snd.snd.snd.fst = o.snd.snd.snd.snd.snd.snd.snd.fst ∧ o.snd.snd.snd.snd.snd.snd.snd.snd.fst = 
  o.snd.snd.snd.snd.snd.snd.snd.snd.fst ∧ o.snd.snd.snd.snd.snd.snd.snd.snd.snd.fst = o.snd.snd.snd.snd.snd.snd.snd.snd.snd.fst ∧ o.snd.snd.snd.snd.snd.snd.snd.snd.snd.snd.fst = 
  o.snd.snd.snd.snd.snd.snd.snd.snd.snd.snd.fst ∧ o.snd.snd.snd.snd.snd.snd.snd.snd.snd.snd.snd.fst = o.snd.snd.snd.snd.snd.snd.snd.snd.snd.snd.snd.fst ∧ o.snd.snd.snd.snd.snd.snd.snd.snd.snd.snd.snd.snd.fst = 
  o.snd.snd.snd.snd.snd.snd.snd.snd.snd.snd.snd.snd.fst ∧ o.snd.snd.snd.snd.snd.snd.snd.snd.snd.snd.snd.snd.snd = o.snd.snd.snd.snd.snd.snd.snd.snd.snd.snd.snd.snd.snd ∧ True) ∧ True ∧ namedL [(l.fst, l.snd), 
  (o.fst.snd.snd.snd.snd.snd.fst, o.fst.snd.snd.snd.snd.snd.snd)] ++ [(0 : Int)] = namedL [(l.fst, l.snd), (o.fst.snd.snd.snd.snd.snd.fst, o.fst.snd.snd.snd.snd.snd.snd)] ++ [(0 : Int)] ∧ [(0 : Int)] = [(0 : Int)] ∧ 
  True) ∧ ∀ (x : Nat), x ≤ (nm l (olab o)).length ∧ ((List.drop x (nm l (olab o))).all fun (c : Int) => !badN l (olab o) c) = lowN l (olab o) → (decide ((↑x : Int) < (↑(namedL [(l.fst, l.snd), 
  (o.fst.snd.snd.snd.snd.snd.fst, o.fst.snd.snd.snd.snd.snd.snd)] ++ [(0 : Int)]).length : Int)) = true → ((0 : Int) ≤ (↑x : Int) ∧ (↑x : Int) < (↑(namedL [(l.fst, l.snd), (o.fst.snd.snd.snd.snd.snd.fst, 
  o.fst.snd.snd.snd.snd.snd.snd)] ++ [(0 : Int)]).length : Int)) ∧ (↑x : Int).toNat < (namedL [(l.fst, l.snd), (o.fst.snd.snd.snd.snd.snd.fst, o.fst.snd.snd.snd.snd.snd.snd)] ++ [(0 : Int)]).length ∧ ∀ (y : Int), (namedL 
  [(l.fst, l.snd), (o.fst.snd.snd.snd.snd.snd.fst, o.fst.snd.snd.snd.snd.snd.snd)] ++ [(0 : Int)])[(↑x : Int).toNat]? = some y → true = true ∧ true = true ∧ ((atL (o.fst.snd.snd.snd.snd.snd.fst, 
  o.fst.snd.snd.snd.snd.snd.snd) y == (0 : Int)) = true → (decide ((4 : Int) > atL (l.fst, l.snd) y) = true → false = lowN l (olab o) ∧ True) ∧ (decide ((4 : Int) > atL (l.fst, l.snd) y) = false → ∃ (x' : Nat), (x' ≤ (nm 
  l (olab o)).length ∧ ((List.drop x' (nm l (olab o))).all fun (c : Int) => !badN l (olab o) c) = lowN l (olab o)) ∧ (nm l (olab o)).length - x' < (nm l (olab o)).length - x ∧ (True ∧ True) ∧ (IntKind.i64.wrap ((↑x : 
  Int) + (1 : Int)) = (↑x' : Int) ∧ (↑(namedL [(l.fst, l.snd), (o.fst.snd.snd.snd.snd.snd.fst, o.fst.snd.snd.snd.snd.snd.snd)] ++ [(0 : Int)]).length : Int) = (↑(namedL [(l.fst, l.snd), (o.fst.snd.snd.snd.snd.snd.fst, 
  o.fst.snd.snd.snd.snd.snd.snd)] ++ [(0 : Int)]).length : Int) ∧ True ∧ True ∧ True ∧ (l.fst = l.fst ∧ l.snd = l.snd ∧ True) ∧ (o.fst.fst = o.fst.fst ∧ o.fst.snd.fst = o.fst.snd.fst ∧ o.fst.snd.snd.fst = 
  o.fst.snd.snd.fst ∧ o.fst.snd.snd.snd.fst = o.fst.snd.snd.snd.fst ∧ o.fst.snd.snd.snd.snd.fst = o.fst.snd.snd.snd.snd.fst ∧ o.fst.snd.snd.snd.snd.snd.fst = o.fst.snd.snd.snd.snd.snd.fst ∧ o.fst.snd.snd.snd.snd.snd.snd 
  = o.fst.snd.snd.snd.snd.snd.snd ∧ o.snd.fst = o.snd.fst ∧ o.snd.snd.fst = o.snd.snd.fst ∧ o.snd.snd.snd.fst = o.snd.snd.snd.fst ∧ o.snd.snd.snd.snd.fst.fst = o.snd.snd.snd.snd.fst.fst ∧ o.snd.snd.snd.snd.fst.snd = 
  o.snd.snd.snd.snd.fst.snd ∧ o.snd.snd.snd.snd.snd.fst.fst = o.snd.snd.snd.snd.snd.fst.fst ∧ o.snd.snd.snd.snd.snd.fst.snd = o.snd.snd.snd.snd.snd.fst.snd ∧ o.snd.snd.snd.snd.snd.snd.fst.fst.fst = 
  o.snd.snd.snd.snd.snd.snd.fst.fst.fst ∧ o.snd.snd.snd.snd.snd.snd.fst.fst.snd.fst = o.snd.snd.snd.snd.snd.snd.fst.fst.snd.fst ∧ o.snd.snd.snd.snd.snd.snd.fst.fst.snd.snd.fst = 
  o.snd.snd.snd.snd.snd.snd.fst.fst.snd.snd.fst ∧ o.snd.snd.snd.snd.snd.snd.fst.fst.snd.snd.snd.fst = o.snd.snd.snd.snd.snd.snd.fst.fst.snd.snd.snd.fst ∧ o.snd.snd.snd.snd.snd.snd.fst.fst.snd.snd.snd.snd.fst = 
  o.snd.snd.snd.snd.snd.snd.fst.fst.snd.snd.snd.snd.fst ∧ o.snd.snd.snd.snd.snd.snd.fst.fst.snd.snd.snd.snd.snd.fst = o.snd.snd.snd.snd.snd.snd.fst.fst.snd.snd.snd.snd.snd.fst ∧ 
  o.snd.snd.snd.snd.snd.snd.fst.fst.snd.snd.snd.snd.snd.snd.fst = o.snd.snd.snd.snd.snd.snd.fst.fst.snd.snd.snd.snd.snd.snd.fst ∧ o.snd.snd.snd.snd.snd.snd.fst.fst.snd.snd.snd.snd.snd.snd.snd.fst = 
  o.snd.snd.snd.snd.snd.snd.fst.fst.snd.snd.snd.snd.snd.snd.snd.fst ∧ o.snd.snd.snd.snd.snd.snd.fst.fst.snd.snd.snd.snd.snd.snd.snd.snd.fst = o.snd.snd.snd.snd.snd.snd.fst.fst.snd.snd.snd.snd.snd.snd.snd.snd.fst ∧ 
  o.snd.snd.snd.snd.snd.snd.fst.fst.snd.snd.snd.snd.snd.snd.snd.snd.snd.fst = o.snd.snd.snd.snd.snd.snd.fst.fst.snd.snd.snd.snd.snd.snd.snd.snd.snd.fst ∧ 
  o.snd.snd.snd.snd.snd.snd.fst.fst.snd.snd.snd.snd.snd.snd.snd.snd.snd.snd.fst = o.snd.snd.snd.snd.snd.snd.fst.fst.snd.snd.snd.snd.snd.snd.snd.snd.snd.snd.fst ∧ 
  o.snd.snd.snd.snd.snd.snd.fst.fst.snd.snd.snd.snd.snd.snd.snd.snd.snd.snd.snd.fst = o.snd.snd.snd.snd.snd.snd.fst.fst.snd.snd.snd.snd.snd.snd.snd.snd.snd.snd.snd.fst ∧ 
  o.snd.snd.snd.snd.snd.snd.fst.fst.snd.snd.snd.snd.snd.snd.snd.snd.snd.snd.snd.snd.fst = o.snd.snd.snd.snd.snd.snd.fst.fst.snd.snd.snd.snd.snd.snd.snd.snd.snd.snd.snd.snd.fst ∧ 
  o.snd.snd.snd.snd.snd.snd.fst.fst.snd.snd.snd.snd.snd.snd.snd.snd.snd.snd.snd.snd.snd.fst = o.snd.snd.snd.snd.snd.snd.fst.fst.snd.snd.snd.snd.snd.snd.snd.snd.snd.snd.snd.snd.snd.fst ∧ 
  o.snd.snd.snd.snd.snd.snd.fst.fst.snd.snd.snd.snd.snd.snd.snd.snd.snd.snd.snd.snd.snd.snd.fst = o.snd.snd.snd.snd.snd.snd.fst.fst.snd.snd.snd.snd.snd.snd.snd.snd.snd.snd.snd.snd.snd.snd.fst ∧ 
  o.snd.snd.snd.snd.snd.snd.fst.fst.snd.snd.snd.snd.snd.snd.snd.snd.snd.snd.snd.snd.snd.snd.snd = o.snd.snd.snd.snd.snd.snd.fst.fst.snd.snd.snd.snd.snd.snd.snd.snd.snd.snd.snd.snd.snd.snd.snd ∧ 
  o.snd.snd.snd.snd.snd.snd.fst.snd = o.snd.snd.snd.snd.snd.snd.fst.snd ∧ o.snd.snd.snd.snd.snd.snd.snd.fst = o.snd.snd.snd.snd.snd.snd.snd.fst ∧ o.snd.snd.snd.snd.snd.snd.snd.snd.fst = 
  o.snd.snd.snd.snd.snd.snd.snd.snd.fst ∧ o.snd.snd.snd.snd.snd.snd.snd.snd.snd.fst = o.snd.snd.snd.snd.snd.snd.snd.snd.snd.fst ∧ o.snd.snd.snd.snd.snd.snd.snd.snd.snd.snd.fst = 
  o.snd.snd.snd.snd.snd.snd.snd.snd.snd.snd.fst ∧ o.snd.snd.snd.snd.snd.snd.snd.snd.snd.snd.snd.fst = o.snd.snd.snd.snd.snd.snd.snd.snd.snd.snd.snd.fst ∧ o.snd.snd.snd.snd.snd.snd.snd.snd.snd.snd.snd.snd.fst = 
  o.snd.snd.snd.snd.snd.snd.snd.snd.snd.snd.snd.snd.fst ∧ o.snd.snd.snd.snd.snd.snd.snd.snd.snd.snd.snd.snd.snd = o.snd.snd.snd.snd.snd.snd.snd.snd.snd.snd.snd.snd.snd ∧ True) ∧ True) ∧ (l.fst = l.fst ∧ l.snd = l.snd ∧ 
  True) ∧ (o.fst.fst = o.fst.fst ∧ o.fst.snd.fst = o.fst.snd.fst ∧ o.fst.snd.snd.fst = o.fst.snd.snd.fst ∧ o.fst.snd.snd.snd.fst = o.fst.snd.snd.snd.fst ∧ o.fst.snd.snd.snd.snd.fst = o.fst.snd.snd.snd.snd.fst ∧ 
  o.fst.snd.snd.snd.snd.snd.fst = o.fst.snd.snd.snd.snd.snd.fst ∧ o.fst.snd.snd.snd.snd.snd.snd = o.fst.snd.snd.snd.snd.snd.snd ∧ o.snd.fst = o.snd.fst ∧ o.snd.snd.fst = o.snd.snd.fst ∧ o.snd.snd.snd.fst = 
  o.snd.snd.snd.fst ∧ o.snd.snd.snd.snd.fst.fst = o.snd.snd.snd.snd.fst.fst ∧ o.snd.snd.snd.snd.fst.snd = o.snd.snd.snd.snd.fst.snd ∧ o.snd.snd.snd.snd.snd.fst.fst = o.snd.snd.snd.snd.snd.fst.fst ∧ 
  o.snd.snd.snd.snd.snd.fst.snd = o.snd.snd.snd.snd.snd.fst.snd ∧ o.snd.snd.snd.snd.snd.snd.fst.fst.fst = o.snd.snd.snd.snd.snd.snd.fst.fst.fst ∧ o.snd.snd.snd.snd.snd.snd.fst.fst.snd.fst = 
  o.snd.snd.snd.snd.snd.snd.fst.fst.snd.fst ∧ o.snd.snd.snd.snd.snd.snd.fst.fst.snd.snd.fst = o.snd.snd.snd.snd.snd.snd.fst.fst.snd.snd.fst ∧ o.snd.snd.snd.snd.snd.snd.fst.fst.snd.snd.snd.fst = 
  o.snd.snd.snd.snd.snd.snd.fst.fst.snd.snd.snd.fst ∧ o.snd.snd.snd.snd.snd.snd.fst.fst.snd.snd.snd.snd.fst = o.snd.snd.snd.snd.snd.snd.fst.fst.snd.snd.snd.snd.fst ∧ 
  o.snd.snd.snd.snd.snd.snd.fst.fst.snd.snd.snd.snd.snd.fst = o.snd.snd.snd.snd.snd.snd.fst.fst.snd.snd.snd.snd.snd.fst ∧ o.snd.snd.snd.snd.snd.snd.fst.fst.snd.snd.snd.snd.snd.snd.fst = 
  o.snd.snd.snd.snd.snd.snd.fst.fst.snd.snd.snd.snd.snd.snd.fst ∧ o.snd.snd.snd.snd.snd.snd.fst.fst.snd.snd.snd.snd.snd.snd.snd.fst = o.snd.snd.snd.snd.snd.snd.fst.fst.snd.snd.snd.snd.snd.snd.snd.fst ∧ 
  o.snd.snd.snd.snd.snd.snd.fst.fst.snd.snd.snd.snd.snd.snd.snd.snd.fst = o.snd.snd.snd.snd.snd.snd.fst.fst.snd.snd.snd.snd.snd.snd.snd.snd.fst ∧ o.snd.snd.snd.snd.snd.snd.fst.fst.snd.snd.snd.snd.snd.snd.snd.snd.snd.fst 
  = o.snd.snd.snd.snd.snd.snd.fst.fst.snd.snd.snd.snd.snd.snd.snd.snd.snd.fst ∧ o.snd.snd.snd.snd.snd.snd.fst.fst.snd.snd.snd.snd.snd.snd.snd.snd.snd.snd.fst = 
  o.snd.snd.snd.snd.snd.snd.fst.fst.snd.snd.snd.snd.snd.snd.snd.snd.snd.snd.fst ∧ o.snd.snd.snd.snd.snd.snd.fst.fst.snd.snd.snd.snd.snd.snd.snd.snd.snd.snd.snd.fst = 
  o.snd.snd.snd.snd.snd.snd.fst.fst.snd.snd.snd.snd.snd.snd.snd.snd.snd.snd.snd.fst ∧ o.snd.snd.snd.snd.snd.snd.fst.fst.snd.snd.snd.snd.snd.snd.snd.snd.snd.snd.snd.snd.fst = 
  o.snd.snd.snd.snd.snd.snd.fst.fst.snd.snd.snd.snd.snd.snd.snd.snd.snd.snd.snd.snd.fst ∧ o.snd.snd.snd.snd.snd.snd.fst.fst.snd.snd.snd.snd.snd.snd.snd.snd.snd.snd.snd.snd.snd.fst = 
  o.snd.snd.snd.snd.snd.snd.fst.fst.snd.snd.snd.snd.snd.snd.snd.snd.snd.snd.snd.snd.snd.fst ∧ o.snd.snd.snd.snd.snd.snd.fst.fst.snd.snd.snd.snd.snd.snd.snd.snd.snd.snd.snd.snd.snd.snd.fst = 
  o.snd.snd.snd.snd.snd.snd.fst.fst.snd.snd.snd.snd.snd.snd.snd.snd.snd.snd.snd.snd.snd.snd.fst ∧ o.snd.snd.snd.snd.snd.snd.fst.fst.snd.snd.snd.snd.snd.snd.snd.snd.snd.snd.snd.snd.snd.snd.snd = 
  o.snd.snd.snd.snd.snd.snd.fst.fst.snd.snd.snd.snd.snd.snd.snd.snd.snd.snd.snd.snd.snd.snd.snd ∧ o.snd.snd.snd.snd.snd.snd.fst.snd = o.snd.snd.snd.snd.snd.snd.fst.snd ∧ o.snd.snd.snd.snd.snd.snd.snd.fst = 
  o.snd.snd.snd.snd.snd.snd.snd.fst ∧ o.snd.snd.snd.snd.snd.snd.snd.snd.fst = o.snd.snd.snd.snd.snd.snd.snd.snd.fst ∧ o.snd.snd.snd.snd.snd.snd.snd.snd.snd.fst = o.snd.snd.snd.snd.snd.snd.snd.snd.snd.fst ∧ 
  o.snd.snd.snd.snd.snd.snd.snd.snd.snd.snd.fst = o.snd.snd.snd.snd.snd.snd.snd.snd.snd.snd.fst ∧ o.snd.snd.snd.snd.snd.snd.snd.snd.snd.snd.snd.fst = o.snd.snd.snd.snd.snd.snd.snd.snd.snd.snd.snd.fst ∧ 
  o.snd.snd.snd.snd.snd.snd.snd.snd.snd.snd.snd.snd.fst = o.snd.snd.snd.snd.snd.snd.snd.snd.snd.snd.snd.snd.fst ∧ o.snd.snd.snd.snd.snd.snd.snd.snd.snd.snd.snd.snd.snd = 
  o.snd.snd.snd.snd.snd.snd.snd.snd.snd.snd.snd.snd.snd ∧ True) ∧ True ∧ namedL [(l.fst, l.snd), (o.fst.snd.snd.snd.snd.snd.fst, o.fst.snd.snd.snd.snd.snd.snd)] ++ [(0 : Int)] = namedL [(l.fst, l.snd), 
  (o.fst.snd.snd.snd.snd.snd.fst, o.fst.snd.snd.snd.snd.snd.snd)] ++ [(0 : Int)] ∧ [(0 : Int)] = [(0 : Int)] ∧ True)) ∧ ((atL (o.fst.snd.snd.snd.snd.snd.fst, o.fst.snd.snd.snd.snd.snd.snd) y == (0 : Int)) = false → 
  (decide (atL (o.fst.snd.snd.snd.snd.snd.fst, o.fst.snd.snd.snd.snd.snd.snd) y > atL (l.fst, l.snd) y) = true → false = lowN l (olab o) ∧ True) ∧ (decide (atL (o.fst.snd.snd.snd.snd.snd.fst, 
  o.fst.snd.snd.snd.snd.snd.snd) y > atL (l.fst, l.snd) y) = false → ∃ (x' : Nat), (x' ≤ (nm l (olab o)).length ∧ ((List.drop x' (nm l (olab o))).all fun (c : Int) => !badN l (olab o) c) = lowN l (olab o)) ∧ (nm l (olab 
  o)).length - x' < (nm l (olab o)).length - x ∧ (True ∧ True) ∧ (IntKind.i64.wrap ((↑x : Int) + (1 : Int)) = (↑x' : Int) ∧ (↑(namedL [(l.fst, l.snd), (o.fst.snd.snd.snd.snd.snd.fst, o.fst.snd.snd.snd.snd.snd.snd)] ++ 
  [(0 : Int)]).length : Int) = (↑(namedL [(l.fst, l.snd), (o.fst.snd.snd.snd.snd.snd.fst, o.fst.snd.snd.snd.snd.snd.snd)] ++ [(0 : Int)]).length : Int) ∧ True ∧ True ∧ True ∧ (l.fst = l.fst ∧ l.snd = l.snd ∧ True) ∧ 
  (o.fst.fst = o.fst.fst ∧ o.fst.snd.fst = o.fst.snd.fst ∧ o.fst.snd.snd.fst = o.fst.snd.snd.fst ∧ o.fst.snd.snd.snd.fst = o.fst.snd.snd.snd.fst ∧ o.fst.snd.snd.snd.snd.fst = o.fst.snd.snd.snd.snd.fst ∧ 
  o.fst.snd.snd.snd.snd.snd.fst = o.fst.snd.snd.snd.snd.snd.fst ∧ o.fst.snd.snd.snd.snd.snd.snd = o.fst.snd.snd.snd.snd.snd.snd ∧ o.snd.fst = o.snd.fst ∧ o.snd.snd.fst = o.snd.snd.fst ∧ o.snd.snd.snd.fst = 
  o.snd.snd.snd.fst ∧ o.snd.snd.snd.snd.fst.fst = o.snd.snd.snd.snd.fst.fst ∧ o.snd.snd.snd.snd.fst.snd = o.snd.snd.snd.snd.fst.snd ∧ o.snd.snd.snd.snd.snd.fst.fst = o.snd.snd.snd.snd.snd.fst.fst ∧ 
  o.snd.snd.snd.snd.snd.fst.snd = o.snd.snd.snd.snd.snd.fst.snd ∧ o.snd.snd.snd.snd.snd.snd.fst.fst.fst = o.snd.snd.snd.snd.snd.snd.fst.fst.fst ∧ o.snd.snd.snd.snd.snd.snd.fst.fst.snd.fst = 
  o.snd.snd.snd.snd.snd.snd.fst.fst.snd.fst ∧ o.snd.snd.snd.snd.snd.snd.fst.fst.snd.snd.fst = o.snd.snd.snd.snd.snd.snd.fst.fst.snd.snd.fst ∧ o.snd.snd.snd.snd.snd.snd.fst.fst.snd.snd.snd.fst = 
  o.snd.snd.snd.snd.snd.snd.fst.fst.snd.snd.snd.fst ∧ o.snd.snd.snd.snd.snd.snd.fst.fst.snd.snd.snd.snd.fst = o.snd.snd.snd.snd.snd.snd.fst.fst.snd.snd.snd.snd.fst ∧ 
  o.snd.snd.snd.snd.snd.snd.fst.fst.snd.snd.snd.snd.snd.fst = o.snd.snd.snd.snd.snd.snd.fst.fst.snd.snd.snd.snd.snd.fst ∧ o.snd.snd.snd.snd.snd.snd.fst.fst.snd.snd.snd.snd.snd.snd.fst = 
  o.snd.snd.snd.snd.snd.snd.fst.fst.snd.snd.snd.snd.snd.snd.fst ∧ o.snd.snd.snd.snd.snd.snd.fst.fst.snd.snd.snd.snd.snd.snd.snd.fst = o.snd.snd.snd.snd.snd.snd.fst.fst.snd.snd.snd.snd.snd.snd.snd.fst ∧ 
  o.snd.snd.snd.snd.snd.snd.fst.fst.snd.snd.snd.snd.snd.snd.snd.snd.fst = o.snd.snd.snd.snd.snd.snd.fst.fst.snd.snd.snd.snd.snd.snd.snd.snd.fst ∧ o.snd.snd.snd.snd.snd.snd.fst.fst.snd.snd.snd.snd.snd.snd.snd.snd.snd.fst 
  = o.snd.snd.snd.snd.snd.snd.fst.fst.snd.snd.snd.snd.snd.snd.snd.snd.snd.fst ∧ o.snd.snd.snd.snd.snd.snd.fst.fst.snd.snd.snd.snd.snd.snd.snd.snd.snd.snd.fst = 
  o.snd.snd.snd.snd.snd.snd.fst.fst.snd.snd.snd.snd.snd.snd.snd.snd.snd.snd.fst ∧ o.snd.snd.snd.snd.snd.snd.fst.fst.snd.snd.snd.snd.snd.snd.snd.snd.snd.snd.snd.fst = 
  o.snd.snd.snd.snd.snd.snd.fst.fst.snd.snd.snd.snd.snd.snd.snd.snd.snd.snd.snd.fst ∧ o.snd.snd.snd.snd.snd.snd.fst.fst.snd.snd.snd.snd.snd.snd.snd.snd.snd.snd.snd.snd.fst = 
  o.snd.snd.snd.snd.snd.snd.fst.fst.snd.snd.snd.snd.snd.snd.snd.snd.snd.snd.snd.snd.fst ∧ o.snd.snd.snd.snd.snd.snd.fst.fst.snd.snd.snd.snd.snd.snd.snd.snd.snd.snd.snd.snd.snd.fst = 
  o.snd.snd.snd.snd.snd.snd.fst.fst.snd.snd.snd.snd.snd.snd.snd.snd.snd.snd.snd.snd.snd.fst ∧ o.snd.snd.snd.snd.snd.snd.fst.fst.snd.snd.snd.snd.snd.snd.snd.snd.snd.snd.snd.snd.snd.snd.fst = 
  o.snd.snd.snd.snd.snd.snd.fst.fst.snd.snd.snd.snd.snd.snd.snd.snd.snd.snd.snd.snd.snd.snd.fst ∧ o.snd.snd.snd.snd.snd.snd.fst.fst.snd.snd.snd.snd.snd.snd.snd.snd.snd.snd.snd.snd.snd.snd.snd = 
  o.snd.snd.snd.snd.snd.snd.fst.fst.snd.snd.snd.snd.snd.snd.snd.snd.snd.snd.snd.snd.snd.snd.snd ∧ o.snd.snd.snd.snd.snd.snd.fst.snd = o.snd.snd.snd.snd.snd.snd.fst.snd ∧ o.snd.snd.snd.snd.snd.snd.snd.fst = 
  o.snd.snd.snd.snd.snd.snd.snd.fst ∧ o.snd.snd.snd.snd.snd.snd.snd.snd.fst = o.snd.snd.snd.snd.snd.snd.snd.snd.fst ∧ o.snd.snd.snd.snd.snd.snd.snd.snd.snd.fst = o.snd.snd.snd.snd.snd.snd.snd.snd.snd.fst ∧ 
  o.snd.snd.snd.snd.snd.snd.snd.snd.snd.snd.fst = o.snd.snd.snd.snd.snd.snd.snd.snd.snd.snd.fst ∧ o.snd.snd.snd.snd.snd.snd.snd.snd.snd.snd.snd.fst = o.snd.snd.snd.snd.snd.snd.snd.snd.snd.snd.snd.fst ∧ 
  o.snd.snd.snd.snd.snd.snd.snd.snd.snd.snd.snd.snd.fst = o.snd.snd.snd.snd.snd.snd.snd.snd.snd.snd.snd.snd.fst ∧ o.snd.snd.snd.snd.snd.snd.snd.snd.snd.snd.snd.snd.snd = 
  o.snd.snd.snd.snd.snd.snd.snd.snd.snd.snd.snd.snd.snd ∧ True) ∧ True) ∧ (l.fst = l.fst ∧ l.snd = l.snd ∧ True) ∧ (o.fst.fst = o.fst.fst ∧ o.fst.snd.fst = o.fst.snd.fst ∧ o.fst.snd.snd.fst = o.fst.snd.snd.fst ∧ 
  o.fst.snd.snd.snd.fst = o.fst.snd.snd.snd.fst ∧ o.fst.snd.snd.snd.snd.fst = o.fst.snd.snd.snd.snd.fst ∧ o.fst.snd.snd.snd.snd.snd.fst = o.fst.snd.snd.snd.snd.snd.fst ∧ o.fst.snd.snd.snd.snd.snd.snd = 
  o.fst.snd.snd.snd.snd.snd.snd ∧ o.snd.fst = o.snd.fst ∧ o.snd.snd.fst = o.snd.snd.fst ∧ o.snd.snd.snd.fst = o.snd.snd.snd.fst ∧ o.snd.snd.snd.snd.fst.fst = o.snd.snd.snd.snd.fst.fst ∧ o.snd.snd.snd.snd.fst.snd = 
  o.snd.snd.snd.snd.fst.snd ∧ o.snd.snd.snd.snd.snd.fst.fst = o.snd.snd.snd.snd.snd.fst.fst ∧ o.snd.snd.snd.snd.snd.fst.snd = o.snd.snd.snd.snd.snd.fst.snd ∧ o.snd.snd.snd.snd.snd.snd.fst.fst.fst = 
  o.snd.snd.snd.snd.snd.snd.fst.fst.fst ∧ o.snd.snd.snd.snd.snd.snd.fst.fst.snd.fst = o.snd.snd.snd.snd.snd.snd.fst.fst.snd.fst ∧ o.snd.snd.snd.snd.snd.snd.fst.fst.snd.snd.fst = 
  o.snd.snd.snd.snd.snd.snd.fst.fst.snd.snd.fst ∧ o.snd.snd.snd.snd.snd.snd.fst.fst.snd.snd.snd.fst = o.snd.snd.snd.snd.snd.snd.fst.fst.snd.snd.snd.fst ∧ o.snd.snd.snd.snd.snd.snd.fst.fst.snd.snd.snd.snd.fst = 
  o.snd.snd.snd.snd.snd.snd.fst.fst.snd.snd.snd.snd.fst ∧ o.snd.snd.snd.snd.snd.snd.fst.fst.snd.snd.snd.snd.snd.fst = o.snd.snd.snd.snd.snd.snd.fst.fst.snd.snd.snd.snd.snd.fst ∧ 
  o.snd.snd.snd.snd.snd.snd.fst.fst.snd.snd.snd.snd.snd.snd.fst = o.snd.snd.snd.snd.snd.snd.fst.fst.snd.snd.snd.snd.snd.snd.fst ∧ o.snd.snd.snd.snd.snd.snd.fst.fst.snd.snd.snd.snd.snd.snd.snd.fst = 
  o.snd.snd.snd.snd.snd.snd.fst.fst.snd.snd.snd.snd.snd.snd.snd.fst ∧ o.snd.snd.snd.snd.snd.snd.fst.fst.snd.snd.snd.snd.snd.snd.snd.snd.fst = o.snd.snd.snd.snd.snd.snd.fst.fst.snd.snd.snd.snd.snd.snd.snd.snd.fst ∧ 
  o.snd.snd.snd.snd.snd.snd.fst.fst.snd.snd.snd.snd.snd.snd.snd.snd.snd.fst = o.snd.snd.snd.snd.snd.snd.fst.fst.snd.snd.snd.snd.snd.snd.snd.snd.snd.fst ∧ 
  o.snd.snd.snd.snd.snd.snd.fst.fst.snd.snd.snd.snd.snd.snd.snd.snd.snd.snd.fst = o.snd.snd.snd.snd.snd.snd.fst.fst.snd.snd.snd.snd.snd.snd.snd.snd.snd.snd.fst ∧ 
  o.snd.snd.snd.snd.snd.snd.fst.fst.snd.snd.snd.snd.snd.snd.snd.snd.snd.snd.snd.fst = o.snd.snd.snd.snd.snd.snd.fst.fst.snd.snd.snd.snd.snd.snd.snd.snd.snd.snd.snd.fst ∧ 
  o.snd.snd.snd.snd.snd.snd.fst.fst.snd.snd.snd.snd.snd.snd.snd.snd.snd.snd.snd.snd.fst = o.snd.snd.snd.snd.snd.snd.fst.fst.snd.snd.snd.snd.snd.snd.snd.snd.snd.snd.snd.snd.fst ∧ 
  o.snd.snd.snd.snd.snd.snd.fst.fst.snd.snd.snd.snd.snd.snd.snd.snd.snd.snd.snd.snd.snd.fst = o.snd.snd.snd.snd.snd.snd.fst.fst.snd.snd.snd.snd.snd.snd.snd.snd.snd.snd.snd.snd.snd.fst ∧ 
  o.snd.snd.snd.snd.snd.snd.fst.fst.snd.snd.snd.snd.snd.snd.snd.snd.snd.snd.snd.snd.snd.snd.fst = o.snd.snd.snd.snd.snd.snd.fst.fst.snd.snd.snd.snd.snd.snd.snd.snd.snd.snd.snd.snd.snd.snd.fst ∧ 
  o.snd.snd.snd.snd.snd.snd.fst.fst.snd.snd.snd.snd.snd.snd.snd.snd.snd.snd.snd.snd.snd.snd.snd = o.snd.snd.snd.snd.snd.snd.fst.fst.snd.snd.snd.snd.snd.snd.snd.snd.snd.snd.snd.snd.snd.snd.snd ∧ 
  o.snd.snd.snd.snd.snd.snd.fst.snd = o.snd.snd.snd.snd.snd.snd.fst.snd ∧ o.snd.snd.snd.snd.snd.snd.snd.fst = o.snd.snd.snd.snd.snd.snd.snd.fst ∧ o.snd.snd.snd.snd.snd.snd.snd.snd.fst = 
  o.snd.snd.snd.snd.snd.snd.snd.snd.fst ∧ o.snd.snd.snd.snd.snd.snd.snd.snd.snd.fst = o.snd.snd.snd.snd.snd.snd.snd.snd.snd.fst ∧ o.snd.snd.snd.snd.snd.snd.snd.snd.snd.snd.fst = 
  o.snd.snd.snd.snd.snd.snd.snd.snd.snd.snd.fst ∧ o.snd.snd.snd.snd.snd.snd.snd.snd.snd.snd.snd.fst = o.snd.snd.snd.snd.snd.snd.snd.snd.snd.snd.snd.fst ∧ o.snd.snd.snd.snd.snd.snd.snd.snd.snd.snd.snd.snd.fst = 
  o.snd.snd.snd.snd.snd.snd.snd.snd.snd.snd.snd.snd.fst ∧ o.snd.snd.snd.snd.snd.snd.snd.snd.snd.snd.snd.snd.snd = o.snd.snd.snd.snd.snd.snd.snd.snd.snd.snd.snd.snd.snd ∧ True) ∧ True ∧ namedL [(l.fst, l.snd), 
  (o.fst.snd.snd.snd.snd.snd.fst, o.fst.snd.snd.snd.snd.snd.snd)] ++ [(0 : Int)] = namedL [(l.fst, l.snd), (o.fst.snd.snd.snd.snd.snd.fst, o.fst.snd.snd.snd.snd.snd.snd)] ++ [(0 : Int)] ∧ [(0 : Int)] = [(0 : Int)] ∧ 
  True))) ∧ (decide ((↑x : Int) < (↑(namedL [(l.fst, l.snd), (o.fst.snd.snd.snd.snd.snd.fst, o.fst.snd.snd.snd.snd.snd.snd)] ++ [(0 : Int)]).length : Int)) = false → true = lowN l (olab o) ∧ True))) := by kernel_rfl
theorem ownN_vc (l : Lab) (o : Obj) : fvc PP (env PP [p34] [s33S] [] [] (ownNLoop l o)) Try.f18 c18 (ofArgs [lab, objT] (l, o, ())) St0 (gives [.bool] (ownN l o, ())) = (
  sumLs [(l.fst, l.snd), (o.fst.snd.snd.snd.snd.snd.fst, o.fst.snd.snd.snd.snd.snd.snd)] = true ∧ ((namedL [(l.fst, l.snd), (o.fst.snd.snd.snd.snd.snd.fst, o.fst.snd.snd.snd.snd.snd.snd)]).length + (1 : Nat)) * (8 : Nat) 
  ≤ (140737488355328 : Nat) ∧ ((namedL [(l.fst, l.snd), (o.fst.snd.snd.snd.snd.snd.fst, o.fst.snd.snd.snd.snd.snd.snd)] ++ [(0 : Int)]).length ≤ maxLen → ∃ (x0 : Nat), (x0 ≤ (nm l (olab o)).length ∧ (List.drop x0 (nm l 
  (olab o))).any (ownC l o) = ownN l o) ∧ ((True ∧ True) ∧ ((0 : Int) = (↑x0 : Int) ∧ (↑(namedL [(l.fst, l.snd), (o.fst.snd.snd.snd.snd.snd.fst, o.fst.snd.snd.snd.snd.snd.snd)] ++ [(0 : Int)]).length : Int) = (↑(namedL 
  [(l.fst, l.snd), (o.fst.snd.snd.snd.snd.snd.fst, o.fst.snd.snd.snd.snd.snd.snd)] ++ [(0 : Int)]).length : Int) ∧ True ∧ True ∧ True ∧ (l.fst = l.fst ∧ l.snd = l.snd ∧ True) ∧ (o.fst.fst = o.fst.fst ∧ o.fst.snd.fst = 
  o.fst.snd.fst ∧ o.fst.snd.snd.fst = o.fst.snd.snd.fst ∧ o.fst.snd.snd.snd.fst = o.fst.snd.snd.snd.fst ∧ o.fst.snd.snd.snd.snd.fst = o.fst.snd.snd.snd.snd.fst ∧ o.fst.snd.snd.snd.snd.snd.fst = 
  o.fst.snd.snd.snd.snd.snd.fst ∧ o.fst.snd.snd.snd.snd.snd.snd = o.fst.snd.snd.snd.snd.snd.snd ∧ o.snd.fst = o.snd.fst ∧ o.snd.snd.fst = o.snd.snd.fst ∧ o.snd.snd.snd.fst = o.snd.snd.snd.fst ∧ o.snd.snd.snd.snd.fst.fst 
  = o.snd.snd.snd.snd.fst.fst ∧ o.snd.snd.snd.snd.fst.snd = o.snd.snd.snd.snd.fst.snd ∧ o.snd.snd.snd.snd.snd.fst.fst = o.snd.snd.snd.snd.snd.fst.fst ∧ o.snd.snd.snd.snd.snd.fst.snd = o.snd.snd.snd.snd.snd.fst.snd ∧ 
  o.snd.snd.snd.snd.snd.snd.fst.fst.fst = o.snd.snd.snd.snd.snd.snd.fst.fst.fst ∧ o.snd.snd.snd.snd.snd.snd.fst.fst.snd.fst = o.snd.snd.snd.snd.snd.snd.fst.fst.snd.fst ∧ o.snd.snd.snd.snd.snd.snd.fst.fst.snd.snd.fst = 
  o.snd.snd.snd.snd.snd.snd.fst.fst.snd.snd.fst ∧ o.snd.snd.snd.snd.snd.snd.fst.fst.snd.snd.snd.fst = o.snd.snd.snd.snd.snd.snd.fst.fst.snd.snd.snd.fst ∧ o.snd.snd.snd.snd.snd.snd.fst.fst.snd.snd.snd.snd.fst = 
  o.snd.snd.snd.snd.snd.snd.fst.fst.snd.snd.snd.snd.fst ∧ o.snd.snd.snd.snd.snd.snd.fst.fst.snd.snd.snd.snd.snd.fst = o.snd.snd.snd.snd.snd.snd.fst.fst.snd.snd.snd.snd.snd.fst ∧ 
  o.snd.snd.snd.snd.snd.snd.fst.fst.snd.snd.snd.snd.snd.snd.fst = o.snd.snd.snd.snd.snd.snd.fst.fst.snd.snd.snd.snd.snd.snd.fst ∧ o.snd.snd.snd.snd.snd.snd.fst.fst.snd.snd.snd.snd.snd.snd.snd.fst = 
  o.snd.snd.snd.snd.snd.snd.fst.fst.snd.snd.snd.snd.snd.snd.snd.fst ∧ o.snd.snd.snd.snd.snd.snd.fst.fst.snd.snd.snd.snd.snd.snd.snd.snd.fst = o.snd.snd.snd.snd.snd.snd.fst.fst.snd.snd.snd.snd.snd.snd.snd.snd.fst ∧ 
  o.snd.snd.snd.snd.snd.snd.fst.fst.snd.snd.snd.snd.snd.snd.snd.snd.snd.fst = o.snd.snd.snd.snd.snd.snd.fst.fst.snd.snd.snd.snd.snd.snd.snd.snd.snd.fst ∧ 
  o.snd.snd.snd.snd.snd.snd.fst.fst.snd.snd.snd.snd.snd.snd.snd.snd.snd.snd.fst = o.snd.snd.snd.snd.snd.snd.fst.fst.snd.snd.snd.snd.snd.snd.snd.snd.snd.snd.fst ∧ 
  o.snd.snd.snd.snd.snd.snd.fst.fst.snd.snd.snd.snd.snd.snd.snd.snd.snd.snd.snd.fst = o.snd.snd.snd.snd.snd.snd.fst.fst.snd.snd.snd.snd.snd.snd.snd.snd.snd.snd.snd.fst ∧ 
  o.snd.snd.snd.snd.snd.snd.fst.fst.snd.snd.snd.snd.snd.snd.snd.snd.snd.snd.snd.snd.fst = o.snd.snd.snd.snd.snd.snd.fst.fst.snd.snd.snd.snd.snd.snd.snd.snd.snd.snd.snd.snd.fst ∧ 
  o.snd.snd.snd.snd.snd.snd.fst.fst.snd.snd.snd.snd.snd.snd.snd.snd.snd.snd.snd.snd.snd.fst = o.snd.snd.snd.snd.snd.snd.fst.fst.snd.snd.snd.snd.snd.snd.snd.snd.snd.snd.snd.snd.snd.fst ∧ 
  o.snd.snd.snd.snd.snd.snd.fst.fst.snd.snd.snd.snd.snd.snd.snd.snd.snd.snd.snd.snd.snd.snd.fst = o.snd.snd.snd.snd.snd.snd.fst.fst.snd.snd.snd.snd.snd.snd.snd.snd.snd.snd.snd.snd.snd.snd.fst ∧ 
  o.snd.snd.snd.snd.snd.snd.fst.fst.snd.snd.snd.snd.snd.snd.snd.snd.snd.snd.snd.snd.snd.snd.snd = o.snd.snd.snd.snd.snd.snd.fst.fst.snd.snd.snd.snd.snd.snd.snd.snd.snd.snd.snd.snd.snd.snd.snd ∧ 
  o.snd.snd.snd.snd.snd.snd.fst.snd = o.snd.snd.snd.snd.snd.snd.fst.snd ∧ o.snd.snd.snd.snd.snd.snd.snd.fst = o.snd.snd.snd.snd.snd.snd.snd.fst ∧ o.snd.snd.snd.snd.snd.snd.snd.snd.fst = 
  o.snd.snd.snd.snd.snd.snd.snd.snd.fst ∧ o.snd.snd.snd.snd.snd.snd.snd.snd.snd.fst = o.snd.snd.snd.snd.snd.snd.snd.snd.snd.fst ∧ o.snd.snd.snd.snd.snd.snd.snd.snd.snd.snd.fst = 
  o.snd.snd.snd.snd.snd.snd.snd.snd.snd.snd.fst ∧ o.snd.snd.snd.snd.snd.snd.snd.snd.snd.snd.snd.fst = o.snd.snd.snd.snd.snd.snd.snd.snd.snd.snd.snd.fst ∧ o.snd.snd.snd.snd.snd.snd.snd.snd.snd.snd.snd.snd.fst = 
  o.snd.snd.snd.snd.snd.snd.snd.snd.snd.snd.snd.snd.fst ∧ o.snd.snd.snd.snd.snd.snd.snd.snd.snd.snd.snd.snd.snd = o.snd.snd.snd.snd.snd.snd.snd.snd.snd.snd.snd.snd.snd ∧ True) ∧ True) ∧ (l.fst = l.fst ∧ l.snd = l.snd ∧ 
  True) ∧ (o.fst.fst = o.fst.fst ∧ o.fst.snd.fst = o.fst.snd.fst ∧ o.fst.snd.snd.fst = o.fst.snd.snd.fst ∧ o.fst.snd.snd.snd.fst = o.fst.snd.snd.snd.fst ∧ o.fst.snd.snd.snd.snd.fst = o.fst.snd.snd.snd.snd.fst ∧ 
  o.fst.snd.snd.snd.snd.snd.fst = o.fst.snd.snd.snd.snd.snd.fst ∧ o.fst.snd.snd.snd.snd.snd.snd = o.fst.snd.snd.snd.snd.snd.snd ∧ o.snd.fst = o.snd.fst ∧ o.snd.snd.fst = o.snd.snd.fst ∧ o.snd.snd.snd.fst = 
  o.snd.snd.snd.fst ∧ o.snd.snd.snd.snd.fst.fst = o.snd.snd.snd.snd.fst.fst ∧ o.snd.snd.snd.snd.fst.snd = o.snd.snd.snd.snd.fst.snd ∧ o.snd.snd.snd.snd.snd.fst.fst = o.snd.snd.snd.snd.snd.fst.fst ∧ 
  o.snd.snd.snd.snd.snd.fst.snd = o.snd.snd.snd.snd.snd.fst.snd ∧ o.snd.snd.snd.snd.snd.snd.fst.fst.fst = o.snd.snd.snd.snd.snd.snd.fst.fst.fst ∧ o.snd.snd.snd.snd.snd.snd.fst.fst.snd.fst = 
  o.snd.snd.snd.snd.snd.snd.fst.fst.snd.fst ∧ o.snd.snd.snd.snd.snd.snd.fst.fst.snd.snd.fst = o.snd.snd.snd.snd.snd.snd.fst.fst.snd.snd.fst ∧ o.snd.snd.snd.snd.snd.snd.fst.fst.snd.snd.snd.fst = 
  o.snd.snd.snd.snd.snd.snd.fst.fst.snd.snd.snd.fst ∧ o.snd.snd.snd.snd.snd.snd.fst.fst.snd.snd.snd.snd.fst = o.snd.snd.snd.snd.snd.snd.fst.fst.snd.snd.snd.snd.fst ∧ 
  o.snd.snd.snd.snd.snd.snd.fst.fst.snd.snd.snd.snd.snd.fst = o.snd.snd.snd.snd.snd.snd.fst.fst.snd.snd.snd.snd.snd.fst ∧ o.snd.snd.snd.snd.snd.snd.fst.fst.snd.snd.snd.snd.snd.snd.fst = 
  o.snd.snd.snd.snd.snd.snd.fst.fst.snd.snd.snd.snd.snd.snd.fst ∧ o.snd.snd.snd.snd.snd.snd.fst.fst.snd.snd.snd.snd.snd.snd.snd.fst = o.snd.snd.snd.snd.snd.snd.fst.fst.snd.snd.snd.snd.snd.snd.snd.fst ∧ 
  o.snd.snd.snd.snd.snd.snd.fst.fst.snd.snd.snd.snd.snd.snd.snd.snd.fst = o.snd.snd.snd.snd.snd.snd.fst.fst.snd.snd.snd.snd.snd.snd.snd.snd.fst ∧ o.snd.snd.snd.snd.snd.snd.fst.fst.snd.snd.snd.snd.snd.snd.snd.snd.snd.fst 
  = o.snd.snd.snd.snd.snd.snd.fst.fst.snd.snd.snd.snd.snd.snd.snd.snd.snd.fst ∧ o.snd.snd.snd.snd.snd.snd.fst.fst.snd.snd.snd.snd.snd.snd.snd.snd.snd.snd.fst = 
  o.snd.snd.snd.snd.snd.snd.fst.fst.snd.snd.snd.snd.snd.snd.snd.snd.snd.snd.fst ∧ o.snd.snd.snd.snd.snd.snd.fst.fst.snd.snd.snd.snd.snd.snd.snd.snd.snd.snd.snd.fst = 
  o.snd.snd.snd.snd.snd.snd.fst.fst.snd.snd.snd.snd.snd.snd.snd.snd.snd.snd.snd.fst ∧ o.snd.snd.snd.snd.snd.snd.fst.fst.snd.snd.snd.snd.snd.snd.snd.snd.snd.snd.snd.snd.fst = 
  o.snd.snd.snd.snd.snd.snd.fst.fst.snd.snd.snd.snd.snd.snd.snd.snd.snd.snd.snd.snd.fst ∧ o.snd.snd.snd.snd.snd.snd.fst.fst.snd.snd.snd.snd.snd.snd.snd.snd.snd.snd.snd.snd.snd.fst = 
  o.snd.snd.snd.snd.snd.snd.fst.fst.snd.snd.snd.snd.snd.snd.snd.snd.snd.snd.snd.snd.snd.fst ∧ o.snd.snd.snd.snd.snd.snd.fst.fst.snd.snd.snd.snd.snd.snd.snd.snd.snd.snd.snd.snd.snd.snd.fst = 
  o.snd.snd.snd.snd.snd.snd.fst.fst.snd.snd.snd.snd.snd.snd.snd.snd.snd.snd.snd.snd.snd.snd.fst ∧ o.snd.snd.snd.snd.snd.snd.fst.fst.snd.snd.snd.snd.snd.snd.snd.snd.snd.snd.snd.snd.snd.snd.snd = 
  o.snd.snd.snd.snd.snd.snd.fst.fst.snd.snd.snd.snd.snd.snd.snd.snd.snd.snd.snd.snd.snd.snd.snd ∧ o.snd.snd.snd.snd.snd.snd.fst.snd = o.snd.snd.snd.snd.snd.snd.fst.snd ∧ o.snd.snd.snd.snd.snd.snd.snd.fst = 
  o.snd.snd.snd.snd.snd.snd.snd.fst ∧ o.snd.snd.snd.snd.snd.snd.snd.snd.fst = o.snd.snd.snd.snd.snd.snd.snd.snd.fst ∧ o.snd.snd.snd.snd.snd.snd.snd.snd.snd.fst = o.snd.snd.snd.snd.snd.snd.snd.snd.snd.fst ∧ 
  o.snd.snd.snd.snd.snd.snd.snd.snd.snd.snd.fst = o.snd.snd.snd.snd.snd.snd.snd.snd.snd.snd.fst ∧ o.snd.snd.snd.snd.snd.snd.snd.snd.snd.snd.snd.fst = o.snd.snd.snd.snd.snd.snd.snd.snd.snd.snd.snd.fst ∧ 
  o.snd.snd.snd.snd.snd.snd.snd.snd.snd.snd.snd.snd.fst = o.snd.snd.snd.snd.snd.snd.snd.snd.snd.snd.snd.snd.fst ∧ o.snd.snd.snd.snd.snd.snd.snd.snd.snd.snd.snd.snd.snd = 
  o.snd.snd.snd.snd.snd.snd.snd.snd.snd.snd.snd.snd.snd ∧ True) ∧ True ∧ namedL [(l.fst, l.snd), (o.fst.snd.snd.snd.snd.snd.fst, o.fst.snd.snd.snd.snd.snd.snd)] ++ [(0 : Int)] = namedL [(l.fst, l.snd), 
  (o.fst.snd.snd.snd.snd.snd.fst, o.fst.snd.snd.snd.snd.snd.snd)] ++ [(0 : Int)] ∧ [(0 : Int)] = [(0 : Int)] ∧ True) ∧ ∀ (x : Nat), x ≤ (nm l (olab o)).length ∧ (List.drop x (nm l (olab o))).any (ownC l o) = ownN l o → 
  (decide ((↑x : Int) < (↑(namedL [(l.fst, l.snd), (o.fst.snd.snd.snd.snd.snd.fst, o.fst.snd.snd.snd.snd.snd.snd)] ++ [(0 : Int)]).length : Int)) = true → ((0 : Int) ≤ (↑x : Int) ∧ (↑x : Int) < (↑(namedL [(l.fst, l.snd), 
  (o.fst.snd.snd.snd.snd.snd.fst, o.fst.snd.snd.snd.snd.snd.snd)] ++ [(0 : Int)]).length : Int)) ∧ (↑x : Int).toNat < (namedL [(l.fst, l.snd), (o.fst.snd.snd.snd.snd.snd.fst, o.fst.snd.snd.snd.snd.snd.snd)] ++ [(0 : 
  Int)]).length ∧ ∀ (y : Int), (namedL [(l.fst, l.snd), (o.fst.snd.snd.snd.snd.snd.fst, o.fst.snd.snd.snd.snd.snd.snd)] ++ [(0 : Int)])[(↑x : Int).toNat]? = some y → ∃ (v : Bool), (true = true ∧ ((atL 
  (o.fst.snd.snd.snd.snd.snd.fst, o.fst.snd.snd.snd.snd.snd.snd) y == (0 : Int)) = true → true = true ∧ (decide (atL (l.fst, l.snd) y < (4 : Int)) = true → ((o.fst.snd.fst == (4 : Int)) = false → (o.fst.snd.fst == (5 : 
  Int)) = v ∧ True) ∧ ((o.fst.snd.fst == (4 : Int)) = !false → true = v ∧ True)) ∧ (decide (atL (l.fst, l.snd) y < (4 : Int)) = !true → false = v ∧ True)) ∧ ((atL (o.fst.snd.snd.snd.snd.snd.fst, 
  o.fst.snd.snd.snd.snd.snd.snd) y == (0 : Int)) = !true → false = v ∧ True)) ∧ (v = true → true = ownN l o ∧ True) ∧ (v = false → ∃ (x' : Nat), (x' ≤ (nm l (olab o)).length ∧ (List.drop x' (nm l (olab o))).any (ownC l 
  o) = ownN l o) ∧ (nm l (olab o)).length - x' < (nm l (olab o)).length - x ∧ (True ∧ True) ∧ (IntKind.i64.wrap ((↑x : Int) + (1 : Int)) = (↑x' : Int) ∧ (↑(namedL [(l.fst, l.snd), (o.fst.snd.snd.snd.snd.snd.fst, 
  o.fst.snd.snd.snd.snd.snd.snd)] ++ [(0 : Int)]).length : Int) = (↑(namedL [(l.fst, l.snd), (o.fst.snd.snd.snd.snd.snd.fst, o.fst.snd.snd.snd.snd.snd.snd)] ++ [(0 : Int)]).length : Int) ∧ True ∧ True ∧ True ∧ (l.fst = 
  l.fst ∧ l.snd = l.snd ∧ True) ∧ (o.fst.fst = o.fst.fst ∧ o.fst.snd.fst = o.fst.snd.fst ∧ o.fst.snd.snd.fst = o.fst.snd.snd.fst ∧ o.fst.snd.snd.snd.fst = o.fst.snd.snd.snd.fst ∧ o.fst.snd.snd.snd.snd.fst = 
  o.fst.snd.snd.snd.snd.fst ∧ o.fst.snd.snd.snd.snd.snd.fst = o.fst.snd.snd.snd.snd.snd.fst ∧ o.fst.snd.snd.snd.snd.snd.snd = o.fst.snd.snd.snd.snd.snd.snd ∧ o.snd.fst = o.snd.fst ∧ o.snd.snd.fst = o.snd.snd.fst ∧ 
  o.snd.snd.snd.fst = o.snd.snd.snd.fst ∧ o.snd.snd.snd.snd.fst.fst = o.snd.snd.snd.snd.fst.fst ∧ o.snd.snd.snd.snd.fst.snd = o.snd.snd.snd.snd.fst.snd ∧ o.snd.snd.snd.snd.snd.fst.fst = o.snd.snd.snd.snd.snd.fst.fst ∧ 
  o.snd.snd.snd.snd.snd.fst.snd = o.snd.snd.snd.snd.snd.fst.snd ∧ o.snd.snd.snd.snd.snd.snd.fst.fst.fst = o.snd.snd.snd.snd.snd.snd.fst.fst.fst ∧ o.snd.snd.snd.snd.snd.snd.fst.fst.snd.fst = 
  o.snd.snd.snd.snd.snd.snd.fst.fst.snd.fst ∧ o.snd.snd.snd.snd.snd.snd.fst.fst.snd.snd.fst = o.snd.snd.snd.snd.snd.snd.fst.fst.snd.snd.fst ∧ o.snd.snd.snd.snd.snd.snd.fst.fst.snd.snd.snd.fst = 
  o.snd.snd.snd.snd.snd.snd.fst.fst.snd.snd.snd.fst ∧ o.snd.snd.snd.snd.snd.snd.fst.fst.snd.snd.snd.snd.fst = o.snd.snd.snd.snd.snd.snd.fst.fst.snd.snd.snd.snd.fst ∧ 
  o.snd.snd.snd.snd.snd.snd.fst.fst.snd.snd.snd.snd.snd.fst = o.snd.snd.snd.snd.snd.snd.fst.fst.snd.snd.snd.snd.snd.fst ∧ o.snd.snd.snd.snd.snd.snd.fst.fst.snd.snd.snd.snd.snd.snd.fst = 
  o.snd.snd.snd.snd.snd.snd.fst.fst.snd.snd.snd.snd.snd.snd.fst ∧ o.snd.snd.snd.snd.snd.snd.fst.fst.snd.snd.snd.snd.snd.snd.snd.fst = o.snd.snd.snd.snd.snd.snd.fst.fst.snd.snd.snd.snd.snd.snd.snd.fst ∧ 
  o.snd.snd.snd.snd.snd.snd.fst.fst.snd.snd.snd.snd.snd.snd.snd.snd.fst = o.snd.snd.snd.snd.snd.snd.fst.fst.snd.snd.snd.snd.snd.snd.snd.snd.fst ∧ o.snd.snd.snd.snd.snd.snd.fst.fst.snd.snd.snd.snd.snd.snd.snd.snd.snd.fst 
  = o.snd.snd.snd.snd.snd.snd.fst.fst.snd.snd.snd.snd.snd.snd.snd.snd.snd.fst ∧ o.snd.snd.snd.snd.snd.snd.fst.fst.snd.snd.snd.snd.snd.snd.snd.snd.snd.snd.fst = 
  o.snd.snd.snd.snd.snd.snd.fst.fst.snd.snd.snd.snd.snd.snd.snd.snd.snd.snd.fst ∧ o.snd.snd.snd.snd.snd.snd.fst.fst.snd.snd.snd.snd.snd.snd.snd.snd.snd.snd.snd.fst = 
  o.snd.snd.snd.snd.snd.snd.fst.fst.snd.snd.snd.snd.snd.snd.snd.snd.snd.snd.snd.fst ∧ o.snd.snd.snd.snd.snd.snd.fst.fst.snd.snd.snd.snd.snd.snd.snd.snd.snd.snd.snd.snd.fst = 
  o.snd.snd.snd.snd.snd.snd.fst.fst.snd.snd.snd.snd.snd.snd.snd.snd.snd.snd.snd.snd.fst ∧ o.snd.snd.snd.snd.snd.snd.fst.fst.snd.snd.snd.snd.snd.snd.snd.snd.snd.snd.snd.snd.snd.fst = 
  o.snd.snd.snd.snd.snd.snd.fst.fst.snd.snd.snd.snd.snd.snd.snd.snd.snd.snd.snd.snd.snd.fst ∧ o.snd.snd.snd.snd.snd.snd.fst.fst.snd.snd.snd.snd.snd.snd.snd.snd.snd.snd.snd.snd.snd.snd.fst = 
  o.snd.snd.snd.snd.snd.snd.fst.fst.snd.snd.snd.snd.snd.snd.snd.snd.snd.snd.snd.snd.snd.snd.fst ∧ o.snd.snd.snd.snd.snd.snd.fst.fst.snd.snd.snd.snd.snd.snd.snd.snd.snd.snd.snd.snd.snd.snd.snd = 
  o.snd.snd.snd.snd.snd.snd.fst.fst.snd.snd.snd.snd.snd.snd.snd.snd.snd.snd.snd.snd.snd.snd.snd ∧ o.snd.snd.snd.snd.snd.snd.fst.snd = o.snd.snd.snd.snd.snd.snd.fst.snd ∧ o.snd.snd.snd.snd.snd.snd.snd.fst = 
  o.snd.snd.snd.snd.snd.snd.snd.fst ∧ o.snd.snd.snd.snd.snd.snd.snd.snd.fst = o.snd.snd.snd.snd.snd.snd.snd.snd.fst ∧ o.snd.snd.snd.snd.snd.snd.snd.snd.snd.fst = o.snd.snd.snd.snd.snd.snd.snd.snd.snd.fst ∧ 
  o.snd.snd.snd.snd.snd.snd.snd.snd.snd.snd.fst = o.snd.snd.snd.snd.snd.snd.snd.snd.snd.snd.fst ∧ o.snd.snd.snd.snd.snd.snd.snd.snd.snd.snd.snd.fst = o.snd.snd.snd.snd.snd.snd.snd.snd.snd.snd.snd.fst ∧ 
  o.snd.snd.snd.snd.snd.snd.snd.snd.snd.snd.snd.snd.fst = o.snd.snd.snd.snd.snd.snd.snd.snd.snd.snd.snd.snd.fst ∧ o.snd.snd.snd.snd.snd.snd.snd.snd.snd.snd.snd.snd.snd = 
  o.snd.snd.snd.snd.snd.snd.snd.snd.snd.snd.snd.snd.snd ∧ True) ∧ True) ∧ (l.fst = l.fst ∧ l.snd = l.snd ∧ True) ∧ (o.fst.fst = o.fst.fst ∧ o.fst.snd.fst = o.fst.snd.fst ∧ o.fst.snd.snd.fst = o.fst.snd.snd.fst ∧ 
  o.fst.snd.snd.snd.fst = o.fst.snd.snd.snd.fst ∧ o.fst.snd.snd.snd.snd.fst = o.fst.snd.snd.snd.snd.fst ∧ o.fst.snd.snd.snd.snd.snd.fst = o.fst.snd.snd.snd.snd.snd.fst ∧ o.fst.snd.snd.snd.snd.snd.snd = 
  o.fst.snd.snd.snd.snd.snd.snd ∧ o.snd.fst = o.snd.fst ∧ o.snd.snd.fst = o.snd.snd.fst ∧ o.snd.snd.snd.fst = o.snd.snd.snd.fst ∧ o.snd.snd.snd.snd.fst.fst = o.snd.snd.snd.snd.fst.fst ∧ o.snd.snd.snd.snd.fst.snd = 
  o.snd.snd.snd.snd.fst.snd ∧ o.snd.snd.snd.snd.snd.fst.fst = o.snd.snd.snd.snd.snd.fst.fst ∧ o.snd.snd.snd.snd.snd.fst.snd = o.snd.snd.snd.snd.snd.fst.snd ∧ o.snd.snd.snd.snd.snd.snd.fst.fst.fst = 
  o.snd.snd.snd.snd.snd.snd.fst.fst.fst ∧ o.snd.snd.snd.snd.snd.snd.fst.fst.snd.fst = o.snd.snd.snd.snd.snd.snd.fst.fst.snd.fst ∧ o.snd.snd.snd.snd.snd.snd.fst.fst.snd.snd.fst = 
  o.snd.snd.snd.snd.snd.snd.fst.fst.snd.snd.fst ∧ o.snd.snd.snd.snd.snd.snd.fst.fst.snd.snd.snd.fst = o.snd.snd.snd.snd.snd.snd.fst.fst.snd.snd.snd.fst ∧ o.snd.snd.snd.snd.snd.snd.fst.fst.snd.snd.snd.snd.fst = 
  o.snd.snd.snd.snd.snd.snd.fst.fst.snd.snd.snd.snd.fst ∧ o.snd.snd.snd.snd.snd.snd.fst.fst.snd.snd.snd.snd.snd.fst = o.snd.snd.snd.snd.snd.snd.fst.fst.snd.snd.snd.snd.snd.fst ∧ 
  o.snd.snd.snd.snd.snd.snd.fst.fst.snd.snd.snd.snd.snd.snd.fst = o.snd.snd.snd.snd.snd.snd.fst.fst.snd.snd.snd.snd.snd.snd.fst ∧ o.snd.snd.snd.snd.snd.snd.fst.fst.snd.snd.snd.snd.snd.snd.snd.fst = 
  o.snd.snd.snd.snd.snd.snd.fst.fst.snd.snd.snd.snd.snd.snd.snd.fst ∧ o.snd.snd.snd.snd.snd.snd.fst.fst.snd.snd.snd.snd.snd.snd.snd.snd.fst = o.snd.snd.snd.snd.snd.snd.fst.fst.snd.snd.snd.snd.snd.snd.snd.snd.fst ∧ 
  o.snd.snd.snd.snd.snd.snd.fst.fst.snd.snd.snd.snd.snd.snd.snd.snd.snd.fst = o.snd.snd.snd.snd.snd.snd.fst.fst.snd.snd.snd.snd.snd.snd.snd.snd.snd.fst ∧ 
  o.snd.snd.snd.snd.snd.snd.fst.fst.snd.snd.snd.snd.snd.snd.snd.snd.snd.snd.fst = o.snd.snd.snd.snd.snd.snd.fst.fst.snd.snd.snd.snd.snd.snd.snd.snd.snd.snd.fst ∧ 
  o.snd.snd.snd.snd.snd.snd.fst.fst.snd.snd.snd.snd.snd.snd.snd.snd.snd.snd.snd.fst = o.snd.snd.snd.snd.snd.snd.fst.fst.snd.snd.snd.snd.snd.snd.snd.snd.snd.snd.snd.fst ∧ 
  o.snd.snd.snd.snd.snd.snd.fst.fst.snd.snd.snd.snd.snd.snd.snd.snd.snd.snd.snd.snd.fst = o.snd.snd.snd.snd.snd.snd.fst.fst.snd.snd.snd.snd.snd.snd.snd.snd.snd.snd.snd.snd.fst ∧ 
  o.snd.snd.snd.snd.snd.snd.fst.fst.snd.snd.snd.snd.snd.snd.snd.snd.snd.snd.snd.snd.snd.fst = o.snd.snd.snd.snd.snd.snd.fst.fst.snd.snd.snd.snd.snd.snd.snd.snd.snd.snd.snd.snd.snd.fst ∧ 
  o.snd.snd.snd.snd.snd.snd.fst.fst.snd.snd.snd.snd.snd.snd.snd.snd.snd.snd.snd.snd.snd.snd.fst = o.snd.snd.snd.snd.snd.snd.fst.fst.snd.snd.snd.snd.snd.snd.snd.snd.snd.snd.snd.snd.snd.snd.fst ∧ 
  o.snd.snd.snd.snd.snd.snd.fst.fst.snd.snd.snd.snd.snd.snd.snd.snd.snd.snd.snd.snd.snd.snd.snd = o.snd.snd.snd.snd.snd.snd.fst.fst.snd.snd.snd.snd.snd.snd.snd.snd.snd.snd.snd.snd.snd.snd.snd ∧ 
  o.snd.snd.snd.snd.snd.snd.fst.snd = o.snd.snd.snd.snd.snd.snd.fst.snd ∧ o.snd.snd.snd.snd.snd.snd.snd.fst = o.snd.snd.snd.snd.snd.snd.snd.fst ∧ o.snd.snd.snd.snd.snd.snd.snd.snd.fst = 
  o.snd.snd.snd.snd.snd.snd.snd.snd.fst ∧ o.snd.snd.snd.snd.snd.snd.snd.snd.snd.fst = o.snd.snd.snd.snd.snd.snd.snd.snd.snd.fst ∧ o.snd.snd.snd.snd.snd.snd.snd.snd.snd.snd.fst = 
  o.snd.snd.snd.snd.snd.snd.snd.snd.snd.snd.fst ∧ o.snd.snd.snd.snd.snd.snd.snd.snd.snd.snd.snd.fst = o.snd.snd.snd.snd.snd.snd.snd.snd.snd.snd.snd.fst ∧ o.snd.snd.snd.snd.snd.snd.snd.snd.snd.snd.snd.snd.fst = 
  o.snd.snd.snd.snd.snd.snd.snd.snd.snd.snd.snd.snd.fst ∧ o.snd.snd.snd.snd.snd.snd.snd.snd.snd.snd.snd.snd.snd = o.snd.snd.snd.snd.snd.snd.snd.snd.snd.snd.snd.snd.snd ∧ True) ∧ True ∧ namedL [(l.fst, l.snd), 
  (o.fst.snd.snd.snd.snd.snd.fst, o.fst.snd.snd.snd.snd.snd.snd)] ++ [(0 : Int)] = namedL [(l.fst, l.snd), (o.fst.snd.snd.snd.snd.snd.fst, o.fst.snd.snd.snd.snd.snd.snd)] ++ [(0 : Int)] ∧ [(0 : Int)] = [(0 : Int)] ∧ 
  True)) ∧ (decide ((↑x : Int) < (↑(namedL [(l.fst, l.snd), (o.fst.snd.snd.snd.snd.snd.fst, o.fst.snd.snd.snd.snd.snd.snd)] ++ [(0 : Int)]).length : Int)) = false → false = ownN l o ∧ True))) := by kernel_rfl
end Go.Proofs.Ytlnclaggmjhbfaa
namespace Go.Proofs.Ytlnclaggmjhbfaa
open Go.Proofs.Ytlnclaggmjhbfaa.Gx
set_option maxRecDepth 100000
set_option maxHeartbeats 4000000
set_option linter.unusedSimpArgs false
set_option linter.unusedVariables false
theorem sml2_sum {l ol : Lab} (h : sml2 l ol = true) : sumLs [l, ol] = true ∧ ((namedL [l, ol]).length + 1) * 8 ≤ 140737488355328 := by
  have h : l.2.length + ol.2.length ≤ 17592186044414 := by simpa [sml2] using h
  have := namedL_lenS [l, ol]
  simp only [catsSum] at this
  refine ⟨?_, by omega⟩
  simp only [sumLs, catsSum]
  exact decide_eq_true (by omega)
theorem lowN_ok : PSpecOk PP 16 (Q [lab, objT] [.bool] (fun x => sml2 x.1 (olab x.2.1)) (fun x => (lowN x.1 (olab x.2.1), ()))) := by
  refine pspec_Q mixed (fn := Try.f16) (c := c16) rfl rfl _ _ rfl ?_
  rintro ⟨l, o, ⟨⟩⟩ - hp
  obtain ⟨hs1, hs2⟩ := sml2_sum (l := l) (ol := olab o) hp
  refine ⟨_, env_ok .., rfl, hold (lowN_vc l o) ?_⟩
  simp only [true_and, and_true, Prod.eta, eq_self_iff_true, toNat_cast]
  have hO : o.1.2.2.2.2.2 = olab o := rfl
  rw [hO]
  refine ⟨hs1, hs2, fun hA => ⟨0, ⟨Nat.zero_le _, rfl⟩, rfl, ?_⟩⟩
  have hnm : namedL [l, olab o] ++ [0] = nm l (olab o) := rfl
  rw [hnm] at hA ⊢
  rintro i ⟨hi, hinv⟩
  refine ⟨fun hlt => ?_, fun hge => ?_⟩
  · have hlt : i < (nm l (olab o)).length := by simpa using hlt
    refine ⟨⟨by omega, by omega⟩, hlt, fun y hy => ?_⟩
    obtain ⟨_, rfl⟩ := List.getElem?_eq_some_iff.1 hy
    rw [List.drop_eq_getElem_cons hlt, List.all_cons] at hinv
    have next : badN l (olab o) (nm l (olab o))[i] = false → ∃ (x' : Nat), (x' ≤ (nm l (olab o)).length ∧ ((List.drop x' (nm l (olab o))).all fun (c : Int) => !badN l (olab o) c) = lowN l (olab o)) ∧ (nm l (olab o)).length - x' < (nm l (olab o)).length - i ∧ IntKind.i64.wrap ((i : Int) + 1) = (x' : Int) := fun h => by
      rw [h] at hinv
      exact ⟨i + 1, ⟨by omega, by simpa using hinv⟩, by omega, wrap_succ hlt hA⟩
    have stop : badN l (olab o) (nm l (olab o))[i] = true → false = lowN l (olab o) := fun h => by
      rw [h] at hinv; simpa using hinv
    refine ⟨fun h0 => ⟨fun h => stop ?_, fun h => next ?_⟩, fun h0 => ⟨fun h => stop ?_, fun h => next ?_⟩⟩
    · simp only [badN, h0, if_true]; exact h
    · simp only [badN, h0, if_true]; exact h
    · simp only [badN, h0, Bool.false_eq_true, if_false]; exact h
    · simp only [badN, h0, Bool.false_eq_true, if_false]; exact h
  · have hge : ¬ i < (nm l (olab o)).length := by simpa using hge
    have hie : i = (nm l (olab o)).length := by omega
    rw [hie, List.drop_length] at hinv
    exact hinv
theorem ownN_ok : PSpecOk PP 18 (Q [lab, objT] [.bool] (fun x => sml2 x.1 (olab x.2.1)) (fun x => (ownN x.1 x.2.1, ()))) := by
  refine pspec_Q mixed (fn := Try.f18) (c := c18) rfl rfl _ _ rfl ?_
  rintro ⟨l, o, ⟨⟩⟩ - hp
  obtain ⟨hs1, hs2⟩ := sml2_sum (l := l) (ol := olab o) hp
  refine ⟨_, env_ok .., rfl, hold (ownN_vc l o) ?_⟩
  simp only [true_and, and_true, Prod.eta, eq_self_iff_true, toNat_cast]
  have hO : o.1.2.2.2.2.2 = olab o := rfl
  rw [hO]
  refine ⟨hs1, hs2, fun hA => ⟨0, ⟨Nat.zero_le _, rfl⟩, rfl, ?_⟩⟩
  have hnm : namedL [l, olab o] ++ [0] = nm l (olab o) := rfl
  rw [hnm] at hA ⊢
  rintro i ⟨hi, hinv⟩
  refine ⟨fun hlt => ?_, fun hge => ?_⟩
  · have hlt : i < (nm l (olab o)).length := by simpa using hlt
    refine ⟨⟨by omega, by omega⟩, hlt, fun y hy => ⟨ownC l o y, ?_, fun hv => ?_, fun hv => ⟨i + 1, ⟨by omega, ?_⟩, by omega, wrap_succ hlt hA⟩⟩⟩
    · have hk : okind o = o.1.2.1 := rfl
      simp only [ownC, hk]
      refine ⟨fun h0 => ⟨fun h1 => ⟨fun h2 => ?_, fun h2 => ?_⟩, fun h1 => ?_⟩, fun h0 => ?_⟩
      · rw [h0, h1, h2]; rfl
      · rw [h0, h1, h2]; rfl
      · rw [h0, h1]; rfl
      · rw [h0]; rfl
    · obtain ⟨_, rfl⟩ := List.getElem?_eq_some_iff.1 hy
      rw [List.drop_eq_getElem_cons hlt, List.any_cons, hv] at hinv
      simpa using hinv
    · obtain ⟨_, rfl⟩ := List.getElem?_eq_some_iff.1 hy
      rw [List.drop_eq_getElem_cons hlt, List.any_cons, hv] at hinv
      simpa using hinv
  · have hge : ¬ i < (nm l (olab o)).length := by simpa using hge
    have hie : i = (nm l (olab o)).length := by omega
    rw [hie, List.drop_length] at hinv
    exact hinv
theorem at_out {l : Lab} {c : Int} (h : ∀ x ∈ l.2, x.1 ≠ c) : atL l c = l.1 := by
  obtain ⟨d, cs⟩ := l
  show atR d cs c = d
  induction cs with
  | nil => rfl
  | cons x cs ih =>
    have hx : (x.1 == c) = false := by simpa using h x (by simp)
    simp only [atR, hx]
    exact ih (fun y hy => h y (by simp [hy]))
theorem at_zero {l : Lab} (h : rightL l = true) : atL l 0 = l.1 := by
  refine at_out (fun x hx e => ?_)
  have := (right_mem h x hx).2.1
  rw [e] at this
  exact absurd this (by decide)
theorem ok_bad (l ol : Lab) (c : Int) : okP (atL ol c, atL l c) = !badN l ol c := by
  unfold okP badN
  simp only
  by_cases h : atL ol c = 0
  · simp only [h, beq_self_eq_true, if_true, Bool.true_and]
    by_cases h2 : atL l c < 4
    · simp [h2]
    · have h3 : ¬ ((0 : Int) > atL l c) := by omega
      simp [h2, h3] <;> omega
  · have : (atL ol c == 0) = false := by simpa using h
    simp [this]
theorem nm_mem {l ol : Lab} {c : Int} : c ∈ nm l ol ↔ (∃ x ∈ ol.2, x.1 = c) ∨ (∃ x ∈ l.2, x.1 = c) ∨ c = 0 := by
  simp only [nm, List.mem_append, mem_namedL, List.mem_cons, List.not_mem_nil, or_false]
  constructor
  · rintro (⟨k, rfl | rfl, h⟩ | h)
    · exact .inr (.inl h)
    · exact .inl h
    · exact .inr (.inr h)
  · rintro (h | h | h)
    · exact .inl ⟨ol, .inr rfl, h⟩
    · exact .inl ⟨l, .inl rfl, h⟩
    · exact .inr h
theorem low_eq {l ol : Lab} (hl : rightL l = true) (ho : rightL ol = true) : lowV l ol = lowN l ol := by
  rw [Bool.eq_iff_iff]
  simp only [lowV, lowN, Bool.and_eq_true, List.all_eq_true, prs, List.mem_map]
  constructor
  · rintro ⟨h1, h2, h3⟩ c hc
    rw [← ok_bad]
    rcases nm_mem.1 hc with ⟨x, hx, rfl⟩ | ⟨x, hx, rfl⟩ | rfl
    · exact h1 _ ⟨x, hx, rfl⟩
    · exact h2 _ ⟨x, hx, rfl⟩
    · rw [at_zero hl, at_zero ho]; exact h3
  · intro h
    refine ⟨?_, ?_, ?_⟩
    · rintro _ ⟨x, hx, rfl⟩
      rw [ok_bad]; exact h _ (nm_mem.2 (.inl ⟨x, hx, rfl⟩))
    · rintro _ ⟨x, hx, rfl⟩
      rw [ok_bad]; exact h _ (nm_mem.2 (.inr (.inl ⟨x, hx, rfl⟩)))
    · have := h 0 (nm_mem.2 (.inr (.inr rfl)))
      rw [← ok_bad, at_zero hl, at_zero ho] at this
      exact this
theorem badP_iff {x y : Int} : badP (x, y) = true ↔ (x == 0) = true ∧ decide (y < 4) = true := by simp only [badP, Bool.and_eq_true]
theorem own_eqN {l : Lab} {o : Obj} (hl : rightL l = true) (ho : rightL (olab o) = true) : ownV l o = ownN l o := by
  rw [Bool.eq_iff_iff]
  simp only [ownV, ownN, ownC, Bool.and_eq_true, Bool.or_eq_true (_ || _) (_ || _), List.any_eq_true, prs, List.mem_map, badP]
  constructor
  · rintro ⟨h, hk⟩
    have : ∃ c ∈ nm l (olab o), (atL (olab o) c == 0) = true ∧ decide (atL l c < 4) = true := by
      simp only [Bool.or_eq_true, List.any_eq_true, List.mem_map, Bool.and_eq_true] at h
      rcases h with ⟨_, ⟨x, hx, rfl⟩, h⟩ | ⟨_, ⟨x, hx, rfl⟩, h⟩ | h
      · exact ⟨x.1, nm_mem.2 (.inl ⟨x, hx, rfl⟩), badP_iff.1 h⟩
      · exact ⟨x.1, nm_mem.2 (.inr (.inl ⟨x, hx, rfl⟩)), badP_iff.1 h⟩
      · exact ⟨0, nm_mem.2 (.inr (.inr rfl)), by rw [at_zero hl, at_zero ho]; exact h⟩
    obtain ⟨c, h1, h2⟩ := this
    exact ⟨c, h1, h2, hk⟩
  · rintro ⟨c, hc, h, hk⟩
    refine ⟨?_, hk⟩
    simp only [Bool.or_eq_true, List.any_eq_true, List.mem_map, Bool.and_eq_true]
    rcases nm_mem.1 hc with ⟨x, hx, rfl⟩ | ⟨x, hx, rfl⟩ | rfl
    · exact .inl ⟨_, ⟨x, hx, rfl⟩, badP_iff.2 h⟩
    · exact .inr (.inl ⟨_, ⟨x, hx, rfl⟩, badP_iff.2 h⟩)
    · rw [at_zero hl, at_zero ho] at h
      exact .inr (.inr h)
noncomputable def p16 : Pv PP := ⟨16, _, ⟨rfl, lowN_ok⟩⟩
noncomputable def p18 : Pv PP := ⟨18, _, ⟨rfl, ownN_ok⟩⟩
end Go.Proofs.Ytlnclaggmjhbfaa
namespace Go.Proofs.Ytlnclaggmjhbfaa
open Go.Proofs.Ytlnclaggmjhbfaa.Gx
set_option maxRecDepth 100000
set_option linter.unusedVariables false
set_option maxHeartbeats 0
theorem lows_vc (l : Lab) (o : Obj) : fvc PP (eP [p8, p12, p14, p15, p16, p17, p18]) Try.f4 c4 (ofArgs [lab, objT] (l, o, ())) St0 (gives [.bool] (true, ())) = (
  true = true ∧ ((!true) = true → false = true ∧ True) ∧ ((!true) = false → true = true ∧ ((!freeL (l.fst, l.snd)) = false → true = true ∧ ((!plainL (o.fst.snd.snd.snd.snd.snd.fst, o.fst.snd.snd.snd.snd.snd.snd)) = true 
  → true = true ∧ True) ∧ ((!plainL (o.fst.snd.snd.snd.snd.snd.fst, o.fst.snd.snd.snd.snd.snd.snd)) = false → ∃ (v : Bool), (true = true ∧ sml2 (l.fst, l.snd) (olab ((o.fst.fst, o.fst.snd.fst, o.fst.snd.snd.fst, 
  o.fst.snd.snd.snd.fst, o.fst.snd.snd.snd.snd.fst, o.fst.snd.snd.snd.snd.snd.fst, o.fst.snd.snd.snd.snd.snd.snd), o.snd.fst, o.snd.snd.fst, o.snd.snd.snd.fst, (o.snd.snd.snd.snd.fst.fst, o.snd.snd.snd.snd.fst.snd), 
  (o.snd.snd.snd.snd.snd.fst.fst, o.snd.snd.snd.snd.snd.fst.snd), ((o.snd.snd.snd.snd.snd.snd.fst.fst.fst, o.snd.snd.snd.snd.snd.snd.fst.fst.snd.fst, o.snd.snd.snd.snd.snd.snd.fst.fst.snd.snd.fst, 
  o.snd.snd.snd.snd.snd.snd.fst.fst.snd.snd.snd.fst, o.snd.snd.snd.snd.snd.snd.fst.fst.snd.snd.snd.snd.fst, o.snd.snd.snd.snd.snd.snd.fst.fst.snd.snd.snd.snd.snd.fst, 
  o.snd.snd.snd.snd.snd.snd.fst.fst.snd.snd.snd.snd.snd.snd.fst, o.snd.snd.snd.snd.snd.snd.fst.fst.snd.snd.snd.snd.snd.snd.snd.fst, o.snd.snd.snd.snd.snd.snd.fst.fst.snd.snd.snd.snd.snd.snd.snd.snd.fst, 
  o.snd.snd.snd.snd.snd.snd.fst.fst.snd.snd.snd.snd.snd.snd.snd.snd.snd.fst, o.snd.snd.snd.snd.snd.snd.fst.fst.snd.snd.snd.snd.snd.snd.snd.snd.snd.snd.fst, 
  o.snd.snd.snd.snd.snd.snd.fst.fst.snd.snd.snd.snd.snd.snd.snd.snd.snd.snd.snd.fst, o.snd.snd.snd.snd.snd.snd.fst.fst.snd.snd.snd.snd.snd.snd.snd.snd.snd.snd.snd.snd.fst, 
  o.snd.snd.snd.snd.snd.snd.fst.fst.snd.snd.snd.snd.snd.snd.snd.snd.snd.snd.snd.snd.snd.fst, o.snd.snd.snd.snd.snd.snd.fst.fst.snd.snd.snd.snd.snd.snd.snd.snd.snd.snd.snd.snd.snd.snd.fst, 
  o.snd.snd.snd.snd.snd.snd.fst.fst.snd.snd.snd.snd.snd.snd.snd.snd.snd.snd.snd.snd.snd.snd.snd), o.snd.snd.snd.snd.snd.snd.fst.snd), o.snd.snd.snd.snd.snd.snd.snd.fst, o.snd.snd.snd.snd.snd.snd.snd.snd.fst, 
  o.snd.snd.snd.snd.snd.snd.snd.snd.snd.fst, o.snd.snd.snd.snd.snd.snd.snd.snd.snd.snd.fst, o.snd.snd.snd.snd.snd.snd.snd.snd.snd.snd.snd.fst, o.snd.snd.snd.snd.snd.snd.snd.snd.snd.snd.snd.snd.fst, 
  o.snd.snd.snd.snd.snd.snd.snd.snd.snd.snd.snd.snd.snd)) = true ∧ ((lowV (l.fst, l.snd) (olab ((o.fst.fst, o.fst.snd.fst, o.fst.snd.snd.fst, o.fst.snd.snd.snd.fst, o.fst.snd.snd.snd.snd.fst, 
  o.fst.snd.snd.snd.snd.snd.fst, o.fst.snd.snd.snd.snd.snd.snd), o.snd.fst, o.snd.snd.fst, o.snd.snd.snd.fst, (o.snd.snd.snd.snd.fst.fst, o.snd.snd.snd.snd.fst.snd), (o.snd.snd.snd.snd.snd.fst.fst, 
  o.snd.snd.snd.snd.snd.fst.snd), ((o.snd.snd.snd.snd.snd.snd.fst.fst.fst, o.snd.snd.snd.snd.snd.snd.fst.fst.snd.fst, o.snd.snd.snd.snd.snd.snd.fst.fst.snd.snd.fst, o.snd.snd.snd.snd.snd.snd.fst.fst.snd.snd.snd.fst, 
  o.snd.snd.snd.snd.snd.snd.fst.fst.snd.snd.snd.snd.fst, o.snd.snd.snd.snd.snd.snd.fst.fst.snd.snd.snd.snd.snd.fst, o.snd.snd.snd.snd.snd.snd.fst.fst.snd.snd.snd.snd.snd.snd.fst, 
  o.snd.snd.snd.snd.snd.snd.fst.fst.snd.snd.snd.snd.snd.snd.snd.fst, o.snd.snd.snd.snd.snd.snd.fst.fst.snd.snd.snd.snd.snd.snd.snd.snd.fst, o.snd.snd.snd.snd.snd.snd.fst.fst.snd.snd.snd.snd.snd.snd.snd.snd.snd.fst, 
  o.snd.snd.snd.snd.snd.snd.fst.fst.snd.snd.snd.snd.snd.snd.snd.snd.snd.snd.fst, o.snd.snd.snd.snd.snd.snd.fst.fst.snd.snd.snd.snd.snd.snd.snd.snd.snd.snd.snd.fst, 
  o.snd.snd.snd.snd.snd.snd.fst.fst.snd.snd.snd.snd.snd.snd.snd.snd.snd.snd.snd.snd.fst, o.snd.snd.snd.snd.snd.snd.fst.fst.snd.snd.snd.snd.snd.snd.snd.snd.snd.snd.snd.snd.snd.fst, 
  o.snd.snd.snd.snd.snd.snd.fst.fst.snd.snd.snd.snd.snd.snd.snd.snd.snd.snd.snd.snd.snd.snd.fst, o.snd.snd.snd.snd.snd.snd.fst.fst.snd.snd.snd.snd.snd.snd.snd.snd.snd.snd.snd.snd.snd.snd.snd), 
  o.snd.snd.snd.snd.snd.snd.fst.snd), o.snd.snd.snd.snd.snd.snd.snd.fst, o.snd.snd.snd.snd.snd.snd.snd.snd.fst, o.snd.snd.snd.snd.snd.snd.snd.snd.snd.fst, o.snd.snd.snd.snd.snd.snd.snd.snd.snd.snd.fst, 
  o.snd.snd.snd.snd.snd.snd.snd.snd.snd.snd.snd.fst, o.snd.snd.snd.snd.snd.snd.snd.snd.snd.snd.snd.snd.fst, o.snd.snd.snd.snd.snd.snd.snd.snd.snd.snd.snd.snd.snd)) == lowN (l.fst, l.snd) (olab ((o.fst.fst, o.fst.snd.fst, 
  o.fst.snd.snd.fst, o.fst.snd.snd.snd.fst, o.fst.snd.snd.snd.snd.fst, o.fst.snd.snd.snd.snd.snd.fst, o.fst.snd.snd.snd.snd.snd.snd), o.snd.fst, o.snd.snd.fst, o.snd.snd.snd.fst, (o.snd.snd.snd.snd.fst.fst, 
  o.snd.snd.snd.snd.fst.snd), (o.snd.snd.snd.snd.snd.fst.fst, o.snd.snd.snd.snd.snd.fst.snd), ((o.snd.snd.snd.snd.snd.snd.fst.fst.fst, o.snd.snd.snd.snd.snd.snd.fst.fst.snd.fst, 
  o.snd.snd.snd.snd.snd.snd.fst.fst.snd.snd.fst, o.snd.snd.snd.snd.snd.snd.fst.fst.snd.snd.snd.fst, o.snd.snd.snd.snd.snd.snd.fst.fst.snd.snd.snd.snd.fst, o.snd.snd.snd.snd.snd.snd.fst.fst.snd.snd.snd.snd.snd.fst, 
  o.snd.snd.snd.snd.snd.snd.fst.fst.snd.snd.snd.snd.snd.snd.fst, o.snd.snd.snd.snd.snd.snd.fst.fst.snd.snd.snd.snd.snd.snd.snd.fst, o.snd.snd.snd.snd.snd.snd.fst.fst.snd.snd.snd.snd.snd.snd.snd.snd.fst, 
  o.snd.snd.snd.snd.snd.snd.fst.fst.snd.snd.snd.snd.snd.snd.snd.snd.snd.fst, o.snd.snd.snd.snd.snd.snd.fst.fst.snd.snd.snd.snd.snd.snd.snd.snd.snd.snd.fst, 
  o.snd.snd.snd.snd.snd.snd.fst.fst.snd.snd.snd.snd.snd.snd.snd.snd.snd.snd.snd.fst, o.snd.snd.snd.snd.snd.snd.fst.fst.snd.snd.snd.snd.snd.snd.snd.snd.snd.snd.snd.snd.fst, 
  o.snd.snd.snd.snd.snd.snd.fst.fst.snd.snd.snd.snd.snd.snd.snd.snd.snd.snd.snd.snd.snd.fst, o.snd.snd.snd.snd.snd.snd.fst.fst.snd.snd.snd.snd.snd.snd.snd.snd.snd.snd.snd.snd.snd.snd.fst, 
  o.snd.snd.snd.snd.snd.snd.fst.fst.snd.snd.snd.snd.snd.snd.snd.snd.snd.snd.snd.snd.snd.snd.snd), o.snd.snd.snd.snd.snd.snd.fst.snd), o.snd.snd.snd.snd.snd.snd.snd.fst, o.snd.snd.snd.snd.snd.snd.snd.snd.fst, 
  o.snd.snd.snd.snd.snd.snd.snd.snd.snd.fst, o.snd.snd.snd.snd.snd.snd.snd.snd.snd.snd.fst, o.snd.snd.snd.snd.snd.snd.snd.snd.snd.snd.snd.fst, o.snd.snd.snd.snd.snd.snd.snd.snd.snd.snd.snd.snd.fst, 
  o.snd.snd.snd.snd.snd.snd.snd.snd.snd.snd.snd.snd.snd))) = true → true = true ∧ sml2 (l.fst, l.snd) (olab ((o.fst.fst, o.fst.snd.fst, o.fst.snd.snd.fst, o.fst.snd.snd.snd.fst, o.fst.snd.snd.snd.snd.fst, 
  o.fst.snd.snd.snd.snd.snd.fst, o.fst.snd.snd.snd.snd.snd.snd), o.snd.fst, o.snd.snd.fst, o.snd.snd.snd.fst, (o.snd.snd.snd.snd.fst.fst, o.snd.snd.snd.snd.fst.snd), (o.snd.snd.snd.snd.snd.fst.fst, 
  o.snd.snd.snd.snd.snd.fst.snd), ((o.snd.snd.snd.snd.snd.snd.fst.fst.fst, o.snd.snd.snd.snd.snd.snd.fst.fst.snd.fst, o.snd.snd.snd.snd.snd.snd.fst.fst.snd.snd.fst, o.snd.snd.snd.snd.snd.snd.fst.fst.snd.snd.snd.fst, 
  o.snd.snd.snd.snd.snd.snd.fst.fst.snd.snd.snd.snd.fst, o.snd.snd.snd.snd.snd.snd.fst.fst.snd.snd.snd.snd.snd.fst, o.snd.snd.snd.snd.snd.snd.fst.fst.snd.snd.snd.snd.snd.snd.fst, 
  o.snd.snd.snd.snd.snd.snd.fst.fst.snd.snd.snd.snd.snd.snd.snd.fst, o.snd.snd.snd.snd.snd.snd.fst.fst.snd.snd.snd.snd.snd.snd.snd.snd.fst, o.snd.snd.snd.snd.snd.snd.fst.fst.snd.snd.snd.snd.snd.snd.snd.snd.snd.fst, 
  o.snd.snd.snd.snd.snd.snd.fst.fst.snd.snd.snd.snd.snd.snd.snd.snd.snd.snd.fst, o.snd.snd.snd.snd.snd.snd.fst.fst.snd.snd.snd.snd.snd.snd.snd.snd.snd.snd.snd.fst, 
  o.snd.snd.snd.snd.snd.snd.fst.fst.snd.snd.snd.snd.snd.snd.snd.snd.snd.snd.snd.snd.fst, o.snd.snd.snd.snd.snd.snd.fst.fst.snd.snd.snd.snd.snd.snd.snd.snd.snd.snd.snd.snd.snd.fst, 
  o.snd.snd.snd.snd.snd.snd.fst.fst.snd.snd.snd.snd.snd.snd.snd.snd.snd.snd.snd.snd.snd.snd.fst, o.snd.snd.snd.snd.snd.snd.fst.fst.snd.snd.snd.snd.snd.snd.snd.snd.snd.snd.snd.snd.snd.snd.snd), 
  o.snd.snd.snd.snd.snd.snd.fst.snd), o.snd.snd.snd.snd.snd.snd.snd.fst, o.snd.snd.snd.snd.snd.snd.snd.snd.fst, o.snd.snd.snd.snd.snd.snd.snd.snd.snd.fst, o.snd.snd.snd.snd.snd.snd.snd.snd.snd.snd.fst, 
  o.snd.snd.snd.snd.snd.snd.snd.snd.snd.snd.snd.fst, o.snd.snd.snd.snd.snd.snd.snd.snd.snd.snd.snd.snd.fst, o.snd.snd.snd.snd.snd.snd.snd.snd.snd.snd.snd.snd.snd)) = true ∧ (ownV (l.fst, l.snd) ((o.fst.fst, 
  o.fst.snd.fst, o.fst.snd.snd.fst, o.fst.snd.snd.snd.fst, o.fst.snd.snd.snd.snd.fst, o.fst.snd.snd.snd.snd.snd.fst, o.fst.snd.snd.snd.snd.snd.snd), o.snd.fst, o.snd.snd.fst, o.snd.snd.snd.fst, 
  (o.snd.snd.snd.snd.fst.fst, o.snd.snd.snd.snd.fst.snd), (o.snd.snd.snd.snd.snd.fst.fst, o.snd.snd.snd.snd.snd.fst.snd), ((o.snd.snd.snd.snd.snd.snd.fst.fst.fst, o.snd.snd.snd.snd.snd.snd.fst.fst.snd.fst, 
  o.snd.snd.snd.snd.snd.snd.fst.fst.snd.snd.fst, o.snd.snd.snd.snd.snd.snd.fst.fst.snd.snd.snd.fst, o.snd.snd.snd.snd.snd.snd.fst.fst.snd.snd.snd.snd.fst, o.snd.snd.snd.snd.snd.snd.fst.fst.snd.snd.snd.snd.snd.fst, 
  o.snd.snd.snd.snd.snd.snd.fst.fst.snd.snd.snd.snd.snd.snd.fst, o.snd.snd.snd.snd.snd.snd.fst.fst.snd.snd.snd.snd.snd.snd.snd.fst, o.snd.snd.snd.snd.snd.snd.fst.fst.snd.snd.snd.snd.snd.snd.snd.snd.fst, 
  o.snd.snd.snd.snd.snd.snd.fst.fst.snd.snd.snd.snd.snd.snd.snd.snd.snd.fst, o.snd.snd.snd.snd.snd.snd.fst.fst.snd.snd.snd.snd.snd.snd.snd.snd.snd.snd.fst, 
  o.snd.snd.snd.snd.snd.snd.fst.fst.snd.snd.snd.snd.snd.snd.snd.snd.snd.snd.snd.fst, o.snd.snd.snd.snd.snd.snd.fst.fst.snd.snd.snd.snd.snd.snd.snd.snd.snd.snd.snd.snd.fst, 
  o.snd.snd.snd.snd.snd.snd.fst.fst.snd.snd.snd.snd.snd.snd.snd.snd.snd.snd.snd.snd.snd.fst, o.snd.snd.snd.snd.snd.snd.fst.fst.snd.snd.snd.snd.snd.snd.snd.snd.snd.snd.snd.snd.snd.snd.fst, 
  o.snd.snd.snd.snd.snd.snd.fst.fst.snd.snd.snd.snd.snd.snd.snd.snd.snd.snd.snd.snd.snd.snd.snd), o.snd.snd.snd.snd.snd.snd.fst.snd), o.snd.snd.snd.snd.snd.snd.snd.fst, o.snd.snd.snd.snd.snd.snd.snd.snd.fst, 
  o.snd.snd.snd.snd.snd.snd.snd.snd.snd.fst, o.snd.snd.snd.snd.snd.snd.snd.snd.snd.snd.fst, o.snd.snd.snd.snd.snd.snd.snd.snd.snd.snd.snd.fst, o.snd.snd.snd.snd.snd.snd.snd.snd.snd.snd.snd.snd.fst, 
  o.snd.snd.snd.snd.snd.snd.snd.snd.snd.snd.snd.snd.snd) == ownN (l.fst, l.snd) ((o.fst.fst, o.fst.snd.fst, o.fst.snd.snd.fst, o.fst.snd.snd.snd.fst, o.fst.snd.snd.snd.snd.fst, o.fst.snd.snd.snd.snd.snd.fst, 
  o.fst.snd.snd.snd.snd.snd.snd), o.snd.fst, o.snd.snd.fst, o.snd.snd.snd.fst, (o.snd.snd.snd.snd.fst.fst, o.snd.snd.snd.snd.fst.snd), (o.snd.snd.snd.snd.snd.fst.fst, o.snd.snd.snd.snd.snd.fst.snd), 
  ((o.snd.snd.snd.snd.snd.snd.fst.fst.fst, o.snd.snd.snd.snd.snd.snd.fst.fst.snd.fst, o.snd.snd.snd.snd.snd.snd.fst.fst.snd.snd.fst, o.snd.snd.snd.snd.snd.snd.fst.fst.snd.snd.snd.fst, 
  o.snd.snd.snd.snd.snd.snd.fst.fst.snd.snd.snd.snd.fst, o.snd.snd.snd.snd.snd.snd.fst.fst.snd.snd.snd.snd.snd.fst, o.snd.snd.snd.snd.snd.snd.fst.fst.snd.snd.snd.snd.snd.snd.fst, 
  o.snd.snd.snd.snd.snd.snd.fst.fst.snd.snd.snd.snd.snd.snd.snd.fst, o.snd.snd.snd.snd.snd.snd.fst.fst.snd.snd.snd.snd.snd.snd.snd.snd.fst, o.snd.snd.snd.snd.snd.snd.fst.fst.snd.snd.snd.snd.snd.snd.snd.snd.snd.fst, 
  o.snd.snd.snd.snd.snd.snd.fst.fst.snd.snd.snd.snd.snd.snd.snd.snd.snd.snd.fst, o.snd.snd.snd.snd.snd.snd.fst.fst.snd.snd.snd.snd.snd.snd.snd.snd.snd.snd.snd.fst, 
  o.snd.snd.snd.snd.snd.snd.fst.fst.snd.snd.snd.snd.snd.snd.snd.snd.snd.snd.snd.snd.fst, o.snd.snd.snd.snd.snd.snd.fst.fst.snd.snd.snd.snd.snd.snd.snd.snd.snd.snd.snd.snd.snd.fst, 
  o.snd.snd.snd.snd.snd.snd.fst.fst.snd.snd.snd.snd.snd.snd.snd.snd.snd.snd.snd.snd.snd.snd.fst, o.snd.snd.snd.snd.snd.snd.fst.fst.snd.snd.snd.snd.snd.snd.snd.snd.snd.snd.snd.snd.snd.snd.snd), 
  o.snd.snd.snd.snd.snd.snd.fst.snd), o.snd.snd.snd.snd.snd.snd.snd.fst, o.snd.snd.snd.snd.snd.snd.snd.snd.fst, o.snd.snd.snd.snd.snd.snd.snd.snd.snd.fst, o.snd.snd.snd.snd.snd.snd.snd.snd.snd.snd.fst, 
  o.snd.snd.snd.snd.snd.snd.snd.snd.snd.snd.snd.fst, o.snd.snd.snd.snd.snd.snd.snd.snd.snd.snd.snd.snd.fst, o.snd.snd.snd.snd.snd.snd.snd.snd.snd.snd.snd.snd.snd)) = v) ∧ ((lowV (l.fst, l.snd) (olab ((o.fst.fst, 
  o.fst.snd.fst, o.fst.snd.snd.fst, o.fst.snd.snd.snd.fst, o.fst.snd.snd.snd.snd.fst, o.fst.snd.snd.snd.snd.snd.fst, o.fst.snd.snd.snd.snd.snd.snd), o.snd.fst, o.snd.snd.fst, o.snd.snd.snd.fst, 
  (o.snd.snd.snd.snd.fst.fst, o.snd.snd.snd.snd.fst.snd), (o.snd.snd.snd.snd.snd.fst.fst, o.snd.snd.snd.snd.snd.fst.snd), ((o.snd.snd.snd.snd.snd.snd.fst.fst.fst, o.snd.snd.snd.snd.snd.snd.fst.fst.snd.fst, 
  o.snd.snd.snd.snd.snd.snd.fst.fst.snd.snd.fst, o.snd.snd.snd.snd.snd.snd.fst.fst.snd.snd.snd.fst, o.snd.snd.snd.snd.snd.snd.fst.fst.snd.snd.snd.snd.fst, o.snd.snd.snd.snd.snd.snd.fst.fst.snd.snd.snd.snd.snd.fst, 
  o.snd.snd.snd.snd.snd.snd.fst.fst.snd.snd.snd.snd.snd.snd.fst, o.snd.snd.snd.snd.snd.snd.fst.fst.snd.snd.snd.snd.snd.snd.snd.fst, o.snd.snd.snd.snd.snd.snd.fst.fst.snd.snd.snd.snd.snd.snd.snd.snd.fst, 
  o.snd.snd.snd.snd.snd.snd.fst.fst.snd.snd.snd.snd.snd.snd.snd.snd.snd.fst, o.snd.snd.snd.snd.snd.snd.fst.fst.snd.snd.snd.snd.snd.snd.snd.snd.snd.snd.fst, 
  o.snd.snd.snd.snd.snd.snd.fst.fst.snd.snd.snd.snd.snd.snd.snd.snd.snd.snd.snd.fst, o.snd.snd.snd.snd.snd.snd.fst.fst.snd.snd.snd.snd.snd.snd.snd.snd.snd.snd.snd.snd.fst, 
  o.snd.snd.snd.snd.snd.snd.fst.fst.snd.snd.snd.snd.snd.snd.snd.snd.snd.snd.snd.snd.snd.fst, o.snd.snd.snd.snd.snd.snd.fst.fst.snd.snd.snd.snd.snd.snd.snd.snd.snd.snd.snd.snd.snd.snd.fst, 
  o.snd.snd.snd.snd.snd.snd.fst.fst.snd.snd.snd.snd.snd.snd.snd.snd.snd.snd.snd.snd.snd.snd.snd), o.snd.snd.snd.snd.snd.snd.fst.snd), o.snd.snd.snd.snd.snd.snd.snd.fst, o.snd.snd.snd.snd.snd.snd.snd.snd.fst, 
  o.snd.snd.snd.snd.snd.snd.snd.snd.snd.fst, o.snd.snd.snd.snd.snd.snd.snd.snd.snd.snd.fst, o.snd.snd.snd.snd.snd.snd.snd.snd.snd.snd.snd.fst, o.snd.snd.snd.snd.snd.snd.snd.snd.snd.snd.snd.snd.fst, 
  o.snd.snd.snd.snd.snd.snd.snd.snd.snd.snd.snd.snd.snd)) == lowN (l.fst, l.snd) (olab ((o.fst.fst, o.fst.snd.fst, o.fst.snd.snd.fst, o.fst.snd.snd.snd.fst, o.fst.snd.snd.snd.snd.fst, o.fst.snd.snd.snd.snd.snd.fst, 
  o.fst.snd.snd.snd.snd.snd.snd), o.snd.fst, o.snd.snd.fst, o.snd.snd.snd.fst, (o.snd.snd.snd.snd.fst.fst, o.snd.snd.snd.snd.fst.snd), (o.snd.snd.snd.snd.snd.fst.fst, o.snd.snd.snd.snd.snd.fst.snd), 
  ((o.snd.snd.snd.snd.snd.snd.fst.fst.fst, o.snd.snd.snd.snd.snd.snd.fst.fst.snd.fst, o.snd.snd.snd.snd.snd.snd.fst.fst.snd.snd.fst, o.snd.snd.snd.snd.snd.snd.fst.fst.snd.snd.snd.fst, 
  o.snd.snd.snd.snd.snd.snd.fst.fst.snd.snd.snd.snd.fst, o.snd.snd.snd.snd.snd.snd.fst.fst.snd.snd.snd.snd.snd.fst, o.snd.snd.snd.snd.snd.snd.fst.fst.snd.snd.snd.snd.snd.snd.fst, 
  o.snd.snd.snd.snd.snd.snd.fst.fst.snd.snd.snd.snd.snd.snd.snd.fst, o.snd.snd.snd.snd.snd.snd.fst.fst.snd.snd.snd.snd.snd.snd.snd.snd.fst, o.snd.snd.snd.snd.snd.snd.fst.fst.snd.snd.snd.snd.snd.snd.snd.snd.snd.fst, 
  o.snd.snd.snd.snd.snd.snd.fst.fst.snd.snd.snd.snd.snd.snd.snd.snd.snd.snd.fst, o.snd.snd.snd.snd.snd.snd.fst.fst.snd.snd.snd.snd.snd.snd.snd.snd.snd.snd.snd.fst, 
  o.snd.snd.snd.snd.snd.snd.fst.fst.snd.snd.snd.snd.snd.snd.snd.snd.snd.snd.snd.snd.fst, o.snd.snd.snd.snd.snd.snd.fst.fst.snd.snd.snd.snd.snd.snd.snd.snd.snd.snd.snd.snd.snd.fst, 
  o.snd.snd.snd.snd.snd.snd.fst.fst.snd.snd.snd.snd.snd.snd.snd.snd.snd.snd.snd.snd.snd.snd.fst, o.snd.snd.snd.snd.snd.snd.fst.fst.snd.snd.snd.snd.snd.snd.snd.snd.snd.snd.snd.snd.snd.snd.snd), 
  o.snd.snd.snd.snd.snd.snd.fst.snd), o.snd.snd.snd.snd.snd.snd.snd.fst, o.snd.snd.snd.snd.snd.snd.snd.snd.fst, o.snd.snd.snd.snd.snd.snd.snd.snd.snd.fst, o.snd.snd.snd.snd.snd.snd.snd.snd.snd.snd.fst, 
  o.snd.snd.snd.snd.snd.snd.snd.snd.snd.snd.snd.fst, o.snd.snd.snd.snd.snd.snd.snd.snd.snd.snd.snd.snd.fst, o.snd.snd.snd.snd.snd.snd.snd.snd.snd.snd.snd.snd.snd))) = !true → false = v)) ∧ v = true ∧ True)) ∧ ((!freeL 
  (l.fst, l.snd)) = !false → true = true ∧ True))) := by kernel_rfl
end Go.Proofs.Ytlnclaggmjhbfaa
namespace Go.Proofs.Ytlnclaggmjhbfaa
open Go.Proofs.Ytlnclaggmjhbfaa.Gx
set_option maxRecDepth 100000
set_option maxHeartbeats 4000000
set_option linter.unusedSimpArgs false
set_option linter.unusedVariables false
theorem lowsLaw_ok : PSpecOk PP 4 (Q [lab, objT] [.bool] (fun _ => true) (fun _ => (true, ()))) := by
  refine pspec_Q mixed (fn := Try.f4) (c := c4) rfl rfl _ _ rfl ?_
  rintro ⟨l, o, ⟨⟩⟩ - -
  refine ⟨_, env_ok .., rfl, hold (lows_vc l o) ?_⟩
  simp only [true_and, and_true, Prod.eta, eq_self_iff_true, toNat_cast]
  have hO : o.1.2.2.2.2.2 = olab o := rfl
  rw [hO]
  have main : freeL l = true → plainL (olab o) = true → sml2 l (olab o) = true ∧ lowV l (olab o) = lowN l (olab o) ∧ ownV l o = ownN l o := by
    intro h1 h2
    have hr1 := plain_right (l := l) (by simp only [freeL, Bool.and_eq_true] at h1; exact h1.1)
    have hr2 := plain_right h2
    have l1 := right_len hr1
    have l2 := right_len hr2
    exact ⟨decide_eq_true (by omega), low_eq hr1 hr2, own_eqN hr1 hr2⟩
  refine ⟨fun h => absurd h (by simp), fun _ => ⟨fun h1 => ⟨fun _ => trivial, fun h2 => ?_⟩, fun _ => trivial⟩⟩
  obtain ⟨hs, e1, e2⟩ := main (by simpa using h1) (by simpa using h2)
  refine ⟨true, ⟨hs, fun _ => ⟨hs, by rw [e2]; exact beq_self_eq_true _⟩, fun h => ?_⟩, rfl⟩
  rw [e1, beq_self_eq_true] at h
  cases h
end Go.Proofs.Ytlnclaggmjhbfaa
