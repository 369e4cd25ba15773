/- Equality of lists of objects; what is seen; the law that who may see more sees more; conditions: slices within the reach of the form. -/
import Derived.Test.YtlnclaggmjhbfaaVb8
namespace Go.Proofs.Ytlnclaggmjhbfaa
open Go.Proofs.Ytlnclaggmjhbfaa.Gx
set_option maxRecDepth 100000
set_option linter.unusedSimpArgs false
set_option linter.unusedVariables false
theorem ins_nodup (l : List (Int × Obj)) (k : Int) (v : Obj) (h : (l.map (·.1)).Nodup) : ((insL l k v).map (·.1)).Nodup := by
  by_cases hk : k ∈ l.map (·.1)
  · have : (insL l k v).map (·.1) = l.map (·.1) := by
      clear h
      induction l with
      | nil => simp at hk
      | cons x l ih =>
        simp only [insL]
        by_cases e : x.1 = k
        · rw [if_pos e]; simp [e]
        · rw [if_neg e]
          simp only [List.map_cons, List.mem_cons] at hk
          rcases hk with hk | hk
          · exact absurd hk.symm e
          · simp only [List.map_cons, ih hk]
    rw [this]; exact h
  · rw [ins_new l k v hk, List.map_append, List.nodup_append]
    refine ⟨h, by simp, fun a ha b hb e => ?_⟩
    simp at hb; subst hb; subst e; exact hk ha
theorem all_nodup : (d : List Obj) → ((allM d).map (·.1)).Nodup
  | [] => by simp [allM]
  | o :: d => ins_nodup _ _ _ (all_nodup d)
theorem vis_first {d : List Obj} {root : Int} {l : Lab} {id : Int} (h : Vis d root l id) : ∃ o, first d id = some o ∧ okO l o = true := by
  cases h with
  | root o h1 h2 => exact ⟨o, h1, h2⟩
  | step i o x o' _ _ _ _ h1 h2 => exact ⟨o', h1, h2⟩
theorem vis_root {d : List Obj} {root : Int} {l : Lab} {id : Int} (h : Vis d root l id) : Vis d root l root := by
  induction h with
  | root o h1 h2 => exact .root o h1 h2
  | step _ _ _ _ _ _ _ _ _ _ ih => exact ih
open Classical in
theorem vis_spec (d : List Obj) (root : Int) (l : Lab) : VisSpec d root l (visL d root l) := by
  have he : ∃ ys, VisSpec d root l ys := by
    cases hf : freeL l with
    | false => exact ⟨[], by simp, fun _ => rfl, fun h => by rw [hf] at h; cases h⟩
    | true =>
      refine ⟨sortI (((allM d).map (·.1)).filter fun id => decide (Vis d root l id)), ?_, fun h => absurd (hf.symm.trans h) (by simp), fun _ id => ?_⟩
      · have h1 : (sortI (((allM d).map (·.1)).filter fun id => decide (Vis d root l id))).Pairwise (fun a b => decide (a ≤ b) = true) := List.pairwise_mergeSort (fun a b c h1 h2 => by simp at *; omega) (fun a b => by simp; omega) _
        have h2 : (sortI (((allM d).map (·.1)).filter fun id => decide (Vis d root l id))).Nodup := (List.mergeSort_perm _ _).nodup_iff.2 ((all_nodup d).filter _)
        exact (h1.and h2).imp (fun ⟨a, b⟩ => by simp at a; omega)
      · rw [(List.mergeSort_perm _ _).mem_iff, List.mem_filter]
        simp only [decide_eq_true_eq]
        refine ⟨fun h => h.2, fun h => ⟨?_, h⟩⟩
        obtain ⟨o, h1, _⟩ := vis_first h
        refine look_key.1 ?_
        rw [look_all, h1]; rfl
  rw [visL, dif_pos he]
  exact he.choose_spec
theorem seen_vis {d : List Obj} {root : Int} {l : Lab} {id : Int} (h : id ∈ visL d root l) : Vis d root l id := by
  cases hf : freeL l with
  | false => rw [(vis_spec d root l).no hf] at h; cases h
  | true => exact ((vis_spec d root l).yes hf id).1 h
theorem at_some {d : List Obj} {id : Int} {o : Obj} (h : first d id = some o) : ∃ i : Nat, atO d id = i ∧ d[i]? = some o ∧ i < List.length d := by
  induction d with
  | nil => cases h
  | cons x d ih =>
    simp only [first, List.find?_cons] at h
    by_cases e : (oid x == id) = true
    · rw [e] at h; cases h
      refine ⟨0, ?_, rfl, Nat.succ_pos _⟩
      simp [atO, List.findIdx?_cons, e]
    · have e : (oid x == id) = false := by simpa using e
      rw [e] at h
      obtain ⟨i, h1, h2, h3⟩ := ih h
      refine ⟨i + 1, ?_, by simpa using h2, by simp only [List.length_cons]; omega⟩
      have h4 : d.findIdx? (fun o => oid o == id) = some i := by
        unfold atO at h1
        split at h1
        · rename_i j hj; rw [hj]; exact congrArg some (by omega)
        · omega
      simp only [atO, List.findIdx?_cons, e, h4]
      rfl
theorem at_none {d : List Obj} {id : Int} (h : first d id = none) : atO d id = -1 := by
  have := List.find?_eq_none.1 h
  exact atO_none (List.all_eq_true.2 fun o ho => by simpa using this o ho)
theorem in_iff (l : List Int) (x : Int) : inL l x = true ↔ x ∈ l := by
  unfold inL
  rw [List.any_eq_true]
  exact ⟨fun ⟨y, h1, h2⟩ => by have : y = x := by simpa using h2
                               exact this ▸ h1, fun h => ⟨x, h, by simp⟩⟩
theorem few_small {d : List Obj} (h : fewD d = true) : smallD d = true := by
  simp only [fewD, Bool.and_eq_true, decide_eq_true_eq, List.all_eq_true] at h
  simp only [smallD, Bool.and_eq_true, decide_eq_true_eq, List.all_eq_true]
  refine ⟨by omega, fun o ho => ?_⟩
  have := h.1 o ho
  simp only [fewO, Bool.not_eq_true', Bool.or_eq_false_iff, decide_eq_false_iff_not] at this
  omega
theorem seen_len {d : List Obj} {root : Int} {l : Lab} : (visL d root l).length ≤ List.length d := by
  have := nodup_len (xs := visL d root l) (ys := d.map oid) ((vis_spec d root l).sorted.imp (fun h => by omega)) (fun x hx => by
    obtain ⟨o, h1, _⟩ := vis_first (seen_vis hx)
    obtain ⟨h2, h3⟩ := first_mem h1
    exact List.mem_map.2 ⟨o, h2, h3⟩)
  simpa using this
theorem leads_len {d : List Obj} (hs : smallD d = true) (id : Int) : (leads d id).length ≤ 1000 := by
  unfold leads
  split
  · rename_i o ho
    split
    · exact ((small_list hs).2 o (first_mem ho).1).1
    · simp
  · simp
theorem flat_len {d : List Obj} (hs : smallD d = true) : (l : List Int) → (l.flatMap (leads d)).length ≤ l.length * 1000
  | [] => by simp
  | x :: l => by
    have := leads_len hs x
    have := flat_len hs l
    simp only [List.flatMap_cons, List.length_append, List.length_cons]; omega
theorem entr_snoc {d : List Obj} {root : Int} {seen : List Int} {i : Nat} {y : Int} (h : seen[i]? = some y) : entr d root (seen.take (i + 1)) = entr d root (seen.take i) ++ leads d y := by
  rw [take_snoc h]
  simp [entr, List.flatMap_append]
theorem seen_entr {d : List Obj} {root : Int} {l : Lab} {y : Int} (h : y ∈ visL d root l) : y ∈ entr d root (visL d root l) := by
  have hf : freeL l = true := by
    cases hf : freeL l with
    | false => rw [(vis_spec d root l).no hf] at h; cases h
    | true => rfl
  cases seen_vis h with
  | root o h1 h2 => simp [entr]
  | step id o x o' hv h1 hk hx h3 h4 =>
    simp only [entr, List.mem_cons, List.mem_flatMap]
    refine .inr ⟨id, ((vis_spec d root l).yes hf id).2 hv, ?_⟩
    unfold leads
    rw [h1]
    simp only
    rw [if_pos hk]; exact hx
theorem entr_seen {d : List Obj} {root : Int} {l : Lab} {k : Nat} {y : Int} {o : Obj} (hf : freeL l = true) (hy : (entr d root (visL d root l))[k]? = some y) (hk : k = 0 → (visL d root l) ≠ []) (ho : first d y = some o) (hok : okO l o = true) : y ∈ visL d root l := by
  have hs := (vis_spec d root l).yes hf
  cases k with
  | zero =>
    simp [entr] at hy
    subst hy
    cases hv : visL d root l with
    | nil => exact absurd hv (hk rfl)
    | cons z zs =>
      rw [← hv]
      exact (hs root).2 (vis_root (seen_vis (id := z) (by rw [hv]; simp)))
  | succ k =>
    have hm : y ∈ (visL d root l).flatMap (leads d) := List.mem_of_getElem? (by simpa [entr] using hy)
    obtain ⟨id, h1, h2⟩ := List.mem_flatMap.1 hm
    unfold leads at h2
    split at h2
    · rename_i o1 ho1
      split at h2
      · rename_i hk1
        exact (hs y).2 (.step id o1 y o (seen_vis h1) ho1 hk1 h2 ho hok)
      · cases h2
    · cases h2
end Go.Proofs.Ytlnclaggmjhbfaa
namespace Go.Proofs.Ytlnclaggmjhbfaa
open Go.Proofs.Ytlnclaggmjhbfaa.Gx
set_option maxRecDepth 100000
set_option maxHeartbeats 4000000
set_option linter.unusedSimpArgs false
set_option linter.unusedVariables false
def catsSum : List Lab → Nat
  | [] => 0
  | l :: ls => l.2.length + catsSum ls
def sumLs (ls : List Lab) : Bool := decide (catsSum ls ≤ 17592186044415)
theorem catsSum_snoc : (ls : List Lab) → (l : Lab) → catsSum (ls ++ [l]) = catsSum ls + l.2.length
  | [], l => by simp [catsSum]
  | x :: ls, l => by simp only [List.cons_append, catsSum, catsSum_snoc ls l]; omega
theorem catsSum_append : (ls ks : List Lab) → catsSum (ls ++ ks) = catsSum ls + catsSum ks
  | [], ks => by simp [catsSum]
  | x :: ls, ks => by simp only [List.cons_append, catsSum, catsSum_append ls ks]; omega
theorem catsSum_take {ls : List Lab} {i : Nat} {l : Lab} (h : ls[i]? = some l) : catsSum (ls.take i) + l.2.length ≤ catsSum ls := by
  obtain ⟨hi, rfl⟩ := List.getElem?_eq_some_iff.1 h
  conv => rhs; rw [← List.take_append_drop i ls]
  rw [catsSum_append, List.drop_eq_getElem_cons hi, catsSum]
  omega
theorem namedL_lenS (ls : List Lab) : (namedL ls).length ≤ catsSum ls := by
  have : ∀ (ls : List Lab) (o : List Int), (ls.foldl (fun o l => addN o l.2) o).length ≤ o.length + catsSum ls := by
    intro ls
    induction ls with
    | nil => intro o; simp
    | cons l ls ih =>
      intro o
      have h1 := ih (addN o l.2)
      have h2 := addN_len l.2 o
      simp only [List.foldl_cons, catsSum]
      omega
  simpa [namedL] using this ls []
theorem named_ownS : OwnOk PP 33 [.slice lab] 3 i64 (fun x => sumLs x.1) (fun x => namedL x.1) := by
  refine own_Q mixed (fn := Try.f33) (c := c33) rfl rfl _ _ _ rfl ?_
  rintro ⟨ls, ⟨⟩⟩ ⟨⟨hA, hE⟩, -⟩ hp
  have hp : catsSum ls ≤ 17592186044415 := by simpa [sumLs] using hp
  refine ⟨_, env_ok [] [] [] [] (namedLoop ls), rfl, hold (named_vc ls) ?_⟩
  simp only [true_and, and_true]
  intro _
  refine ⟨0, by simp, ⟨rfl, rfl⟩, ?_⟩
  intro i hi
  rcases get_cases ls i hi with ⟨l, hl, hi'⟩ | ⟨hl, hi'⟩
  · refine ⟨fun _ => ⟨by omega, fun y hy => ?_⟩, fun h => by simp at h; omega⟩
    obtain rfl : l = y := by simpa [hl] using hy
    have hbase : (namedL (ls.take i)).length + l.2.length ≤ 17592186044415 := by
      have h1 := namedL_lenS (ls.take i)
      have h2 := catsSum_take hl
      omega
    intro hlm
    refine ⟨0, by simp, ⟨rfl, rfl⟩, ?_⟩
    intro j hj
    rcases get_cases l.2 j hj with ⟨x, hx, hj'⟩ | ⟨hx, hj'⟩
    · refine ⟨fun _ => ⟨by omega, fun y hy => ?_⟩, fun h => by simp at h; omega⟩
      obtain rfl : x = y := by simpa [hx] using hy
      have hsn : addN (namedL (ls.take i)) (l.2.take (j + 1)) = insN x.1 (addN (namedL (ls.take i)) (l.2.take j)) := by rw [take_snoc' hx, addN_snoc]
      have hlen := addN_len (l.2.take j) (namedL (ls.take i))
      rw [List.length_take, Nat.min_eq_left hj] at hlen
      generalize addN (namedL (ls.take i)) (l.2.take j) = o at *
      refine ⟨0, ⟨by simp, fun m y hm => by omega⟩, rfl, ?_⟩
      rintro k ⟨hk, hks⟩
      have hol : o.length ≤ maxLen := by rw [maxLen_eq]; omega
      have hins : (∀ y, o[k]? = some y → x.1 < y) → ∃ x' : Nat, x' ≤ l.2.length ∧ l.2.length - x' < l.2.length - j ∧ IntKind.i64.wrap ((j : Int) + 1) = (x' : Int) ∧ [] ++ o.take k ++ [x.1] ++ o.drop k = addN (namedL (ls.take i)) (l.2.take x') := by
        intro h
        refine ⟨j + 1, by omega, by omega, wrap_succ hj' hlm, ?_⟩
        rw [hsn, insN_new x.1 o k hk hks h]
        simp
      rcases get_cases o k hk with ⟨z, hz, hk'⟩ | ⟨hz, hk'⟩
      · refine ⟨decide (z < x.1), ?_, fun hv => ?_, fun hv => ⟨z == x.1, ?_, fun hv2 => ?_, fun hv2 => ?_⟩⟩
        · refine ⟨fun _ => ⟨by omega, by omega, fun y hy => ?_⟩, fun h => by simp at h; omega⟩
          obtain rfl : z = y := by simpa [hz] using hy
          rfl
        · refine ⟨k + 1, ⟨by omega, fun m y hm hy => ?_⟩, by omega, wrap_succ hk' hol⟩
          rcases Nat.lt_or_ge m k with h | h
          · exact hks m y h hy
          · obtain rfl : m = k := by omega
            rw [hz] at hy; cases hy; simpa using hv
        · refine ⟨fun _ => ⟨by omega, by omega, fun y hy => ?_⟩, fun h => by simp at h; omega⟩
          obtain rfl : z = y := by simpa [hz] using hy
          rfl
        · refine ⟨j + 1, by omega, by omega, wrap_succ hj' hlm, ?_⟩
          have : z = x.1 := by simpa using hv2
          rw [hsn, insN_skip x.1 o k hks (by rw [hz, this])]
        · have hlt : ∀ y, o[k]? = some y → x.1 < y := fun y hy => by
            rw [hz] at hy; cases hy; simp at hv hv2
            exact Int.lt_iff_le_and_ne.2 ⟨hv, fun e => hv2 e.symm⟩
          have := hins hlt
          simp only [Option.getD_some, Option.getD_none, Int.toNat_natCast, List.take_length, List.drop_zero]
          refine ⟨by omega, by simp; omega, by simp; omega, by omega, by simp; omega, this⟩
      · refine ⟨false, ?_, fun hv => by simp at hv, fun hv => ⟨false, ?_, fun hv2 => by simp at hv2, fun hv2 => ?_⟩⟩
        · refine ⟨fun h => by simp at h; omega, fun _ => rfl⟩
        · refine ⟨fun h => by simp at h; omega, fun _ => rfl⟩
        · have := hins (fun y hy => by rw [hz] at hy; cases hy)
          simp only [Option.getD_some, Option.getD_none, Int.toNat_natCast, List.take_length, List.drop_zero]
          refine ⟨by omega, by simp; omega, by simp; omega, by omega, by simp; omega, this⟩
    · subst hj'
      refine ⟨fun h => by simp at h, fun _ => ⟨i + 1, by omega, by omega, wrap_succ hi' hA, ?_⟩⟩
      rw [List.take_length, take_snoc' hl, namedL_snoc]
  · subst hi'
    refine ⟨fun h => by simp at h, fun _ => ?_⟩
    rw [List.take_length]
noncomputable def p33S : Pv PP := ⟨33, _, ⟨rfl, pspec_of_own named_ownS⟩⟩
noncomputable def s33S : Sv PP := ⟨33, _, ⟨rfl, spec_Qo named_ownS⟩⟩
end Go.Proofs.Ytlnclaggmjhbfaa
namespace Go.Proofs.Ytlnclaggmjhbfaa
open Go.Proofs.Ytlnclaggmjhbfaa.Gx
set_option maxRecDepth 100000
set_option linter.unusedVariables false
set_option maxHeartbeats 0
noncomputable def c36 : Code := Try.f36.body.getD .skip
noncomputable def c37 : Code := Try.f37.body.getD .skip
noncomputable def c55' : Code := Try.f55.body.getD .skip
noncomputable def c35 : Code := Try.f35.body.getD .skip
noncomputable def c19 : Code := Try.f19.body.getD .skip
theorem clI_vc (xs : List Int) : fvc PP e0 Try.f36 c36 (ofArgs [ints] (xs, ())) St0 (givesRow 3 i64 xs) = (
  ∀ (b : Bool), (b = true → xs = []) → (b = true → xs = []) ∧ (b = false → ((0 : Nat) + xs.length) * (8 : Nat) ≤ (140737488355328 : Nat) ∧ [] ++ xs = xs)) := by kernel_rfl
theorem clM_vc (xs : List mapT.den) : fvc PP e0 Try.f37 c37 (ofArgs [.slice mapT] (xs, ())) St0 (givesRow 72 mapT xs) = (
  ∀ (b : Bool), (b = true → xs = []) → (b = true → xs = []) ∧ (b = false → ((0 : Nat) + xs.length) * (48 : Nat) ≤ (140737488355328 : Nat) ∧ [] ++ xs = xs)) := by kernel_rfl
theorem clE_vc (xs : List (Int × Int)) : fvc PP e0 Try.f55 c55' (ofArgs [.slice ent] (xs, ())) St0 (givesRow 50 ent xs) = (
  ∀ (b : Bool), (b = true → xs = []) → (b = true → xs = []) ∧ (b = false → ((0 : Nat) + xs.length) * (16 : Nat) ≤ (140737488355328 : Nat) ∧ [] ++ xs = xs)) := by kernel_rfl
end Go.Proofs.Ytlnclaggmjhbfaa
namespace Go.Proofs.Ytlnclaggmjhbfaa
open Go.Proofs.Ytlnclaggmjhbfaa.Gx
set_option maxRecDepth 100000
set_option maxHeartbeats 4000000
set_option linter.unusedSimpArgs false
set_option linter.unusedVariables false
def fitsI (xs : List Int) : Bool := decide (xs.length * 8 ≤ 140737488355328)
def fitsM (xs : List mapT.den) : Bool := decide (xs.length * 48 ≤ 140737488355328)
def fitsE (xs : List (Int × Int)) : Bool := decide (xs.length * 16 ≤ 140737488355328)
theorem clI_own : OwnOk PP 36 [ints] 3 i64 (fun x => fitsI x.1) (fun x => x.1) := by
  refine own_Q mixed (fn := Try.f36) (c := c36) rfl rfl [ints] 3 i64 rfl ?_
  rintro ⟨xs, ⟨⟩⟩ - hp
  have hp : List.length xs * 8 ≤ 140737488355328 := by simpa [fitsI] using hp
  refine ⟨e0, env_ok .., rfl, hold (clI_vc xs) ?_⟩
  simp only [true_and, and_true, List.nil_append, eq_self_iff_true]
  exact fun b h => ⟨h, fun _ => by rw [Nat.zero_add]; exact hp⟩
theorem clM_own : OwnOk PP 37 [.slice mapT] 72 mapT (fun x => fitsM x.1) (fun x => x.1) := by
  refine own_Q mixed (fn := Try.f37) (c := c37) rfl rfl [.slice mapT] 72 mapT rfl ?_
  rintro ⟨xs, ⟨⟩⟩ - hp
  have hp : List.length xs * 48 ≤ 140737488355328 := by simpa [fitsM] using hp
  refine ⟨e0, env_ok .., rfl, hold (clM_vc xs) ?_⟩
  simp only [true_and, and_true, List.nil_append, eq_self_iff_true]
  exact fun b h => ⟨h, fun _ => by rw [Nat.zero_add]; exact hp⟩
theorem clE_own : OwnOk PP 55 [.slice ent] 50 ent (fun x => fitsE x.1) (fun x => x.1) := by
  refine own_Q mixed (fn := Try.f55) (c := c55') rfl rfl [.slice ent] 50 ent rfl ?_
  rintro ⟨xs, ⟨⟩⟩ - hp
  have hp : List.length xs * 16 ≤ 140737488355328 := by simpa [fitsE] using hp
  refine ⟨e0, env_ok .., rfl, hold (clE_vc xs) ?_⟩
  simp only [true_and, and_true, List.nil_append, eq_self_iff_true]
  exact fun b h => ⟨h, fun _ => by rw [Nat.zero_add]; exact hp⟩
noncomputable def p36 : Pv PP := ⟨36, _, ⟨rfl, pspec_of_own clI_own⟩⟩
noncomputable def p37 : Pv PP := ⟨37, _, ⟨rfl, pspec_of_own clM_own⟩⟩
noncomputable def p55 : Pv PP := ⟨55, _, ⟨rfl, pspec_of_own clE_own⟩⟩
/-- A copy that is seen. -/
def cpO (o : Obj) : Obj := ((o.1.1, o.1.2.1, o.1.2.2.1, o.1.2.2.2.1, 0, o.1.2.2.2.2.2), o.2)
def seeAt (d : List Obj) (id : Int) : List Obj := match first d id with
  | some o => [cpO o]
  | none => []
noncomputable def seeL (d : List Obj) (root : Int) (l : Lab) : List Obj := (visL d root l).flatMap (seeAt d)
def fitsO (o : Obj) : Bool := fitsI (olist o) && (fitsE (olab o).2 && (fitsM o.2.2.2.1 && (fitsE o.2.2.2.2.1.2 && fitsI o.2.2.2.2.2.2.2.2.2.2.2.1)))
def seeB (d : List Obj) : Bool := smallD d && d.all fitsO
end Go.Proofs.Ytlnclaggmjhbfaa
namespace Go.Proofs.Ytlnclaggmjhbfaa
open Go.Proofs.Ytlnclaggmjhbfaa.Gx
set_option maxRecDepth 100000
set_option linter.unusedVariables false
set_option maxHeartbeats 0
theorem copied_vc (l : Lab) : fvc PP (eP [p55]) Try.f35 c35 (ofArgs [lab] (l, ())) St0 (gives [lab] (l, ())) = (
  fitsE l.snd = true ∧ (l.fst = l.fst ∧ l.snd = l.snd ∧ True) ∧ True) := by kernel_rfl
end Go.Proofs.Ytlnclaggmjhbfaa
namespace Go.Proofs.Ytlnclaggmjhbfaa
open Go.Proofs.Ytlnclaggmjhbfaa.Gx
set_option maxRecDepth 100000
set_option maxHeartbeats 4000000
set_option linter.unusedSimpArgs false
set_option linter.unusedVariables false
theorem copied_ok : PSpecOk PP 35 (Q [lab] [lab] (fun x => fitsE x.1.2) (fun x => (x.1, ()))) := by
  refine pspec_Q mixed (fn := Try.f35) (c := c35) rfl rfl _ _ rfl ?_
  rintro ⟨l, ⟨⟩⟩ - hp
  refine ⟨eP [p55], env_ok .., rfl, hold (copied_vc l) ?_⟩
  simp only [true_and, and_true, Prod.eta, eq_self_iff_true]
  exact hp
noncomputable def p35 : Pv PP := ⟨35, _, ⟨rfl, copied_ok⟩⟩
end Go.Proofs.Ytlnclaggmjhbfaa
namespace Go.Proofs.Ytlnclaggmjhbfaa
open Go.Proofs.Ytlnclaggmjhbfaa.Gx
set_option maxRecDepth 100000
set_option linter.unusedVariables false
set_option maxHeartbeats 0
noncomputable def seeLoop (d : List Obj) (root : Int) (l : Lab) : List (Nat × (St → Option LoopSpec)) :=
  [(4, fun (S : St) => match getT S.fr.tm 18 with
      | .row r => match S.res[r]? with
        | some (.row _ (.int .i64) xs) => some { α := Nat, inv := fun i => i ≤ xs.length ∧ True, ov := fun i => [(20, .int .i64 (i : Int)), (8, .row S.res.length)], rov := fun i => [(S.res.length, .row 0 objT (((visL d root l).take i).flatMap (seeAt d)))], meas := fun i => xs.length - i, nil := [(.slot 8, 42, objT)] }
        | _ => none
      | _ => none)]
theorem see_vc (d : List Obj) (root : Int) (l : Lab) : fvc PP (env PP [p35, p36, p37] [s29, s28, s27] [] [] (seeLoop d root l)) Try.f19 c19 (ofArgs [.slice objT, i64, lab] (d, root, l, ())) St0 (givesRow 42 objT (seeL d root l)) = (
  smallD d = true ∧ (d = d ∧ root = root ∧ (l.fst = l.fst ∧ l.snd = l.snd ∧ True) ∧ True) ∧ True ∧ (∀ (y : List (Int × Obj)), FindPost d root l y → ∃ (x0 : Option Int × List Int × List Int), (x0.snd.snd ++ 
  x0.snd.fst).Perm (List.map (fun (p : Int × (Int × Int × Int × Int × Int × Int × List (Int × Int)) × List Int × ByteArray × List (Int × Int × Int × Int × Int × Bool × Bool) × (Int × List (Int × Int)) × (Int × Int) × 
  ((Int × Int × Int × Int × Int × Int × Int × Int × Int × Int × Int × Int × Int × Int × Int × Int) × Int) × Int × Int × Int × Int × List Int × ByteArray × ByteArray) => p.fst) y) ∧ ((((True ∧ True) ∧ SV.val (Value.slice 
  none (0 : Nat) (0 : Nat)) = SV.val (Value.slice none (0 : Nat) (0 : Nat)) ∧ True ∧ SV.val (Value.slice none (0 : Nat) (0 : Nat)) = SV.val (Value.slice none (0 : Nat) (0 : Nat)) ∧ (True ∧ True) ∧ True) ∧ ((True ∧ True) 
  ∧ SV.val (Value.slice none (0 : Nat) (0 : Nat)) = SV.val (Value.slice none (0 : Nat) (0 : Nat)) ∧ (True ∧ True) ∧ True) ∧ ((True ∧ True) ∧ SV.val (Value.slice none (0 : Nat) (0 : Nat)) = SV.val (Value.slice none (0 : 
  Nat) (0 : Nat)) ∧ (True ∧ True) ∧ True) ∧ ((True ∧ True) ∧ True ∧ SV.val (Value.slice none (0 : Nat) (0 : Nat)) = SV.val (Value.slice none (0 : Nat) (0 : Nat)) ∧ True ∧ SV.val (Value.slice none (0 : Nat) (0 : Nat)) = 
  SV.val (Value.slice none (0 : Nat) (0 : Nat)) ∧ True ∧ d = d ∧ root = root ∧ (l.fst = l.fst ∧ l.snd = l.snd ∧ True) ∧ True) ∧ True ∧ True) ∧ (True ∧ True ∧ True ∧ True) ∧ (l.fst = l.fst ∧ l.snd = l.snd ∧ True) ∧ True ∧ 
  (y = y ∧ none = x0.fst ∧ List.map (fun (x : Int × (Int × Int × Int × Int × Int × Int × List (Int × Int)) × List Int × ByteArray × List (Int × Int × Int × Int × Int × Bool × Bool) × (Int × List (Int × Int)) × (Int × 
  Int) × ((Int × Int × Int × Int × Int × Int × Int × Int × Int × Int × Int × Int × Int × Int × Int × Int) × Int) × Int × Int × Int × Int × List Int × ByteArray × ByteArray) => x.fst) y = x0.snd.fst) ∧ (True ∧ True) ∧ 
  (True ∧ True) ∧ True ∧ ((True ∧ True) ∧ SV.val (Value.slice none (0 : Nat) (0 : Nat)) = SV.val (Value.slice none (0 : Nat) (0 : Nat)) ∧ True ∧ SV.val (Value.slice none (0 : Nat) (0 : Nat)) = SV.val (Value.slice none (0 
  : Nat) (0 : Nat)) ∧ (True ∧ True) ∧ True) ∧ True ∧ [] = x0.snd.snd ∧ True) ∧ ∀ (x : Option Int × List Int × List Int), (x.snd.snd ++ x.snd.fst).Perm (List.map (fun (p : Int × (Int × Int × Int × Int × Int × Int × List 
  (Int × Int)) × List Int × ByteArray × List (Int × Int × Int × Int × Int × Bool × Bool) × (Int × List (Int × Int)) × (Int × Int) × ((Int × Int × Int × Int × Int × Int × Int × Int × Int × Int × Int × Int × Int × Int × 
  Int × Int) × Int) × Int × Int × Int × Int × List Int × ByteArray × ByteArray) => p.fst) y) → (x.snd.fst = [] → x.snd.snd.length.succ.le (4611686018427387904 : Nat) ∧ (True ∧ True) ∧ (x.snd.snd = x.snd.snd ∧ True) ∧ (∀ 
  (y_1 : sortA.β), True → (sortI x.snd.snd).length ≤ maxLen → ∃ (x0 : Nat), (x0 ≤ (sortI x.snd.snd).length ∧ True) ∧ ((True ∧ True) ∧ ((0 : Int) = (↑x0 : Int) ∧ True ∧ (↑(sortI x.snd.snd).length : Int) = (↑(sortI 
  x.snd.snd).length : Int) ∧ True ∧ True ∧ SV.val (Value.slice none (0 : Nat) (0 : Nat)) = SV.val (Value.slice none (0 : Nat) (0 : Nat)) ∧ True ∧ d = d ∧ root = root ∧ (l.fst = l.fst ∧ l.snd = l.snd ∧ True) ∧ True) ∧ 
  (l.fst = l.fst ∧ l.snd = l.snd ∧ True) ∧ True ∧ (y = y ∧ True) ∧ (True ∧ True) ∧ (True ∧ True) ∧ True ∧ True ∧ True ∧ sortI x.snd.snd = sortI x.snd.snd ∧ [] = List.flatMap (seeAt d) (List.take x0 (visL d root l)) ∧ 
  True) ∧ ∀ (x_1 : Nat), x_1 ≤ (sortI x.snd.snd).length ∧ True → (decide ((↑x_1 : Int) < (↑(sortI x.snd.snd).length : Int)) = true → ((0 : Int) ≤ (↑x_1 : Int) ∧ (↑x_1 : Int) < (↑(sortI x.snd.snd).length : Int)) ∧ (↑x_1 : 
  Int).toNat < (sortI x.snd.snd).length ∧ ∀ (y_2 : Int), (sortI x.snd.snd)[(↑x_1 : Int).toNat]? = some y_2 → fitsE ((lookL y y_2).getD (((0 : Int), (0 : Int), (0 : Int), (0 : Int), (0 : Int), (0 : Int), []), [], 
  ByteArray.mk #[], [], ((0 : Int), []), ((0 : Int), (0 : Int)), (((0 : Int), (0 : Int), (0 : Int), (0 : Int), (0 : Int), (0 : Int), (0 : Int), (0 : Int), (0 : Int), (0 : Int), (0 : Int), (0 : Int), (0 : Int), (0 : Int), 
  (0 : Int), (0 : Int)), (0 : Int)), (0 : Int), (0 : Int), (0 : Int), (0 : Int), [], ByteArray.mk #[], ByteArray.mk #[])).fst.snd.snd.snd.snd.snd.snd = true ∧ fitsE ((lookL y y_2).getD (((0 : Int), (0 : Int), (0 : Int), 
  (0 : Int), (0 : Int), (0 : Int), []), [], ByteArray.mk #[], [], ((0 : Int), []), ((0 : Int), (0 : Int)), (((0 : Int), (0 : Int), (0 : Int), (0 : Int), (0 : Int), (0 : Int), (0 : Int), (0 : Int), (0 : Int), (0 : Int), 
  (0 : Int), (0 : Int), (0 : Int), (0 : Int), (0 : Int), (0 : Int)), (0 : Int)), (0 : Int), (0 : Int), (0 : Int), (0 : Int), [], ByteArray.mk #[], ByteArray.mk #[])).snd.snd.snd.snd.fst.snd = true ∧ fitsI ((lookL y 
  y_2).getD (((0 : Int), (0 : Int), (0 : Int), (0 : Int), (0 : Int), (0 : Int), []), [], ByteArray.mk #[], [], ((0 : Int), []), ((0 : Int), (0 : Int)), (((0 : Int), (0 : Int), (0 : Int), (0 : Int), (0 : Int), (0 : Int), 
  (0 : Int), (0 : Int), (0 : Int), (0 : Int), (0 : Int), (0 : Int), (0 : Int), (0 : Int), (0 : Int), (0 : Int)), (0 : Int)), (0 : Int), (0 : Int), (0 : Int), (0 : Int), [], ByteArray.mk #[], ByteArray.mk #[])).snd.fst = 
  true ∧ fitsM ((lookL y y_2).getD (((0 : Int), (0 : Int), (0 : Int), (0 : Int), (0 : Int), (0 : Int), []), [], ByteArray.mk #[], [], ((0 : Int), []), ((0 : Int), (0 : Int)), (((0 : Int), (0 : Int), (0 : Int), (0 : Int), 
  (0 : Int), (0 : Int), (0 : Int), (0 : Int), (0 : Int), (0 : Int), (0 : Int), (0 : Int), (0 : Int), (0 : Int), (0 : Int), (0 : Int)), (0 : Int)), (0 : Int), (0 : Int), (0 : Int), (0 : Int), [], ByteArray.mk #[], 
  ByteArray.mk #[])).snd.snd.snd.fst = true ∧ fitsI ((lookL y y_2).getD (((0 : Int), (0 : Int), (0 : Int), (0 : Int), (0 : Int), (0 : Int), []), [], ByteArray.mk #[], [], ((0 : Int), []), ((0 : Int), (0 : Int)), (((0 : 
  Int), (0 : Int), (0 : Int), (0 : Int), (0 : Int), (0 : Int), (0 : Int), (0 : Int), (0 : Int), (0 : Int), (0 : Int), (0 : Int), (0 : Int), (0 : Int), (0 : Int), (0 : Int)), (0 : Int)), (0 : Int), (0 : Int), (0 : Int), 
  (0 : Int), [], ByteArray.mk #[], ByteArray.mk #[])).snd.snd.snd.snd.snd.snd.snd.snd.snd.snd.snd.fst = true ∧ ((List.flatMap (seeAt d) (List.take x_1 (visL d root l))).length + [((((lookL y y_2).getD (((0 : Int), (0 : 
  Int), (0 : Int), (0 : Int), (0 : Int), (0 : Int), []), [], ByteArray.mk #[], [], ((0 : Int), []), ((0 : Int), (0 : Int)), (((0 : Int), (0 : Int), (0 : Int), (0 : Int), (0 : Int), (0 : Int), (0 : Int), (0 : Int), (0 : 
  Int), (0 : Int), (0 : Int), (0 : Int), (0 : Int), (0 : Int), (0 : Int), (0 : Int)), (0 : Int)), (0 : Int), (0 : Int), (0 : Int), (0 : Int), [], ByteArray.mk #[], ByteArray.mk #[])).fst.fst, ((lookL y y_2).getD (((0 : 
  Int), (0 : Int), (0 : Int), (0 : Int), (0 : Int), (0 : Int), []), [], ByteArray.mk #[], [], ((0 : Int), []), ((0 : Int), (0 : Int)), (((0 : Int), (0 : Int), (0 : Int), (0 : Int), (0 : Int), (0 : Int), (0 : Int), (0 : 
  Int), (0 : Int), (0 : Int), (0 : Int), (0 : Int), (0 : Int), (0 : Int), (0 : Int), (0 : Int)), (0 : Int)), (0 : Int), (0 : Int), (0 : Int), (0 : Int), [], ByteArray.mk #[], ByteArray.mk #[])).fst.snd.fst, ((lookL y 
  y_2).getD (((0 : Int), (0 : Int), (0 : Int), (0 : Int), (0 : Int), (0 : Int), []), [], ByteArray.mk #[], [], ((0 : Int), []), ((0 : Int), (0 : Int)), (((0 : Int), (0 : Int), (0 : Int), (0 : Int), (0 : Int), (0 : Int), 
  (0 : Int), (0 : Int), (0 : Int), (0 : Int), (0 : Int), (0 : Int), (0 : Int), (0 : Int), (0 : Int), (0 : Int)), (0 : Int)), (0 : Int), (0 : Int), (0 : Int), (0 : Int), [], ByteArray.mk #[], ByteArray.mk 
  #[])).fst.snd.snd.fst, ((lookL y y_2).getD (((0 : Int), (0 : Int), (0 : Int), (0 : Int), (0 : Int), (0 : Int), []), [], ByteArray.mk #[], [], ((0 : Int), []), ((0 : Int), (0 : Int)), (((0 : Int), (0 : Int), (0 : Int), 
  (0 : Int), (0 : Int), (0 : Int), (0 : Int), (0 : Int), (0 : Int), (0 : Int), (0 : Int), (0 : Int), (0 : Int), (0 : Int), (0 : Int), (0 : Int)), (0 : Int)), (0 : Int), (0 : Int), (0 : Int), (0 : Int), [], ByteArray.mk 
  #[], ByteArray.mk #[])).fst.snd.snd.snd.fst, (0 : Int), ((lookL y y_2).getD (((0 : Int), (0 : Int), (0 : Int), (0 : Int), (0 : Int), (0 : Int), []), [], ByteArray.mk #[], [], ((0 : Int), []), ((0 : Int), (0 : Int)), 
  (((0 : Int), (0 : Int), (0 : Int), (0 : Int), (0 : Int), (0 : Int), (0 : Int), (0 : Int), (0 : Int), (0 : Int), (0 : Int), (0 : Int), (0 : Int), (0 : Int), (0 : Int), (0 : Int)), (0 : Int)), (0 : Int), (0 : Int), (0 : 
  Int), (0 : Int), [], ByteArray.mk #[], ByteArray.mk #[])).fst.snd.snd.snd.snd.snd.fst, ((lookL y y_2).getD (((0 : Int), (0 : Int), (0 : Int), (0 : Int), (0 : Int), (0 : Int), []), [], ByteArray.mk #[], [], ((0 : Int), 
  []), ((0 : Int), (0 : Int)), (((0 : Int), (0 : Int), (0 : Int), (0 : Int), (0 : Int), (0 : Int), (0 : Int), (0 : Int), (0 : Int), (0 : Int), (0 : Int), (0 : Int), (0 : Int), (0 : Int), (0 : Int), (0 : Int)), (0 : 
  Int)), (0 : Int), (0 : Int), (0 : Int), (0 : Int), [], ByteArray.mk #[], ByteArray.mk #[])).fst.snd.snd.snd.snd.snd.snd), ((lookL y y_2).getD (((0 : Int), (0 : Int), (0 : Int), (0 : Int), (0 : Int), (0 : Int), []), [], 
  ByteArray.mk #[], [], ((0 : Int), []), ((0 : Int), (0 : Int)), (((0 : Int), (0 : Int), (0 : Int), (0 : Int), (0 : Int), (0 : Int), (0 : Int), (0 : Int), (0 : Int), (0 : Int), (0 : Int), (0 : Int), (0 : Int), (0 : Int), 
  (0 : Int), (0 : Int)), (0 : Int)), (0 : Int), (0 : Int), (0 : Int), (0 : Int), [], ByteArray.mk #[], ByteArray.mk #[])).snd.fst, ((lookL y y_2).getD (((0 : Int), (0 : Int), (0 : Int), (0 : Int), (0 : Int), (0 : Int), 
  []), [], ByteArray.mk #[], [], ((0 : Int), []), ((0 : Int), (0 : Int)), (((0 : Int), (0 : Int), (0 : Int), (0 : Int), (0 : Int), (0 : Int), (0 : Int), (0 : Int), (0 : Int), (0 : Int), (0 : Int), (0 : Int), (0 : Int), 
  (0 : Int), (0 : Int), (0 : Int)), (0 : Int)), (0 : Int), (0 : Int), (0 : Int), (0 : Int), [], ByteArray.mk #[], ByteArray.mk #[])).snd.snd.fst, ((lookL y y_2).getD (((0 : Int), (0 : Int), (0 : Int), (0 : Int), (0 : 
  Int), (0 : Int), []), [], ByteArray.mk #[], [], ((0 : Int), []), ((0 : Int), (0 : Int)), (((0 : Int), (0 : Int), (0 : Int), (0 : Int), (0 : Int), (0 : Int), (0 : Int), (0 : Int), (0 : Int), (0 : Int), (0 : Int), (0 : 
  Int), (0 : Int), (0 : Int), (0 : Int), (0 : Int)), (0 : Int)), (0 : Int), (0 : Int), (0 : Int), (0 : Int), [], ByteArray.mk #[], ByteArray.mk #[])).snd.snd.snd.fst, (((lookL y y_2).getD (((0 : Int), (0 : Int), (0 : 
  Int), (0 : Int), (0 : Int), (0 : Int), []), [], ByteArray.mk #[], [], ((0 : Int), []), ((0 : Int), (0 : Int)), (((0 : Int), (0 : Int), (0 : Int), (0 : Int), (0 : Int), (0 : Int), (0 : Int), (0 : Int), (0 : Int), (0 : 
  Int), (0 : Int), (0 : Int), (0 : Int), (0 : Int), (0 : Int), (0 : Int)), (0 : Int)), (0 : Int), (0 : Int), (0 : Int), (0 : Int), [], ByteArray.mk #[], ByteArray.mk #[])).snd.snd.snd.snd.fst.fst, ((lookL y y_2).getD 
  (((0 : Int), (0 : Int), (0 : Int), (0 : Int), (0 : Int), (0 : Int), []), [], ByteArray.mk #[], [], ((0 : Int), []), ((0 : Int), (0 : Int)), (((0 : Int), (0 : Int), (0 : Int), (0 : Int), (0 : Int), (0 : Int), (0 : Int), 
  (0 : Int), (0 : Int), (0 : Int), (0 : Int), (0 : Int), (0 : Int), (0 : Int), (0 : Int), (0 : Int)), (0 : Int)), (0 : Int), (0 : Int), (0 : Int), (0 : Int), [], ByteArray.mk #[], ByteArray.mk 
  #[])).snd.snd.snd.snd.fst.snd), (((lookL y y_2).getD (((0 : Int), (0 : Int), (0 : Int), (0 : Int), (0 : Int), (0 : Int), []), [], ByteArray.mk #[], [], ((0 : Int), []), ((0 : Int), (0 : Int)), (((0 : Int), (0 : Int), 
  (0 : Int), (0 : Int), (0 : Int), (0 : Int), (0 : Int), (0 : Int), (0 : Int), (0 : Int), (0 : Int), (0 : Int), (0 : Int), (0 : Int), (0 : Int), (0 : Int)), (0 : Int)), (0 : Int), (0 : Int), (0 : Int), (0 : Int), [], 
  ByteArray.mk #[], ByteArray.mk #[])).snd.snd.snd.snd.snd.fst.fst, ((lookL y y_2).getD (((0 : Int), (0 : Int), (0 : Int), (0 : Int), (0 : Int), (0 : Int), []), [], ByteArray.mk #[], [], ((0 : Int), []), ((0 : Int), (0 : 
  Int)), (((0 : Int), (0 : Int), (0 : Int), (0 : Int), (0 : Int), (0 : Int), (0 : Int), (0 : Int), (0 : Int), (0 : Int), (0 : Int), (0 : Int), (0 : Int), (0 : Int), (0 : Int), (0 : Int)), (0 : Int)), (0 : Int), (0 : 
  Int), (0 : Int), (0 : Int), [], ByteArray.mk #[], ByteArray.mk #[])).snd.snd.snd.snd.snd.fst.snd), ((((lookL y y_2).getD (((0 : Int), (0 : Int), (0 : Int), (0 : Int), (0 : Int), (0 : Int), []), [], ByteArray.mk #[], 
  [], ((0 : Int), []), ((0 : Int), (0 : Int)), (((0 : Int), (0 : Int), (0 : Int), (0 : Int), (0 : Int), (0 : Int), (0 : Int), (0 : Int), (0 : Int), (0 : Int), (0 : Int), (0 : Int), (0 : Int), (0 : Int), (0 : Int), (0 : 
  Int)), (0 : Int)), (0 : Int), (0 : Int), (0 : Int), (0 : Int), [], ByteArray.mk #[], ByteArray.mk #[])).snd.snd.snd.snd.snd.snd.fst.fst.fst, ((lookL y y_2).getD (((0 : Int), (0 : Int), (0 : Int), (0 : Int), (0 : Int), 
  (0 : Int), []), [], ByteArray.mk #[], [], ((0 : Int), []), ((0 : Int), (0 : Int)), (((0 : Int), (0 : Int), (0 : Int), (0 : Int), (0 : Int), (0 : Int), (0 : Int), (0 : Int), (0 : Int), (0 : Int), (0 : Int), (0 : Int), 
  (0 : Int), (0 : Int), (0 : Int), (0 : Int)), (0 : Int)), (0 : Int), (0 : Int), (0 : Int), (0 : Int), [], ByteArray.mk #[], ByteArray.mk #[])).snd.snd.snd.snd.snd.snd.fst.fst.snd.fst, ((lookL y y_2).getD (((0 : Int), (0 
  : Int), (0 : Int), (0 : Int), (0 : Int), (0 : Int), []), [], ByteArray.mk #[], [], ((0 : Int), []), ((0 : Int), (0 : Int)), (((0 : Int), (0 : Int), (0 : Int), (0 : Int), (0 : Int), (0 : Int), (0 : Int), (0 : Int), (0 : 
  Int), (0 : Int), (0 : Int), (0 : Int), (0 : Int), (0 : Int), (0 : Int), (0 : Int)), (0 : Int)), (0 : Int), (0 : Int), (0 : Int), (0 : Int), [], ByteArray.mk #[], ByteArray.mk 
  #[])).snd.snd.snd.snd.snd.snd.fst.fst.snd.snd.fst, ((lookL y y_2).getD (((0 : Int), (0 : Int), (0 : Int), (0 : Int), (0 : Int), (0 : Int), []), [], ByteArray.mk #[], [], ((0 : Int), []), ((0 : Int), (0 : Int)), (((0 : 
  Int), (0 : Int), (0 : Int), (0 : Int), (0 : Int), (0 : Int), (0 : Int), (0 : Int), (0 : Int), (0 : Int), (0 : Int), (0 : Int), (0 : Int), (0 : Int), (0 : Int), (0 : Int)), (0 : Int)), (0 : Int), (0 : Int), (0 : Int), 
  (0 : Int), [], ByteArray.mk #[], ByteArray.mk #[])).snd.snd.snd.snd.snd.snd.fst.fst.snd.snd.snd.fst, ((lookL y y_2).getD (((0 : Int), (0 : Int), (0 : Int), (0 : Int), (0 : Int), (0 : Int), []), [], ByteArray.mk #[], 
  [], ((0 : Int), []), ((0 : Int), (0 : Int)), (((0 : Int), (0 : Int), (0 : Int), (0 : Int), (0 : Int), (0 : Int), (0 : Int), (0 : Int), (0 : Int), (0 : Int), (0 : Int), (0 : Int), (0 : Int), (0 : Int), (0 : Int), (0 : 
  Int)), (0 : Int)), (0 : Int), (0 : Int), (0 : Int), (0 : Int), [], ByteArray.mk #[], ByteArray.mk #[])).snd.snd.snd.snd.snd.snd.fst.fst.snd.snd.snd.snd.fst, ((lookL y y_2).getD (((0 : Int), (0 : Int), (0 : Int), (0 : 
  Int), (0 : Int), (0 : Int), []), [], ByteArray.mk #[], [], ((0 : Int), []), ((0 : Int), (0 : Int)), (((0 : Int), (0 : Int), (0 : Int), (0 : Int), (0 : Int), (0 : Int), (0 : Int), (0 : Int), (0 : Int), (0 : Int), (0 : 
  Int), (0 : Int), (0 : Int), (0 : Int), (0 : Int), (0 : Int)), (0 : Int)), (0 : Int), (0 : Int), (0 : Int), (0 : Int), [], ByteArray.mk #[], ByteArray.mk #[])).snd.snd.snd.snd.snd.snd.fst.fst.snd.snd.snd.snd.snd.fst, 
  ((lookL y y_2).getD (((0 : Int), (0 : Int), (0 : Int), (0 : Int), (0 : Int), (0 : Int), []), [], ByteArray.mk #[], [], ((0 : Int), []), ((0 : Int), (0 : Int)), (((0 : Int), (0 : Int), (0 : Int), (0 : Int), (0 : Int), 
  (0 : Int), (0 : Int), (0 : Int), (0 : Int), (0 : Int), (0 : Int), (0 : Int), (0 : Int), (0 : Int), (0 : Int), (0 : Int)), (0 : Int)), (0 : Int), (0 : Int), (0 : Int), (0 : Int), [], ByteArray.mk #[], ByteArray.mk 
  #[])).snd.snd.snd.snd.snd.snd.fst.fst.snd.snd.snd.snd.snd.snd.fst, ((lookL y y_2).getD (((0 : Int), (0 : Int), (0 : Int), (0 : Int), (0 : Int), (0 : Int), []), [], ByteArray.mk #[], [], ((0 : Int), []), ((0 : Int), (0 
  : Int)), (((0 : Int), (0 : Int), (0 : Int), (0 : Int), (0 : Int), (0 : Int), (0 : Int), (0 : Int), (0 : Int), (0 : Int), (0 : Int), (0 : Int), (0 : Int), (0 : Int), (0 : Int), (0 : Int)), (0 : Int)), (0 : Int), (0 : 
  Int), (0 : Int), (0 : Int), [], ByteArray.mk #[], ByteArray.mk #[])).snd.snd.snd.snd.snd.snd.fst.fst.snd.snd.snd.snd.snd.snd.snd.fst, ((lookL y y_2).getD (((0 : Int), (0 : Int), (0 : Int), (0 : Int), (0 : Int), (0 : 
  Int), []), [], ByteArray.mk #[], [], ((0 : Int), []), ((0 : Int), (0 : Int)), (((0 : Int), (0 : Int), (0 : Int), (0 : Int), (0 : Int), (0 : Int), (0 : Int), (0 : Int), (0 : Int), (0 : Int), (0 : Int), (0 : Int), (0 : 
  Int), (0 : Int), (0 : Int), (0 : Int)), (0 : Int)), (0 : Int), (0 : Int), (0 : Int), (0 : Int), [], ByteArray.mk #[], ByteArray.mk #[])).snd.snd.snd.snd.snd.snd.fst.fst.snd.snd.snd.snd.snd.snd.snd.snd.fst, ((lookL y 
  y_2).getD (((0 : Int), (0 : Int), (0 : Int), (0 : Int), (0 : Int), (0 : Int), []), [], ByteArray.mk #[], [], ((0 : Int), []), ((0 : Int), (0 : Int)), (((0 : Int), (0 : Int), (0 : Int), (0 : Int), (0 : Int), (0 : Int), 
  (0 : Int), (0 : Int), (0 : Int), (0 : Int), (0 : Int), (0 : Int), (0 : Int), (0 : Int), (0 : Int), (0 : Int)), (0 : Int)), (0 : Int), (0 : Int), (0 : Int), (0 : Int), [], ByteArray.mk #[], ByteArray.mk 
  #[])).snd.snd.snd.snd.snd.snd.fst.fst.snd.snd.snd.snd.snd.snd.snd.snd.snd.fst, ((lookL y y_2).getD (((0 : Int), (0 : Int), (0 : Int), (0 : Int), (0 : Int), (0 : Int), []), [], ByteArray.mk #[], [], ((0 : Int), []), ((0 
  : Int), (0 : Int)), (((0 : Int), (0 : Int), (0 : Int), (0 : Int), (0 : Int), (0 : Int), (0 : Int), (0 : Int), (0 : Int), (0 : Int), (0 : Int), (0 : Int), (0 : Int), (0 : Int), (0 : Int), (0 : Int)), (0 : Int)), (0 : 
  Int), (0 : Int), (0 : Int), (0 : Int), [], ByteArray.mk #[], ByteArray.mk #[])).snd.snd.snd.snd.snd.snd.fst.fst.snd.snd.snd.snd.snd.snd.snd.snd.snd.snd.fst, ((lookL y y_2).getD (((0 : Int), (0 : Int), (0 : Int), (0 : 
  Int), (0 : Int), (0 : Int), []), [], ByteArray.mk #[], [], ((0 : Int), []), ((0 : Int), (0 : Int)), (((0 : Int), (0 : Int), (0 : Int), (0 : Int), (0 : Int), (0 : Int), (0 : Int), (0 : Int), (0 : Int), (0 : Int), (0 : 
  Int), (0 : Int), (0 : Int), (0 : Int), (0 : Int), (0 : Int)), (0 : Int)), (0 : Int), (0 : Int), (0 : Int), (0 : Int), [], ByteArray.mk #[], ByteArray.mk 
  #[])).snd.snd.snd.snd.snd.snd.fst.fst.snd.snd.snd.snd.snd.snd.snd.snd.snd.snd.snd.fst, ((lookL y y_2).getD (((0 : Int), (0 : Int), (0 : Int), (0 : Int), (0 : Int), (0 : Int), []), [], ByteArray.mk #[], [], ((0 : Int), 
  []), ((0 : Int), (0 : Int)), (((0 : Int), (0 : Int), (0 : Int), (0 : Int), (0 : Int), (0 : Int), (0 : Int), (0 : Int), (0 : Int), (0 : Int), (0 : Int), (0 : Int), (0 : Int), (0 : Int), (0 : Int), (0 : Int)), (0 : 
  Int)), (0 : Int), (0 : Int), (0 : Int), (0 : Int), [], ByteArray.mk #[], ByteArray.mk #[])).snd.snd.snd.snd.snd.snd.fst.fst.snd.snd.snd.snd.snd.snd.snd.snd.snd.snd.snd.snd.fst, ((lookL y y_2).getD (((0 : Int), (0 : 
  Int), (0 : Int), (0 : Int), (0 : Int), (0 : Int), []), [], ByteArray.mk #[], [], ((0 : Int), []), ((0 : Int), (0 : Int)), (((0 : Int), (0 : Int), (0 : Int), (0 : Int), (0 : Int), (0 : Int), (0 : Int), (0 : Int), (0 : 
  Int), (0 : Int), (0 : Int), (0 : Int), (0 : Int), (0 : Int), (0 : Int), (0 : Int)), (0 : Int)), (0 : Int), (0 : Int), (0 : Int), (0 : Int), [], ByteArray.mk #[], ByteArray.mk 
  #[])).snd.snd.snd.snd.snd.snd.fst.fst.snd.snd.snd.snd.snd.snd.snd.snd.snd.snd.snd.snd.snd.fst, ((lookL y y_2).getD (((0 : Int), (0 : Int), (0 : Int), (0 : Int), (0 : Int), (0 : Int), []), [], ByteArray.mk #[], [], ((0 
  : Int), []), ((0 : Int), (0 : Int)), (((0 : Int), (0 : Int), (0 : Int), (0 : Int), (0 : Int), (0 : Int), (0 : Int), (0 : Int), (0 : Int), (0 : Int), (0 : Int), (0 : Int), (0 : Int), (0 : Int), (0 : Int), (0 : Int)), (0 
  : Int)), (0 : Int), (0 : Int), (0 : Int), (0 : Int), [], ByteArray.mk #[], ByteArray.mk #[])).snd.snd.snd.snd.snd.snd.fst.fst.snd.snd.snd.snd.snd.snd.snd.snd.snd.snd.snd.snd.snd.snd.fst, ((lookL y y_2).getD (((0 : 
  Int), (0 : Int), (0 : Int), (0 : Int), (0 : Int), (0 : Int), []), [], ByteArray.mk #[], [], ((0 : Int), []), ((0 : Int), (0 : Int)), (((0 : Int), (0 : Int), (0 : Int), (0 : Int), (0 : Int), (0 : Int), (0 : Int), (0 : 
  Int), (0 : Int), (0 : Int), (0 : Int), (0 : Int), (0 : Int), (0 : Int), (0 : Int), (0 : Int)), (0 : Int)), (0 : Int), (0 : Int), (0 : Int), (0 : Int), [], ByteArray.mk #[], ByteArray.mk 
  #[])).snd.snd.snd.snd.snd.snd.fst.fst.snd.snd.snd.snd.snd.snd.snd.snd.snd.snd.snd.snd.snd.snd.snd), ((lookL y y_2).getD (((0 : Int), (0 : Int), (0 : Int), (0 : Int), (0 : Int), (0 : Int), []), [], ByteArray.mk #[], [], 
  ((0 : Int), []), ((0 : Int), (0 : Int)), (((0 : Int), (0 : Int), (0 : Int), (0 : Int), (0 : Int), (0 : Int), (0 : Int), (0 : Int), (0 : Int), (0 : Int), (0 : Int), (0 : Int), (0 : Int), (0 : Int), (0 : Int), (0 : 
  Int)), (0 : Int)), (0 : Int), (0 : Int), (0 : Int), (0 : Int), [], ByteArray.mk #[], ByteArray.mk #[])).snd.snd.snd.snd.snd.snd.fst.snd), ((lookL y y_2).getD (((0 : Int), (0 : Int), (0 : Int), (0 : Int), (0 : Int), (0 
  : Int), []), [], ByteArray.mk #[], [], ((0 : Int), []), ((0 : Int), (0 : Int)), (((0 : Int), (0 : Int), (0 : Int), (0 : Int), (0 : Int), (0 : Int), (0 : Int), (0 : Int), (0 : Int), (0 : Int), (0 : Int), (0 : Int), (0 : 
  Int), (0 : Int), (0 : Int), (0 : Int)), (0 : Int)), (0 : Int), (0 : Int), (0 : Int), (0 : Int), [], ByteArray.mk #[], ByteArray.mk #[])).snd.snd.snd.snd.snd.snd.snd.fst, ((lookL y y_2).getD (((0 : Int), (0 : Int), (0 : 
  Int), (0 : Int), (0 : Int), (0 : Int), []), [], ByteArray.mk #[], [], ((0 : Int), []), ((0 : Int), (0 : Int)), (((0 : Int), (0 : Int), (0 : Int), (0 : Int), (0 : Int), (0 : Int), (0 : Int), (0 : Int), (0 : Int), (0 : 
  Int), (0 : Int), (0 : Int), (0 : Int), (0 : Int), (0 : Int), (0 : Int)), (0 : Int)), (0 : Int), (0 : Int), (0 : Int), (0 : Int), [], ByteArray.mk #[], ByteArray.mk #[])).snd.snd.snd.snd.snd.snd.snd.snd.fst, ((lookL y 
  y_2).getD (((0 : Int), (0 : Int), (0 : Int), (0 : Int), (0 : Int), (0 : Int), []), [], ByteArray.mk #[], [], ((0 : Int), []), ((0 : Int), (0 : Int)), (((0 : Int), (0 : Int), (0 : Int), (0 : Int), (0 : Int), (0 : Int), 
  (0 : Int), (0 : Int), (0 : Int), (0 : Int), (0 : Int), (0 : Int), (0 : Int), (0 : Int), (0 : Int), (0 : Int)), (0 : Int)), (0 : Int), (0 : Int), (0 : Int), (0 : Int), [], ByteArray.mk #[], ByteArray.mk 
  #[])).snd.snd.snd.snd.snd.snd.snd.snd.snd.fst, ((lookL y y_2).getD (((0 : Int), (0 : Int), (0 : Int), (0 : Int), (0 : Int), (0 : Int), []), [], ByteArray.mk #[], [], ((0 : Int), []), ((0 : Int), (0 : Int)), (((0 : 
  Int), (0 : Int), (0 : Int), (0 : Int), (0 : Int), (0 : Int), (0 : Int), (0 : Int), (0 : Int), (0 : Int), (0 : Int), (0 : Int), (0 : Int), (0 : Int), (0 : Int), (0 : Int)), (0 : Int)), (0 : Int), (0 : Int), (0 : Int), 
  (0 : Int), [], ByteArray.mk #[], ByteArray.mk #[])).snd.snd.snd.snd.snd.snd.snd.snd.snd.snd.fst, ((lookL y y_2).getD (((0 : Int), (0 : Int), (0 : Int), (0 : Int), (0 : Int), (0 : Int), []), [], ByteArray.mk #[], [], 
  ((0 : Int), []), ((0 : Int), (0 : Int)), (((0 : Int), (0 : Int), (0 : Int), (0 : Int), (0 : Int), (0 : Int), (0 : Int), (0 : Int), (0 : Int), (0 : Int), (0 : Int), (0 : Int), (0 : Int), (0 : Int), (0 : Int), (0 : 
  Int)), (0 : Int)), (0 : Int), (0 : Int), (0 : Int), (0 : Int), [], ByteArray.mk #[], ByteArray.mk #[])).snd.snd.snd.snd.snd.snd.snd.snd.snd.snd.snd.fst, ((lookL y y_2).getD (((0 : Int), (0 : Int), (0 : Int), (0 : Int), 
  (0 : Int), (0 : Int), []), [], ByteArray.mk #[], [], ((0 : Int), []), ((0 : Int), (0 : Int)), (((0 : Int), (0 : Int), (0 : Int), (0 : Int), (0 : Int), (0 : Int), (0 : Int), (0 : Int), (0 : Int), (0 : Int), (0 : Int), 
  (0 : Int), (0 : Int), (0 : Int), (0 : Int), (0 : Int)), (0 : Int)), (0 : Int), (0 : Int), (0 : Int), (0 : Int), [], ByteArray.mk #[], ByteArray.mk #[])).snd.snd.snd.snd.snd.snd.snd.snd.snd.snd.snd.snd.fst, ((lookL y 
  y_2).getD (((0 : Int), (0 : Int), (0 : Int), (0 : Int), (0 : Int), (0 : Int), []), [], ByteArray.mk #[], [], ((0 : Int), []), ((0 : Int), (0 : Int)), (((0 : Int), (0 : Int), (0 : Int), (0 : Int), (0 : Int), (0 : Int), 
  (0 : Int), (0 : Int), (0 : Int), (0 : Int), (0 : Int), (0 : Int), (0 : Int), (0 : Int), (0 : Int), (0 : Int)), (0 : Int)), (0 : Int), (0 : Int), (0 : Int), (0 : Int), [], ByteArray.mk #[], ByteArray.mk 
  #[])).snd.snd.snd.snd.snd.snd.snd.snd.snd.snd.snd.snd.snd)].length) * (408 : Nat) ≤ (140737488355328 : Nat) ∧ ∃ (x' : Nat), (x' ≤ (sortI x.snd.snd).length ∧ True) ∧ (sortI x.snd.snd).length - x' < (sortI 
  x.snd.snd).length - x_1 ∧ (True ∧ True) ∧ (IntKind.i64.wrap ((↑x_1 : Int) + (1 : Int)) = (↑x' : Int) ∧ True ∧ (↑(sortI x.snd.snd).length : Int) = (↑(sortI x.snd.snd).length : Int) ∧ True ∧ True ∧ SV.val (Value.slice 
  none (0 : Nat) (0 : Nat)) = SV.val (Value.slice none (0 : Nat) (0 : Nat)) ∧ True ∧ d = d ∧ root = root ∧ (l.fst = l.fst ∧ l.snd = l.snd ∧ True) ∧ True) ∧ (l.fst = l.fst ∧ l.snd = l.snd ∧ True) ∧ True ∧ (y = y ∧ True) ∧ 
  (True ∧ True) ∧ (True ∧ True) ∧ True ∧ True ∧ True ∧ sortI x.snd.snd = sortI x.snd.snd ∧ List.flatMap (seeAt d) (List.take x_1 (visL d root l)) ++ [((((lookL y y_2).getD (((0 : Int), (0 : Int), (0 : Int), (0 : Int), (0 
  : Int), (0 : Int), []), [], ByteArray.mk #[], [], ((0 : Int), []), ((0 : Int), (0 : Int)), (((0 : Int), (0 : Int), (0 : Int), (0 : Int), (0 : Int), (0 : Int), (0 : Int), (0 : Int), (0 : Int), (0 : Int), (0 : Int), (0 : 
  Int), (0 : Int), (0 : Int), (0 : Int), (0 : Int)), (0 : Int)), (0 : Int), (0 : Int), (0 : Int), (0 : Int), [], ByteArray.mk #[], ByteArray.mk #[])).fst.fst, ((lookL y y_2).getD (((0 : Int), (0 : Int), (0 : Int), (0 : 
  Int), (0 : Int), (0 : Int), []), [], ByteArray.mk #[], [], ((0 : Int), []), ((0 : Int), (0 : Int)), (((0 : Int), (0 : Int), (0 : Int), (0 : Int), (0 : Int), (0 : Int), (0 : Int), (0 : Int), (0 : Int), (0 : Int), (0 : 
  Int), (0 : Int), (0 : Int), (0 : Int), (0 : Int), (0 : Int)), (0 : Int)), (0 : Int), (0 : Int), (0 : Int), (0 : Int), [], ByteArray.mk #[], ByteArray.mk #[])).fst.snd.fst, ((lookL y y_2).getD (((0 : Int), (0 : Int), (0 
  : Int), (0 : Int), (0 : Int), (0 : Int), []), [], ByteArray.mk #[], [], ((0 : Int), []), ((0 : Int), (0 : Int)), (((0 : Int), (0 : Int), (0 : Int), (0 : Int), (0 : Int), (0 : Int), (0 : Int), (0 : Int), (0 : Int), (0 : 
  Int), (0 : Int), (0 : Int), (0 : Int), (0 : Int), (0 : Int), (0 : Int)), (0 : Int)), (0 : Int), (0 : Int), (0 : Int), (0 : Int), [], ByteArray.mk #[], ByteArray.mk #[])).fst.snd.snd.fst, ((lookL y y_2).getD (((0 : 
  Int), (0 : Int), (0 : Int), (0 : Int), (0 : Int), (0 : Int), []), [], ByteArray.mk #[], [], ((0 : Int), []), ((0 : Int), (0 : Int)), (((0 : Int), (0 : Int), (0 : Int), (0 : Int), (0 : Int), (0 : Int), (0 : Int), (0 : 
  Int), (0 : Int), (0 : Int), (0 : Int), (0 : Int), (0 : Int), (0 : Int), (0 : Int), (0 : Int)), (0 : Int)), (0 : Int), (0 : Int), (0 : Int), (0 : Int), [], ByteArray.mk #[], ByteArray.mk #[])).fst.snd.snd.snd.fst, (0 : 
  Int), ((lookL y y_2).getD (((0 : Int), (0 : Int), (0 : Int), (0 : Int), (0 : Int), (0 : Int), []), [], ByteArray.mk #[], [], ((0 : Int), []), ((0 : Int), (0 : Int)), (((0 : Int), (0 : Int), (0 : Int), (0 : Int), (0 : 
  Int), (0 : Int), (0 : Int), (0 : Int), (0 : Int), (0 : Int), (0 : Int), (0 : Int), (0 : Int), (0 : Int), (0 : Int), (0 : Int)), (0 : Int)), (0 : Int), (0 : Int), (0 : Int), (0 : Int), [], ByteArray.mk #[], ByteArray.mk 
  #[])).fst.snd.snd.snd.snd.snd.fst, ((lookL y y_2).getD (((0 : Int), (0 : Int), (0 : Int), (0 : Int), (0 : Int), (0 : Int), []), [], ByteArray.mk #[], [], ((0 : Int), []), ((0 : Int), (0 : Int)), (((0 : Int), (0 : Int), 
  (0 : Int), (0 : Int), (0 : Int), (0 : Int), (0 : Int), (0 : Int), (0 : Int), (0 : Int), (0 : Int), (0 : Int), (0 : Int), (0 : Int), (0 : Int), (0 : Int)), (0 : Int)), (0 : Int), (0 : Int), (0 : Int), (0 : Int), [], 
  ByteArray.mk #[], ByteArray.mk #[])).fst.snd.snd.snd.snd.snd.snd), ((lookL y y_2).getD (((0 : Int), (0 : Int), (0 : Int), (0 : Int), (0 : Int), (0 : Int), []), [], ByteArray.mk #[], [], ((0 : Int), []), ((0 : Int), (0 
  : Int)), (((0 : Int), (0 : Int), (0 : Int), (0 : Int), (0 : Int), (0 : Int), (0 : Int), (0 : Int), (0 : Int), (0 : Int), (0 : Int), (0 : Int), (0 : Int), (0 : Int), (0 : Int), (0 : Int)), (0 : Int)), (0 : Int), (0 : 
  Int), (0 : Int), (0 : Int), [], ByteArray.mk #[], ByteArray.mk #[])).snd.fst, ((lookL y y_2).getD (((0 : Int), (0 : Int), (0 : Int), (0 : Int), (0 : Int), (0 : Int), []), [], ByteArray.mk #[], [], ((0 : Int), []), ((0 
  : Int), (0 : Int)), (((0 : Int), (0 : Int), (0 : Int), (0 : Int), (0 : Int), (0 : Int), (0 : Int), (0 : Int), (0 : Int), (0 : Int), (0 : Int), (0 : Int), (0 : Int), (0 : Int), (0 : Int), (0 : Int)), (0 : Int)), (0 : 
  Int), (0 : Int), (0 : Int), (0 : Int), [], ByteArray.mk #[], ByteArray.mk #[])).snd.snd.fst, ((lookL y y_2).getD (((0 : Int), (0 : Int), (0 : Int), (0 : Int), (0 : Int), (0 : Int), []), [], ByteArray.mk #[], [], ((0 : 
  Int), []), ((0 : Int), (0 : Int)), (((0 : Int), (0 : Int), (0 : Int), (0 : Int), (0 : Int), (0 : Int), (0 : Int), (0 : Int), (0 : Int), (0 : Int), (0 : Int), (0 : Int), (0 : Int), (0 : Int), (0 : Int), (0 : Int)), (0 : 
  Int)), (0 : Int), (0 : Int), (0 : Int), (0 : Int), [], ByteArray.mk #[], ByteArray.mk #[])).snd.snd.snd.fst, (((lookL y y_2).getD (((0 : Int), (0 : Int), (0 : Int), (0 : Int), (0 : Int), (0 : Int), []), [], 
  ByteArray.mk #[], [], ((0 : Int), []), ((0 : Int), (0 : Int)), (((0 : Int), (0 : Int), (0 : Int), (0 : Int), (0 : Int), (0 : Int), (0 : Int), (0 : Int), (0 : Int), (0 : Int), (0 : Int), (0 : Int), (0 : Int), (0 : Int), 
  (0 : Int), (0 : Int)), (0 : Int)), (0 : Int), (0 : Int), (0 : Int), (0 : Int), [], ByteArray.mk #[], ByteArray.mk #[])).snd.snd.snd.snd.fst.fst, ((lookL y y_2).getD (((0 : Int), (0 : Int), (0 : Int), (0 : Int), (0 : 
  Int), (0 : Int), []), [], ByteArray.mk #[], [], ((0 : Int), []), ((0 : Int), (0 : Int)), (((0 : Int), (0 : Int), (0 : Int), (0 : Int), (0 : Int), (0 : Int), (0 : Int), (0 : Int), (0 : Int), (0 : Int), (0 : Int), (0 : 
  Int), (0 : Int), (0 : Int), (0 : Int), (0 : Int)), (0 : Int)), (0 : Int), (0 : Int), (0 : Int), (0 : Int), [], ByteArray.mk #[], ByteArray.mk #[])).snd.snd.snd.snd.fst.snd), (((lookL y y_2).getD (((0 : Int), (0 : Int), 
  (0 : Int), (0 : Int), (0 : Int), (0 : Int), []), [], ByteArray.mk #[], [], ((0 : Int), []), ((0 : Int), (0 : Int)), (((0 : Int), (0 : Int), (0 : Int), (0 : Int), (0 : Int), (0 : Int), (0 : Int), (0 : Int), (0 : Int), 
  (0 : Int), (0 : Int), (0 : Int), (0 : Int), (0 : Int), (0 : Int), (0 : Int)), (0 : Int)), (0 : Int), (0 : Int), (0 : Int), (0 : Int), [], ByteArray.mk #[], ByteArray.mk #[])).snd.snd.snd.snd.snd.fst.fst, ((lookL y 
  y_2).getD (((0 : Int), (0 : Int), (0 : Int), (0 : Int), (0 : Int), (0 : Int), []), [], ByteArray.mk #[], [], ((0 : Int), []), ((0 : Int), (0 : Int)), (((0 : Int), (0 : Int), (0 : Int), (0 : Int), (0 : Int), (0 : Int), 
  (0 : Int), (0 : Int), (0 : Int), (0 : Int), (0 : Int), (0 : Int), (0 : Int), (0 : Int), (0 : Int), (0 : Int)), (0 : Int)), (0 : Int), (0 : Int), (0 : Int), (0 : Int), [], ByteArray.mk #[], ByteArray.mk 
  #[])).snd.snd.snd.snd.snd.fst.snd), ((((lookL y y_2).getD (((0 : Int), (0 : Int), (0 : Int), (0 : Int), (0 : Int), (0 : Int), []), [], ByteArray.mk #[], [], ((0 : Int), []), ((0 : Int), (0 : Int)), (((0 : Int), (0 : 
  Int), (0 : Int), (0 : Int), (0 : Int), (0 : Int), (0 : Int), (0 : Int), (0 : Int), (0 : Int), (0 : Int), (0 : Int), (0 : Int), (0 : Int), (0 : Int), (0 : Int)), (0 : Int)), (0 : Int), (0 : Int), (0 : Int), (0 : Int), 
  [], ByteArray.mk #[], ByteArray.mk #[])).snd.snd.snd.snd.snd.snd.fst.fst.fst, ((lookL y y_2).getD (((0 : Int), (0 : Int), (0 : Int), (0 : Int), (0 : Int), (0 : Int), []), [], ByteArray.mk #[], [], ((0 : Int), []), ((0 
  : Int), (0 : Int)), (((0 : Int), (0 : Int), (0 : Int), (0 : Int), (0 : Int), (0 : Int), (0 : Int), (0 : Int), (0 : Int), (0 : Int), (0 : Int), (0 : Int), (0 : Int), (0 : Int), (0 : Int), (0 : Int)), (0 : Int)), (0 : 
  Int), (0 : Int), (0 : Int), (0 : Int), [], ByteArray.mk #[], ByteArray.mk #[])).snd.snd.snd.snd.snd.snd.fst.fst.snd.fst, ((lookL y y_2).getD (((0 : Int), (0 : Int), (0 : Int), (0 : Int), (0 : Int), (0 : Int), []), [], 
  ByteArray.mk #[], [], ((0 : Int), []), ((0 : Int), (0 : Int)), (((0 : Int), (0 : Int), (0 : Int), (0 : Int), (0 : Int), (0 : Int), (0 : Int), (0 : Int), (0 : Int), (0 : Int), (0 : Int), (0 : Int), (0 : Int), (0 : Int), 
  (0 : Int), (0 : Int)), (0 : Int)), (0 : Int), (0 : Int), (0 : Int), (0 : Int), [], ByteArray.mk #[], ByteArray.mk #[])).snd.snd.snd.snd.snd.snd.fst.fst.snd.snd.fst, ((lookL y y_2).getD (((0 : Int), (0 : Int), (0 : 
  Int), (0 : Int), (0 : Int), (0 : Int), []), [], ByteArray.mk #[], [], ((0 : Int), []), ((0 : Int), (0 : Int)), (((0 : Int), (0 : Int), (0 : Int), (0 : Int), (0 : Int), (0 : Int), (0 : Int), (0 : Int), (0 : Int), (0 : 
  Int), (0 : Int), (0 : Int), (0 : Int), (0 : Int), (0 : Int), (0 : Int)), (0 : Int)), (0 : Int), (0 : Int), (0 : Int), (0 : Int), [], ByteArray.mk #[], ByteArray.mk #[])).snd.snd.snd.snd.snd.snd.fst.fst.snd.snd.snd.fst, 
  ((lookL y y_2).getD (((0 : Int), (0 : Int), (0 : Int), (0 : Int), (0 : Int), (0 : Int), []), [], ByteArray.mk #[], [], ((0 : Int), []), ((0 : Int), (0 : Int)), (((0 : Int), (0 : Int), (0 : Int), (0 : Int), (0 : Int), 
  (0 : Int), (0 : Int), (0 : Int), (0 : Int), (0 : Int), (0 : Int), (0 : Int), (0 : Int), (0 : Int), (0 : Int), (0 : Int)), (0 : Int)), (0 : Int), (0 : Int), (0 : Int), (0 : Int), [], ByteArray.mk #[], ByteArray.mk 
  #[])).snd.snd.snd.snd.snd.snd.fst.fst.snd.snd.snd.snd.fst, ((lookL y y_2).getD (((0 : Int), (0 : Int), (0 : Int), (0 : Int), (0 : Int), (0 : Int), []), [], ByteArray.mk #[], [], ((0 : Int), []), ((0 : Int), (0 : Int)), 
  (((0 : Int), (0 : Int), (0 : Int), (0 : Int), (0 : Int), (0 : Int), (0 : Int), (0 : Int), (0 : Int), (0 : Int), (0 : Int), (0 : Int), (0 : Int), (0 : Int), (0 : Int), (0 : Int)), (0 : Int)), (0 : Int), (0 : Int), (0 : 
  Int), (0 : Int), [], ByteArray.mk #[], ByteArray.mk #[])).snd.snd.snd.snd.snd.snd.fst.fst.snd.snd.snd.snd.snd.fst, ((lookL y y_2).getD (((0 : Int), (0 : Int), (0 : Int), (0 : Int), (0 : Int), (0 : Int), []), [], 
  ByteArray.mk #[], [], ((0 : Int), []), ((0 : Int), (0 : Int)), (((0 : Int), (0 : Int), (0 : Int), (0 : Int), (0 : Int), (0 : Int), (0 : Int), (0 : Int), (0 : Int), (0 : Int), (0 : Int), (0 : Int), (0 : Int), (0 : Int), 
  (0 : Int), (0 : Int)), (0 : Int)), (0 : Int), (0 : Int), (0 : Int), (0 : Int), [], ByteArray.mk #[], ByteArray.mk #[])).snd.snd.snd.snd.snd.snd.fst.fst.snd.snd.snd.snd.snd.snd.fst, ((lookL y y_2).getD (((0 : Int), (0 : 
  Int), (0 : Int), (0 : Int), (0 : Int), (0 : Int), []), [], ByteArray.mk #[], [], ((0 : Int), []), ((0 : Int), (0 : Int)), (((0 : Int), (0 : Int), (0 : Int), (0 : Int), (0 : Int), (0 : Int), (0 : Int), (0 : Int), (0 : 
  Int), (0 : Int), (0 : Int), (0 : Int), (0 : Int), (0 : Int), (0 : Int), (0 : Int)), (0 : Int)), (0 : Int), (0 : Int), (0 : Int), (0 : Int), [], ByteArray.mk #[], ByteArray.mk 
  #[])).snd.snd.snd.snd.snd.snd.fst.fst.snd.snd.snd.snd.snd.snd.snd.fst, ((lookL y y_2).getD (((0 : Int), (0 : Int), (0 : Int), (0 : Int), (0 : Int), (0 : Int), []), [], ByteArray.mk #[], [], ((0 : Int), []), ((0 : Int), 
  (0 : Int)), (((0 : Int), (0 : Int), (0 : Int), (0 : Int), (0 : Int), (0 : Int), (0 : Int), (0 : Int), (0 : Int), (0 : Int), (0 : Int), (0 : Int), (0 : Int), (0 : Int), (0 : Int), (0 : Int)), (0 : Int)), (0 : Int), (0 : 
  Int), (0 : Int), (0 : Int), [], ByteArray.mk #[], ByteArray.mk #[])).snd.snd.snd.snd.snd.snd.fst.fst.snd.snd.snd.snd.snd.snd.snd.snd.fst, ((lookL y y_2).getD (((0 : Int), (0 : Int), (0 : Int), (0 : Int), (0 : Int), (0 
  : Int), []), [], ByteArray.mk #[], [], ((0 : Int), []), ((0 : Int), (0 : Int)), (((0 : Int), (0 : Int), (0 : Int), (0 : Int), (0 : Int), (0 : Int), (0 : Int), (0 : Int), (0 : Int), (0 : Int), (0 : Int), (0 : Int), (0 : 
  Int), (0 : Int), (0 : Int), (0 : Int)), (0 : Int)), (0 : Int), (0 : Int), (0 : Int), (0 : Int), [], ByteArray.mk #[], ByteArray.mk #[])).snd.snd.snd.snd.snd.snd.fst.fst.snd.snd.snd.snd.snd.snd.snd.snd.snd.fst, ((lookL 
  y y_2).getD (((0 : Int), (0 : Int), (0 : Int), (0 : Int), (0 : Int), (0 : Int), []), [], ByteArray.mk #[], [], ((0 : Int), []), ((0 : Int), (0 : Int)), (((0 : Int), (0 : Int), (0 : Int), (0 : Int), (0 : Int), (0 : 
  Int), (0 : Int), (0 : Int), (0 : Int), (0 : Int), (0 : Int), (0 : Int), (0 : Int), (0 : Int), (0 : Int), (0 : Int)), (0 : Int)), (0 : Int), (0 : Int), (0 : Int), (0 : Int), [], ByteArray.mk #[], ByteArray.mk 
  #[])).snd.snd.snd.snd.snd.snd.fst.fst.snd.snd.snd.snd.snd.snd.snd.snd.snd.snd.fst, ((lookL y y_2).getD (((0 : Int), (0 : Int), (0 : Int), (0 : Int), (0 : Int), (0 : Int), []), [], ByteArray.mk #[], [], ((0 : Int), []), 
  ((0 : Int), (0 : Int)), (((0 : Int), (0 : Int), (0 : Int), (0 : Int), (0 : Int), (0 : Int), (0 : Int), (0 : Int), (0 : Int), (0 : Int), (0 : Int), (0 : Int), (0 : Int), (0 : Int), (0 : Int), (0 : Int)), (0 : Int)), (0 
  : Int), (0 : Int), (0 : Int), (0 : Int), [], ByteArray.mk #[], ByteArray.mk #[])).snd.snd.snd.snd.snd.snd.fst.fst.snd.snd.snd.snd.snd.snd.snd.snd.snd.snd.snd.fst, ((lookL y y_2).getD (((0 : Int), (0 : Int), (0 : Int), 
  (0 : Int), (0 : Int), (0 : Int), []), [], ByteArray.mk #[], [], ((0 : Int), []), ((0 : Int), (0 : Int)), (((0 : Int), (0 : Int), (0 : Int), (0 : Int), (0 : Int), (0 : Int), (0 : Int), (0 : Int), (0 : Int), (0 : Int), 
  (0 : Int), (0 : Int), (0 : Int), (0 : Int), (0 : Int), (0 : Int)), (0 : Int)), (0 : Int), (0 : Int), (0 : Int), (0 : Int), [], ByteArray.mk #[], ByteArray.mk 
  #[])).snd.snd.snd.snd.snd.snd.fst.fst.snd.snd.snd.snd.snd.snd.snd.snd.snd.snd.snd.snd.fst, ((lookL y y_2).getD (((0 : Int), (0 : Int), (0 : Int), (0 : Int), (0 : Int), (0 : Int), []), [], ByteArray.mk #[], [], ((0 : 
  Int), []), ((0 : Int), (0 : Int)), (((0 : Int), (0 : Int), (0 : Int), (0 : Int), (0 : Int), (0 : Int), (0 : Int), (0 : Int), (0 : Int), (0 : Int), (0 : Int), (0 : Int), (0 : Int), (0 : Int), (0 : Int), (0 : Int)), (0 : 
  Int)), (0 : Int), (0 : Int), (0 : Int), (0 : Int), [], ByteArray.mk #[], ByteArray.mk #[])).snd.snd.snd.snd.snd.snd.fst.fst.snd.snd.snd.snd.snd.snd.snd.snd.snd.snd.snd.snd.snd.fst, ((lookL y y_2).getD (((0 : Int), (0 : 
  Int), (0 : Int), (0 : Int), (0 : Int), (0 : Int), []), [], ByteArray.mk #[], [], ((0 : Int), []), ((0 : Int), (0 : Int)), (((0 : Int), (0 : Int), (0 : Int), (0 : Int), (0 : Int), (0 : Int), (0 : Int), (0 : Int), (0 : 
  Int), (0 : Int), (0 : Int), (0 : Int), (0 : Int), (0 : Int), (0 : Int), (0 : Int)), (0 : Int)), (0 : Int), (0 : Int), (0 : Int), (0 : Int), [], ByteArray.mk #[], ByteArray.mk 
  #[])).snd.snd.snd.snd.snd.snd.fst.fst.snd.snd.snd.snd.snd.snd.snd.snd.snd.snd.snd.snd.snd.snd.fst, ((lookL y y_2).getD (((0 : Int), (0 : Int), (0 : Int), (0 : Int), (0 : Int), (0 : Int), []), [], ByteArray.mk #[], [], 
  ((0 : Int), []), ((0 : Int), (0 : Int)), (((0 : Int), (0 : Int), (0 : Int), (0 : Int), (0 : Int), (0 : Int), (0 : Int), (0 : Int), (0 : Int), (0 : Int), (0 : Int), (0 : Int), (0 : Int), (0 : Int), (0 : Int), (0 : 
  Int)), (0 : Int)), (0 : Int), (0 : Int), (0 : Int), (0 : Int), [], ByteArray.mk #[], ByteArray.mk #[])).snd.snd.snd.snd.snd.snd.fst.fst.snd.snd.snd.snd.snd.snd.snd.snd.snd.snd.snd.snd.snd.snd.snd), ((lookL y y_2).getD 
  (((0 : Int), (0 : Int), (0 : Int), (0 : Int), (0 : Int), (0 : Int), []), [], ByteArray.mk #[], [], ((0 : Int), []), ((0 : Int), (0 : Int)), (((0 : Int), (0 : Int), (0 : Int), (0 : Int), (0 : Int), (0 : Int), (0 : Int), 
  (0 : Int), (0 : Int), (0 : Int), (0 : Int), (0 : Int), (0 : Int), (0 : Int), (0 : Int), (0 : Int)), (0 : Int)), (0 : Int), (0 : Int), (0 : Int), (0 : Int), [], ByteArray.mk #[], ByteArray.mk 
  #[])).snd.snd.snd.snd.snd.snd.fst.snd), ((lookL y y_2).getD (((0 : Int), (0 : Int), (0 : Int), (0 : Int), (0 : Int), (0 : Int), []), [], ByteArray.mk #[], [], ((0 : Int), []), ((0 : Int), (0 : Int)), (((0 : Int), (0 : 
  Int), (0 : Int), (0 : Int), (0 : Int), (0 : Int), (0 : Int), (0 : Int), (0 : Int), (0 : Int), (0 : Int), (0 : Int), (0 : Int), (0 : Int), (0 : Int), (0 : Int)), (0 : Int)), (0 : Int), (0 : Int), (0 : Int), (0 : Int), 
  [], ByteArray.mk #[], ByteArray.mk #[])).snd.snd.snd.snd.snd.snd.snd.fst, ((lookL y y_2).getD (((0 : Int), (0 : Int), (0 : Int), (0 : Int), (0 : Int), (0 : Int), []), [], ByteArray.mk #[], [], ((0 : Int), []), ((0 : 
  Int), (0 : Int)), (((0 : Int), (0 : Int), (0 : Int), (0 : Int), (0 : Int), (0 : Int), (0 : Int), (0 : Int), (0 : Int), (0 : Int), (0 : Int), (0 : Int), (0 : Int), (0 : Int), (0 : Int), (0 : Int)), (0 : Int)), (0 : 
  Int), (0 : Int), (0 : Int), (0 : Int), [], ByteArray.mk #[], ByteArray.mk #[])).snd.snd.snd.snd.snd.snd.snd.snd.fst, ((lookL y y_2).getD (((0 : Int), (0 : Int), (0 : Int), (0 : Int), (0 : Int), (0 : Int), []), [], 
  ByteArray.mk #[], [], ((0 : Int), []), ((0 : Int), (0 : Int)), (((0 : Int), (0 : Int), (0 : Int), (0 : Int), (0 : Int), (0 : Int), (0 : Int), (0 : Int), (0 : Int), (0 : Int), (0 : Int), (0 : Int), (0 : Int), (0 : Int), 
  (0 : Int), (0 : Int)), (0 : Int)), (0 : Int), (0 : Int), (0 : Int), (0 : Int), [], ByteArray.mk #[], ByteArray.mk #[])).snd.snd.snd.snd.snd.snd.snd.snd.snd.fst, ((lookL y y_2).getD (((0 : Int), (0 : Int), (0 : Int), (0 
  : Int), (0 : Int), (0 : Int), []), [], ByteArray.mk #[], [], ((0 : Int), []), ((0 : Int), (0 : Int)), (((0 : Int), (0 : Int), (0 : Int), (0 : Int), (0 : Int), (0 : Int), (0 : Int), (0 : Int), (0 : Int), (0 : Int), (0 : 
  Int), (0 : Int), (0 : Int), (0 : Int), (0 : Int), (0 : Int)), (0 : Int)), (0 : Int), (0 : Int), (0 : Int), (0 : Int), [], ByteArray.mk #[], ByteArray.mk #[])).snd.snd.snd.snd.snd.snd.snd.snd.snd.snd.fst, ((lookL y 
  y_2).getD (((0 : Int), (0 : Int), (0 : Int), (0 : Int), (0 : Int), (0 : Int), []), [], ByteArray.mk #[], [], ((0 : Int), []), ((0 : Int), (0 : Int)), (((0 : Int), (0 : Int), (0 : Int), (0 : Int), (0 : Int), (0 : Int), 
  (0 : Int), (0 : Int), (0 : Int), (0 : Int), (0 : Int), (0 : Int), (0 : Int), (0 : Int), (0 : Int), (0 : Int)), (0 : Int)), (0 : Int), (0 : Int), (0 : Int), (0 : Int), [], ByteArray.mk #[], ByteArray.mk 
  #[])).snd.snd.snd.snd.snd.snd.snd.snd.snd.snd.snd.fst, ((lookL y y_2).getD (((0 : Int), (0 : Int), (0 : Int), (0 : Int), (0 : Int), (0 : Int), []), [], ByteArray.mk #[], [], ((0 : Int), []), ((0 : Int), (0 : Int)), 
  (((0 : Int), (0 : Int), (0 : Int), (0 : Int), (0 : Int), (0 : Int), (0 : Int), (0 : Int), (0 : Int), (0 : Int), (0 : Int), (0 : Int), (0 : Int), (0 : Int), (0 : Int), (0 : Int)), (0 : Int)), (0 : Int), (0 : Int), (0 : 
  Int), (0 : Int), [], ByteArray.mk #[], ByteArray.mk #[])).snd.snd.snd.snd.snd.snd.snd.snd.snd.snd.snd.snd.fst, ((lookL y y_2).getD (((0 : Int), (0 : Int), (0 : Int), (0 : Int), (0 : Int), (0 : Int), []), [], 
  ByteArray.mk #[], [], ((0 : Int), []), ((0 : Int), (0 : Int)), (((0 : Int), (0 : Int), (0 : Int), (0 : Int), (0 : Int), (0 : Int), (0 : Int), (0 : Int), (0 : Int), (0 : Int), (0 : Int), (0 : Int), (0 : Int), (0 : Int), 
  (0 : Int), (0 : Int)), (0 : Int)), (0 : Int), (0 : Int), (0 : Int), (0 : Int), [], ByteArray.mk #[], ByteArray.mk #[])).snd.snd.snd.snd.snd.snd.snd.snd.snd.snd.snd.snd.snd)] = List.flatMap (seeAt d) (List.take x' (visL 
  d root l)) ∧ True) ∧ (decide ((↑x_1 : Int) < (↑(sortI x.snd.snd).length : Int)) = false → List.flatMap (seeAt d) (List.take x_1 (visL d root l)) = seeL d root l)) ∧ True) ∧ ∀ (n : Nat) (key : Int), x.snd.fst[n]? = some 
  key → ∀ (y_1 : (Int × Int × Int × Int × Int × Int × List (Int × Int)) × List Int × ByteArray × List (Int × Int × Int × Int × Int × Bool × Bool) × (Int × List (Int × Int)) × (Int × Int) × ((Int × Int × Int × Int × Int × 
  Int × Int × Int × Int × Int × Int × Int × Int × Int × Int × Int) × Int) × Int × Int × Int × Int × List Int × ByteArray × ByteArray), lookL y key = some y_1 → (x.snd.snd.length + [key].length) * (8 : Nat) ≤ 
  (140737488355328 : Nat) ∧ ∃ (x' : Option Int × List Int × List Int), (x'.snd.snd ++ x'.snd.fst).Perm (List.map (fun (p : Int × (Int × Int × Int × Int × Int × Int × List (Int × Int)) × List Int × ByteArray × List (Int × 
  Int × Int × Int × Int × Bool × Bool) × (Int × List (Int × Int)) × (Int × Int) × ((Int × Int × Int × Int × Int × Int × Int × Int × Int × Int × Int × Int × Int × Int × Int × Int) × Int) × Int × Int × Int × Int × List Int 
  × ByteArray × ByteArray) => p.fst) y) ∧ x'.snd.fst.length < x.snd.fst.length ∧ (((True ∧ True) ∧ SV.val (Value.slice none (0 : Nat) (0 : Nat)) = SV.val (Value.slice none (0 : Nat) (0 : Nat)) ∧ True ∧ SV.val 
  (Value.slice none (0 : Nat) (0 : Nat)) = SV.val (Value.slice none (0 : Nat) (0 : Nat)) ∧ (True ∧ True) ∧ True) ∧ ((True ∧ True) ∧ SV.val (Value.slice none (0 : Nat) (0 : Nat)) = SV.val (Value.slice none (0 : Nat) (0 : 
  Nat)) ∧ (True ∧ True) ∧ True) ∧ ((True ∧ True) ∧ SV.val (Value.slice none (0 : Nat) (0 : Nat)) = SV.val (Value.slice none (0 : Nat) (0 : Nat)) ∧ (True ∧ True) ∧ True) ∧ ((True ∧ True) ∧ True ∧ SV.val (Value.slice none 
  (0 : Nat) (0 : Nat)) = SV.val (Value.slice none (0 : Nat) (0 : Nat)) ∧ True ∧ SV.val (Value.slice none (0 : Nat) (0 : Nat)) = SV.val (Value.slice none (0 : Nat) (0 : Nat)) ∧ True ∧ d = d ∧ root = root ∧ (l.fst = l.fst 
  ∧ l.snd = l.snd ∧ True) ∧ True) ∧ True ∧ True) ∧ (True ∧ True ∧ True ∧ True) ∧ (l.fst = l.fst ∧ l.snd = l.snd ∧ True) ∧ True ∧ (y = y ∧ some key = x'.fst ∧ x.snd.fst.eraseIdx n = x'.snd.fst) ∧ (True ∧ True) ∧ (True ∧ 
  True) ∧ True ∧ ((True ∧ True) ∧ SV.val (Value.slice none (0 : Nat) (0 : Nat)) = SV.val (Value.slice none (0 : Nat) (0 : Nat)) ∧ True ∧ SV.val (Value.slice none (0 : Nat) (0 : Nat)) = SV.val (Value.slice none (0 : Nat) 
  (0 : Nat)) ∧ (True ∧ True) ∧ True) ∧ True ∧ x.snd.snd ++ [key] = x'.snd.snd ∧ True) ∧ True) := by kernel_rfl
end Go.Proofs.Ytlnclaggmjhbfaa
namespace Go.Proofs.Ytlnclaggmjhbfaa
open Go.Proofs.Ytlnclaggmjhbfaa.Gx
set_option maxRecDepth 100000
set_option maxHeartbeats 4000000
set_option linter.unusedSimpArgs false
set_option linter.unusedVariables false
theorem see_own : OwnOk PP 19 [.slice objT, i64, lab] 42 objT (fun x => seeB x.1) (fun x => seeL x.1 x.2.1 x.2.2.1) := by
  refine own_Q mixed (fn := Try.f19) (c := c19) rfl rfl [.slice objT, i64, lab] 42 objT rfl ?_
  rintro ⟨d, root, l, ⟨⟩⟩ - hp
  have hp : seeB d = true := hp
  refine ⟨_, env_ok .., rfl, hold (see_vc d root l) ?_⟩
  simp only [true_and, and_true, Prod.eta, eq_self_iff_true, toNat_cast]
  have hs : smallD d = true := by simp only [seeB, Bool.and_eq_true] at hp; exact hp.1
  have hfit : ∀ o ∈ d, fitsO o = true := by simp only [seeB, Bool.and_eq_true, List.all_eq_true] at hp; exact hp.2
  refine ⟨hs, fun y hy => ⟨(none, y.map (·.1), []), List.Perm.refl _, ⟨⟨rfl, rfl⟩, rfl⟩, ?_⟩⟩
  rintro ⟨cur, left, got⟩ hperm
  simp only at hperm ⊢
  have hsm := (small_list hs).1
  have hyl := post_len hy
  have hgl : got.length + left.length = y.length := by
    have := hperm.length_eq
    simpa using this
  refine ⟨fun hl => ⟨?_, fun _ _ => ?_⟩, fun n key hk o ho => ⟨?_, (some key, left.eraseIdx n, got ++ [key]), perm_step hperm hk, ?_, ⟨rfl, rfl⟩, rfl⟩⟩
  · show got.length + 1 ≤ 4611686018427387904
    omega
  · subst hl
    rw [List.append_nil] at hperm
    have hv : visL d root l = sortI got := visL_eq (sort_spec hy hperm)
    have hlen : (sortI got).length = got.length := List.length_mergeSort got
    have hsv : seeL d root l = (sortI got).flatMap (seeAt d) := by rw [seeL, hv]
    rw [hsv, hv]
    intro hA
    refine ⟨0, Nat.zero_le _, ⟨rfl, by simp⟩, ?_⟩
    intro i hi
    refine ⟨fun hlt => ?_, fun hge => ?_⟩
    · have hlt : i < (sortI got).length := by simpa using hlt
      refine ⟨⟨by omega, by omega⟩, hlt, fun id hid => ?_⟩
      have hmem : id ∈ y.map (·.1) := ((List.mergeSort_perm got _).trans hperm).mem_iff.1 (List.mem_of_getElem? hid)
      obtain ⟨o, ho⟩ := Option.isSome_iff_exists.1 (look_key.2 hmem)
      have hfo : first d id = some o := hy.vals (id, o) (look_mem ho)
      have hfo' := hfit o (first_mem hfo).1
      simp only [fitsO, Bool.and_eq_true] at hfo'
      obtain ⟨f1, f2, f3, f4, f5⟩ := hfo'
      rw [ho]
      simp only [Option.getD_some]
      have hat : seeAt d id = [cpO o] := by rw [seeAt, hfo]
      have hfl : ((List.take i (sortI got)).flatMap (seeAt d)).length ≤ i := by
        have h1 : ∀ ks : List Int, (ks.flatMap (seeAt d)).length ≤ ks.length := by
          intro ks
          induction ks with
          | nil => simp
          | cons k ks ih =>
            have : (seeAt d k).length ≤ 1 := by unfold seeAt; split <;> simp
            simp only [List.flatMap_cons, List.length_append, List.length_cons]; omega
        have h2 := h1 (List.take i (sortI got))
        have h3 := List.length_take_le i (sortI got)
        omega
      refine ⟨f2, f4, f1, f3, f5, ?_, i + 1, by omega, by omega, wrap_succ hlt hA, ?_⟩
      · simp only [List.length_cons, List.length_nil]
        omega
      · rw [take_snoc hid, List.flatMap_append, List.flatMap_singleton, hat]
        rfl
    · have hge : ¬ i < (sortI got).length := by simpa using hge
      have hie : i = (sortI got).length := by omega
      rw [hie, List.take_length]
  · simp only [List.length_cons, List.length_nil]
    have : left.length = y.length - got.length := by omega
    omega
  · have hn := (List.getElem?_eq_some_iff.1 hk).1
    show (left.eraseIdx n).length < left.length
    rw [List.length_eraseIdx_of_lt hn]; omega
noncomputable def p19 : Pv PP := ⟨19, _, ⟨rfl, pspec_of_own see_own⟩⟩
end Go.Proofs.Ytlnclaggmjhbfaa
namespace Go.Proofs.Ytlnclaggmjhbfaa
open Go.Proofs.Ytlnclaggmjhbfaa.Gx
set_option linter.unusedSimpArgs false
set_option linter.unusedVariables false
noncomputable def c57 : Code := Try.f57.body.getD .skip
noncomputable def c58 : Code := Try.f58.body.getD .skip
noncomputable def c59 : Code := Try.f59.body.getD .skip
noncomputable def c41 : Code := Try.f41.body.getD .skip
noncomputable def c40 : Code := Try.f40.body.getD .skip
noncomputable def c56 : Code := Try.f56.body.getD .skip
noncomputable def c44 : Code := Try.f44.body.getD .skip
noncomputable def c25 : Code := Try.f25.body.getD .skip
noncomputable def c43 : Code := Try.f43.body.getD .skip
noncomputable def c26 : Code := Try.f26.body.getD .skip
noncomputable def c22 : Code := Try.f22.body.getD .skip
noncomputable def c7 : Code := Try.f7.body.getD .skip
abbrev Info := infoT.den
abbrev Mp := mapT.den
abbrev StT := stateT.den
open Classical in
noncomputable def sameX {α : Type} (a b : α) : Bool := decide (a = b)
theorem sameX_iff {α : Type} (a b : α) : sameX a b = true ↔ a = b := by simp [sameX]
theorem sameX_no {α : Type} (a b : α) : sameX a b = false ↔ a ≠ b := by simp [sameX]
end Go.Proofs.Ytlnclaggmjhbfaa
namespace Go.Proofs.Ytlnclaggmjhbfaa
open Go.Proofs.Ytlnclaggmjhbfaa.Gx
set_option maxRecDepth 100000
set_option linter.unusedVariables false
set_option maxHeartbeats 0
def eqLoop {α : Type} (k s : Nat) (a b : List α) : List (Nat × (St → Option LoopSpec)) :=
  [(k, fun _ => some { α := Nat, inv := fun i => i ≤ a.length ∧ a.take i = b.take i, ov := fun i => [(s, .int .i64 (i : Int))], rov := fun _ => [], meas := fun i => a.length - i })]
theorem eqE_vc (a b : List (Int × Int)) : fvc PP (eL (eqLoop 4 13 a b)) Try.f57 c57 (ofArgs [.slice ent, .slice ent] (a, b, ())) St0 (gives [.bool] (sameX a b, ())) = (
  a.length ≤ maxLen → b.length ≤ maxLen → (((↑a.length : Int) != (↑b.length : Int)) = true → false = sameX a b ∧ True) ∧ (((↑a.length : Int) != (↑b.length : Int)) = false → a.length ≤ maxLen → ∃ (x0 : Nat), (x0 ≤ 
  a.length ∧ List.take x0 a = List.take x0 b) ∧ ((True ∧ True) ∧ ((0 : Int) = (↑x0 : Int) ∧ (↑a.length : Int) = (↑a.length : Int) ∧ false = false ∧ a = a ∧ b = b ∧ True) ∧ True) ∧ ∀ (x : Nat), x ≤ a.length ∧ List.take x 
  a = List.take x b → (decide ((↑x : Int) < (↑a.length : Int)) = true → ((0 : Int) ≤ (↑x : Int) ∧ (↑x : Int) < (↑a.length : Int)) ∧ ∀ (y : Int × Int), a[(↑x : Int).toNat]? = some y → ((0 : Int) ≤ (↑x : Int) ∧ (↑x : Int) 
  < (↑b.length : Int)) ∧ ∀ (y_1 : Int × Int), b[(↑x : Int).toNat]? = some y_1 → ((!(y.fst == y_1.fst && (y.snd == y_1.snd && true))) = true → false = sameX a b ∧ True) ∧ ((!(y.fst == y_1.fst && (y.snd == y_1.snd && 
  true))) = false → ∃ (x' : Nat), (x' ≤ a.length ∧ List.take x' a = List.take x' b) ∧ a.length - x' < a.length - x ∧ (True ∧ True) ∧ (IntKind.i64.wrap ((↑x : Int) + (1 : Int)) = (↑x' : Int) ∧ (↑a.length : Int) = 
  (↑a.length : Int) ∧ false = false ∧ a = a ∧ b = b ∧ True) ∧ True)) ∧ (decide ((↑x : Int) < (↑a.length : Int)) = false → true = sameX a b ∧ True))) := by kernel_rfl
theorem eqI_vc (a b : List Int) : fvc PP (eL (eqLoop 4 13 a b)) Try.f58 c58 (ofArgs [ints, ints] (a, b, ())) St0 (gives [.bool] (sameX a b, ())) = (
  a.length ≤ maxLen → b.length ≤ maxLen → (((↑a.length : Int) != (↑b.length : Int)) = true → false = sameX a b ∧ True) ∧ (((↑a.length : Int) != (↑b.length : Int)) = false → a.length ≤ maxLen → ∃ (x0 : Nat), (x0 ≤ 
  a.length ∧ List.take x0 a = List.take x0 b) ∧ ((True ∧ True) ∧ ((0 : Int) = (↑x0 : Int) ∧ (↑a.length : Int) = (↑a.length : Int) ∧ false = false ∧ a = a ∧ b = b ∧ True) ∧ True) ∧ ∀ (x : Nat), x ≤ a.length ∧ List.take x 
  a = List.take x b → (decide ((↑x : Int) < (↑a.length : Int)) = true → ((0 : Int) ≤ (↑x : Int) ∧ (↑x : Int) < (↑a.length : Int)) ∧ ∀ (y : Int), a[(↑x : Int).toNat]? = some y → ((0 : Int) ≤ (↑x : Int) ∧ (↑x : Int) < 
  (↑b.length : Int)) ∧ ∀ (y_1 : Int), b[(↑x : Int).toNat]? = some y_1 → ((y != y_1) = true → false = sameX a b ∧ True) ∧ ((y != y_1) = false → ∃ (x' : Nat), (x' ≤ a.length ∧ List.take x' a = List.take x' b) ∧ a.length - 
  x' < a.length - x ∧ (True ∧ True) ∧ (IntKind.i64.wrap ((↑x : Int) + (1 : Int)) = (↑x' : Int) ∧ (↑a.length : Int) = (↑a.length : Int) ∧ false = false ∧ a = a ∧ b = b ∧ True) ∧ True)) ∧ (decide ((↑x : Int) < (↑a.length : 
  Int)) = false → true = sameX a b ∧ True))) := by kernel_rfl
theorem eqM_vc (a b : List Mp) : fvc PP (eL (eqLoop 4 13 a b)) Try.f59 c59 (ofArgs [.slice mapT, .slice mapT] (a, b, ())) St0 (gives [.bool] (sameX a b, ())) = (
  a.length ≤ maxLen → b.length ≤ maxLen → (((↑a.length : Int) != (↑b.length : Int)) = true → false = sameX a b ∧ True) ∧ (((↑a.length : Int) != (↑b.length : Int)) = false → a.length ≤ maxLen → ∃ (x0 : Nat), (x0 ≤ 
  a.length ∧ List.take x0 a = List.take x0 b) ∧ ((True ∧ True) ∧ ((0 : Int) = (↑x0 : Int) ∧ (↑a.length : Int) = (↑a.length : Int) ∧ false = false ∧ a = a ∧ b = b ∧ True) ∧ True) ∧ ∀ (x : Nat), x ≤ a.length ∧ List.take x 
  a = List.take x b → (decide ((↑x : Int) < (↑a.length : Int)) = true → ((0 : Int) ≤ (↑x : Int) ∧ (↑x : Int) < (↑a.length : Int)) ∧ ∀ (y : Int × Int × Int × Int × Int × Bool × Bool), a[(↑x : Int).toNat]? = some y → ((0 : 
  Int) ≤ (↑x : Int) ∧ (↑x : Int) < (↑b.length : Int)) ∧ ∀ (y_1 : Int × Int × Int × Int × Int × Bool × Bool), b[(↑x : Int).toNat]? = some y_1 → ((!(y.fst == y_1.fst && (y.snd.fst == y_1.snd.fst && (y.snd.snd.fst == 
  y_1.snd.snd.fst && (y.snd.snd.snd.fst == y_1.snd.snd.snd.fst && (y.snd.snd.snd.snd.fst == y_1.snd.snd.snd.snd.fst && (y.snd.snd.snd.snd.snd.fst == y_1.snd.snd.snd.snd.snd.fst && (y.snd.snd.snd.snd.snd.snd == 
  y_1.snd.snd.snd.snd.snd.snd && true)))))))) = true → false = sameX a b ∧ True) ∧ ((!(y.fst == y_1.fst && (y.snd.fst == y_1.snd.fst && (y.snd.snd.fst == y_1.snd.snd.fst && (y.snd.snd.snd.fst == y_1.snd.snd.snd.fst && 
  (y.snd.snd.snd.snd.fst == y_1.snd.snd.snd.snd.fst && (y.snd.snd.snd.snd.snd.fst == y_1.snd.snd.snd.snd.snd.fst && (y.snd.snd.snd.snd.snd.snd == y_1.snd.snd.snd.snd.snd.snd && true)))))))) = false → ∃ (x' : Nat), (x' ≤ 
  a.length ∧ List.take x' a = List.take x' b) ∧ a.length - x' < a.length - x ∧ (True ∧ True) ∧ (IntKind.i64.wrap ((↑x : Int) + (1 : Int)) = (↑x' : Int) ∧ (↑a.length : Int) = (↑a.length : Int) ∧ false = false ∧ a = a ∧ b 
  = b ∧ True) ∧ True)) ∧ (decide ((↑x : Int) < (↑a.length : Int)) = false → true = sameX a b ∧ True))) := by kernel_rfl
theorem eqMN_vc (a b : List Mp) : fvc PP (eL (eqLoop 4 13 a b)) Try.f41 c41 (ofArgs [.slice mapT, .slice mapT] (a, b, ())) St0 (gives [.bool] (sameX a b, ())) = (
  a.length ≤ maxLen → b.length ≤ maxLen → (((↑a.length : Int) != (↑b.length : Int)) = true → false = sameX a b ∧ True) ∧ (((↑a.length : Int) != (↑b.length : Int)) = false → a.length ≤ maxLen → ∃ (x0 : Nat), (x0 ≤ 
  a.length ∧ List.take x0 a = List.take x0 b) ∧ ((True ∧ True) ∧ ((0 : Int) = (↑x0 : Int) ∧ (↑a.length : Int) = (↑a.length : Int) ∧ false = false ∧ a = a ∧ b = b ∧ True) ∧ True) ∧ ∀ (x : Nat), x ≤ a.length ∧ List.take x 
  a = List.take x b → (decide ((↑x : Int) < (↑a.length : Int)) = true → ((0 : Int) ≤ (↑x : Int) ∧ (↑x : Int) < (↑a.length : Int)) ∧ ∀ (y : Int × Int × Int × Int × Int × Bool × Bool), a[(↑x : Int).toNat]? = some y → ((0 : 
  Int) ≤ (↑x : Int) ∧ (↑x : Int) < (↑b.length : Int)) ∧ ∀ (y_1 : Int × Int × Int × Int × Int × Bool × Bool), b[(↑x : Int).toNat]? = some y_1 → ((!(y.fst == y_1.fst && (y.snd.fst == y_1.snd.fst && (y.snd.snd.fst == 
  y_1.snd.snd.fst && (y.snd.snd.snd.fst == y_1.snd.snd.snd.fst && (y.snd.snd.snd.snd.fst == y_1.snd.snd.snd.snd.fst && (y.snd.snd.snd.snd.snd.fst == y_1.snd.snd.snd.snd.snd.fst && (y.snd.snd.snd.snd.snd.snd == 
  y_1.snd.snd.snd.snd.snd.snd && true)))))))) = true → false = sameX a b ∧ True) ∧ ((!(y.fst == y_1.fst && (y.snd.fst == y_1.snd.fst && (y.snd.snd.fst == y_1.snd.snd.fst && (y.snd.snd.snd.fst == y_1.snd.snd.snd.fst && 
  (y.snd.snd.snd.snd.fst == y_1.snd.snd.snd.snd.fst && (y.snd.snd.snd.snd.snd.fst == y_1.snd.snd.snd.snd.snd.fst && (y.snd.snd.snd.snd.snd.snd == y_1.snd.snd.snd.snd.snd.snd && true)))))))) = false → ∃ (x' : Nat), (x' ≤ 
  a.length ∧ List.take x' a = List.take x' b) ∧ a.length - x' < a.length - x ∧ (True ∧ True) ∧ (IntKind.i64.wrap ((↑x : Int) + (1 : Int)) = (↑x' : Int) ∧ (↑a.length : Int) = (↑a.length : Int) ∧ false = false ∧ a = a ∧ b 
  = b ∧ True) ∧ True)) ∧ (decide ((↑x : Int) < (↑a.length : Int)) = false → true = sameX a b ∧ True))) := by kernel_rfl
theorem eqLN_vc (a b : Lab) : fvc PP (eL (eqLoop 4 23 a.2 b.2)) Try.f42 c42 (ofArgs [lab, lab] (a, b, ())) St0 (gives [.bool] (sameX a b, ())) = (
  ∃ (v : Bool), (((a.fst != b.fst) = false → a.snd.length ≤ maxLen → b.snd.length ≤ maxLen → ((↑a.snd.length : Int) != (↑b.snd.length : Int)) = v) ∧ ((a.fst != b.fst) = !false → true = v)) ∧ (v = true → false = sameX a b 
  ∧ True) ∧ (v = false → a.snd.length ≤ maxLen → ∃ (x0 : Nat), (x0 ≤ a.snd.length ∧ List.take x0 a.snd = List.take x0 b.snd) ∧ ((True ∧ True) ∧ ((0 : Int) = (↑x0 : Int) ∧ (↑a.snd.length : Int) = (↑a.snd.length : Int) ∧ 
  false = false ∧ True ∧ True ∧ (a.fst = a.fst ∧ a.snd = a.snd ∧ True) ∧ (b.fst = b.fst ∧ b.snd = b.snd ∧ True) ∧ True) ∧ (a.fst = a.fst ∧ a.snd = a.snd ∧ True) ∧ (b.fst = b.fst ∧ b.snd = b.snd ∧ True) ∧ True) ∧ ∀ (x : 
  Nat), x ≤ a.snd.length ∧ List.take x a.snd = List.take x b.snd → (decide ((↑x : Int) < (↑a.snd.length : Int)) = true → ((0 : Int) ≤ (↑x : Int) ∧ (↑x : Int) < (↑a.snd.length : Int)) ∧ ∀ (y : Int × Int), a.snd[(↑x : 
  Int).toNat]? = some y → ((0 : Int) ≤ (↑x : Int) ∧ (↑x : Int) < (↑b.snd.length : Int)) ∧ ∀ (y_1 : Int × Int), b.snd[(↑x : Int).toNat]? = some y_1 → ((!(y.fst == y_1.fst && (y.snd == y_1.snd && true))) = true → false = 
  sameX a b ∧ True) ∧ ((!(y.fst == y_1.fst && (y.snd == y_1.snd && true))) = false → ∃ (x' : Nat), (x' ≤ a.snd.length ∧ List.take x' a.snd = List.take x' b.snd) ∧ a.snd.length - x' < a.snd.length - x ∧ (True ∧ True) ∧ 
  (IntKind.i64.wrap ((↑x : Int) + (1 : Int)) = (↑x' : Int) ∧ (↑a.snd.length : Int) = (↑a.snd.length : Int) ∧ false = false ∧ True ∧ True ∧ (a.fst = a.fst ∧ a.snd = a.snd ∧ True) ∧ (b.fst = b.fst ∧ b.snd = b.snd ∧ True) ∧ 
  True) ∧ (a.fst = a.fst ∧ a.snd = a.snd ∧ True) ∧ (b.fst = b.fst ∧ b.snd = b.snd ∧ True) ∧ True)) ∧ (decide ((↑x : Int) < (↑a.snd.length : Int)) = false → true = sameX a b ∧ True))) := by kernel_rfl
end Go.Proofs.Ytlnclaggmjhbfaa
namespace Go.Proofs.Ytlnclaggmjhbfaa
open Go.Proofs.Ytlnclaggmjhbfaa.Gx
set_option maxRecDepth 100000
set_option maxHeartbeats 4000000
set_option linter.unusedSimpArgs false
set_option linter.unusedVariables false
theorem eq_law {α : Type} (a b : List α) (ne : α → α → Bool) (hne : ∀ x y, ne x y = true ↔ x ≠ y) :
    a.length ≤ maxLen → b.length ≤ maxLen → (((a.length : Int) != (b.length : Int)) = true → false = sameX a b) ∧ (((a.length : Int) != (b.length : Int)) = false → a.length ≤ maxLen →
      ∃ (x0 : Nat), (x0 ≤ a.length ∧ List.take x0 a = List.take x0 b) ∧ (0 : Int) = (x0 : Int) ∧
        ∀ (x : Nat), x ≤ a.length ∧ List.take x a = List.take x b →
          (decide ((x : Int) < (a.length : Int)) = true → ((0 : Int) ≤ (x : Int) ∧ (x : Int) < (a.length : Int)) ∧
            ∀ (y : α), a[x]? = some y → ((0 : Int) ≤ (x : Int) ∧ (x : Int) < (b.length : Int)) ∧ ∀ (y_1 : α), b[x]? = some y_1 →
              (ne y y_1 = true → false = sameX a b) ∧ (ne y y_1 = false → ∃ (x' : Nat), (x' ≤ a.length ∧ List.take x' a = List.take x' b) ∧ a.length - x' < a.length - x ∧ IntKind.i64.wrap ((x : Int) + (1 : Int)) = (x' : Int))) ∧
          (decide ((x : Int) < (a.length : Int)) = false → true = sameX a b)) := by
  intro hA hB
  refine ⟨fun h => ?_, fun h _ => ⟨0, ⟨Nat.zero_le _, rfl⟩, rfl, ?_⟩⟩
  · have h : (a.length : Int) ≠ b.length := by simpa using h
    exact ((sameX_no a b).2 (fun e => h (by rw [e]))).symm
  have hl : a.length = b.length := by simp at h; omega
  rintro i ⟨hi, hinv⟩
  refine ⟨fun hlt => ?_, fun hge => ?_⟩
  · have hlt : i < a.length := by simp at hlt; omega
    refine ⟨⟨by omega, by omega⟩, fun y hy => ⟨⟨by omega, by omega⟩, fun z hz => ⟨fun h1 => ?_, fun h1 => ?_⟩⟩⟩
    · refine ((sameX_no a b).2 (fun e => ?_)).symm
      subst e; rw [hy] at hz; cases hz
      exact (hne y y).1 h1 rfl
    · have : y = z := Classical.byContradiction fun hh => by rw [(hne y z).2 hh] at h1; cases h1
      subst this
      exact ⟨i + 1, ⟨by omega, by rw [take_snoc hy, take_snoc hz, hinv]⟩, by omega, wrap_succ hlt hA⟩
  · have hie : i = a.length := by simp at hge; omega
    subst hie
    rw [List.take_length, hl, List.take_length] at hinv
    exact ((sameX_iff a b).2 hinv).symm
theorem neE (x y : Int × Int) : (!(x.1 == y.1 && (x.2 == y.2 && true))) = true ↔ x ≠ y := by
  obtain ⟨a, b⟩ := x; obtain ⟨c, d⟩ := y
  simp only [Bool.and_true, Bool.not_eq_true', Bool.and_eq_false_iff, beq_eq_false_iff_ne, ne_eq, Prod.mk.injEq, Classical.not_and_iff_not_or_not]
theorem neM (x y : Mp) : (!(x.1 == y.1 && (x.2.1 == y.2.1 && (x.2.2.1 == y.2.2.1 && (x.2.2.2.1 == y.2.2.2.1 && (x.2.2.2.2.1 == y.2.2.2.2.1 && (x.2.2.2.2.2.1 == y.2.2.2.2.2.1 && (x.2.2.2.2.2.2 == y.2.2.2.2.2.2 && true)))))))) = true ↔ x ≠ y := by
  obtain ⟨a, b, c, d, e, f, g⟩ := x; obtain ⟨a', b', c', d', e', f', g'⟩ := y
  simp only [Bool.and_true, Bool.not_eq_true', Bool.and_eq_false_iff, beq_eq_false_iff_ne, ne_eq, Prod.mk.injEq, Classical.not_and_iff_not_or_not]
theorem eqE_ok : PSpecOk PP 57 (Q [.slice ent, .slice ent] [.bool] (fun _ => true) (fun x => (sameX x.1 x.2.1, ()))) := by
  refine pspec_Q mixed (fn := Try.f57) (c := c57) rfl rfl _ _ rfl ?_
  rintro ⟨a, b, ⟨⟩⟩ - -
  refine ⟨eL (eqLoop 4 13 a b), env_ok .., rfl, hold (eqE_vc a b) ?_⟩
  simp only [true_and, and_true, Prod.eta, eq_self_iff_true, toNat_cast]
  exact eq_law a b (fun x y => !(x.1 == y.1 && (x.2 == y.2 && true))) neE
theorem eqI_ok : PSpecOk PP 58 (Q [ints, ints] [.bool] (fun _ => true) (fun x => (sameX x.1 x.2.1, ()))) := by
  refine pspec_Q mixed (fn := Try.f58) (c := c58) rfl rfl _ _ rfl ?_
  rintro ⟨a, b, ⟨⟩⟩ - -
  refine ⟨eL (eqLoop 4 13 a b), env_ok .., rfl, hold (eqI_vc a b) ?_⟩
  simp only [true_and, and_true, Prod.eta, eq_self_iff_true, toNat_cast]
  exact eq_law (α := Int) a b (fun x y => x != y) (fun x y => by simp)
theorem eqM_ok : PSpecOk PP 59 (Q [.slice mapT, .slice mapT] [.bool] (fun _ => true) (fun x => (sameX x.1 x.2.1, ()))) := by
  refine pspec_Q mixed (fn := Try.f59) (c := c59) rfl rfl _ _ rfl ?_
  rintro ⟨a, b, ⟨⟩⟩ - -
  refine ⟨eL (eqLoop 4 13 a b), env_ok .., rfl, hold (eqM_vc a b) ?_⟩
  simp only [true_and, and_true, Prod.eta, eq_self_iff_true, toNat_cast]
  exact eq_law (α := Mp) a b _ neM
theorem eqMN_ok : PSpecOk PP 41 (Q [.slice mapT, .slice mapT] [.bool] (fun _ => true) (fun x => (sameX x.1 x.2.1, ()))) := by
  refine pspec_Q mixed (fn := Try.f41) (c := c41) rfl rfl _ _ rfl ?_
  rintro ⟨a, b, ⟨⟩⟩ - -
  refine ⟨eL (eqLoop 4 13 a b), env_ok .., rfl, hold (eqMN_vc a b) ?_⟩
  simp only [true_and, and_true, Prod.eta, eq_self_iff_true, toNat_cast]
  exact eq_law (α := Mp) a b _ neM
theorem eqLN_ok : PSpecOk PP 42 (Q [lab, lab] [.bool] (fun _ => true) (fun x => (sameX x.1 x.2.1, ()))) := by
  refine pspec_Q mixed (fn := Try.f42) (c := c42) rfl rfl _ _ rfl ?_
  rintro ⟨a, b, ⟨⟩⟩ ⟨⟨-, ⟨hA, -⟩⟩, ⟨-, ⟨hB, -⟩⟩, -⟩ -
  refine ⟨eL (eqLoop 4 23 a.2 b.2), env_ok .., rfl, hold (eqLN_vc a b) ?_⟩
  simp only [true_and, and_true, Prod.eta, eq_self_iff_true, toNat_cast]
  have hl : ∀ h : a.1 = b.1, sameX a b = sameX a.2 b.2 := fun h => by
    obtain ⟨x, y⟩ := a; obtain ⟨x', y'⟩ := b
    simp only at h; subst h
    simp only [sameX, Prod.mk.injEq, true_and]
    exact decide_eq_decide.2 Iff.rfl
  refine ⟨(a.1 != b.1) || ((a.2.length : Int) != (b.2.length : Int)), ⟨fun h _ _ => by rw [h]; rfl, fun h => by rw [h]; rfl⟩, fun hv => ?_, fun hv => ?_⟩
  · refine ((sameX_no a b).2 (fun e => ?_)).symm
    subst e
    simp at hv
  · have h1 : a.1 = b.1 := by simp at hv; exact hv.1
    have h2 : ((a.2.length : Int) != (b.2.length : Int)) = false := by simp at hv ⊢; exact hv.2
    rw [hl h1]
    exact (eq_law a.2 b.2 (fun x y => !(x.1 == y.1 && (x.2 == y.2 && true))) neE hA hB).2 h2
noncomputable def p57 : Pv PP := ⟨57, _, ⟨rfl, eqE_ok⟩⟩
noncomputable def p58 : Pv PP := ⟨58, _, ⟨rfl, eqI_ok⟩⟩
noncomputable def p59 : Pv PP := ⟨59, _, ⟨rfl, eqM_ok⟩⟩
noncomputable def p41 : Pv PP := ⟨41, _, ⟨rfl, eqMN_ok⟩⟩
noncomputable def p42 : Pv PP := ⟨42, _, ⟨rfl, eqLN_ok⟩⟩
end Go.Proofs.Ytlnclaggmjhbfaa
namespace Go.Proofs.Ytlnclaggmjhbfaa
open Go.Proofs.Ytlnclaggmjhbfaa.Gx
set_option maxRecDepth 100000
set_option linter.unusedVariables false
set_option maxHeartbeats 0
theorem labels_vc (a b : Lab) : fvc PP (eP [p57]) Try.f56 c56 (ofArgs [lab, lab] (a, b, ())) St0 (gives [.bool] (sameX a b, ())) = (
  ((a.fst == b.fst) = true → true = true ∧ sameX a.snd b.snd = sameX a b ∧ True) ∧ ((a.fst == b.fst) = !true → false = sameX a b ∧ True)) := by kernel_rfl
theorem info_vc (a b : Info) : fvc PP (eP [p42]) Try.f40 c40 (ofArgs [infoT, infoT] (a, b, ())) St0 (gives [.bool] (sameX a b, ())) = (
  ∃ (v : Bool), (((a.fst == b.fst) = true → ((a.snd.fst == b.snd.fst) = true → ((a.snd.snd.fst == b.snd.snd.fst) = true → ((a.snd.snd.snd.fst == b.snd.snd.snd.fst) = true → ((a.snd.snd.snd.snd.fst == 
  b.snd.snd.snd.snd.fst) = true → true = true ∧ sameX (a.snd.snd.snd.snd.snd.fst, a.snd.snd.snd.snd.snd.snd) (b.snd.snd.snd.snd.snd.fst, b.snd.snd.snd.snd.snd.snd) = v ∧ True) ∧ ((a.snd.snd.snd.snd.fst == 
  b.snd.snd.snd.snd.fst) = !true → false = v ∧ True)) ∧ ((a.snd.snd.snd.fst == b.snd.snd.snd.fst) = !true → false = v ∧ True)) ∧ ((a.snd.snd.fst == b.snd.snd.fst) = !true → false = v ∧ True)) ∧ ((a.snd.fst == b.snd.fst) 
  = !true → false = v ∧ True)) ∧ ((a.fst == b.fst) = !true → false = v ∧ True)) ∧ v = sameX a b ∧ True) := by kernel_rfl
end Go.Proofs.Ytlnclaggmjhbfaa
namespace Go.Proofs.Ytlnclaggmjhbfaa
open Go.Proofs.Ytlnclaggmjhbfaa.Gx
set_option maxRecDepth 100000
set_option maxHeartbeats 4000000
set_option linter.unusedSimpArgs false
set_option linter.unusedVariables false
theorem sameX_pair {α β : Type} (a b : α × β) : sameX a b = (sameX a.1 b.1 && sameX a.2 b.2) := by
  obtain ⟨x, y⟩ := a; obtain ⟨x', y'⟩ := b
  rw [Bool.eq_iff_iff, Bool.and_eq_true, sameX_iff, sameX_iff, sameX_iff, Prod.mk.injEq]
theorem sameX_int (a b : Int) : sameX a b = (a == b) := by
  rw [Bool.eq_iff_iff, sameX_iff]; simp
theorem sameX_bool (a b : Bool) : sameX a b = (a == b) := by
  rw [Bool.eq_iff_iff, sameX_iff]; simp
theorem sameX_str (a b : ByteArray) : sameX a b = decide (a = b) := by
  rw [Bool.eq_iff_iff, sameX_iff]; simp
theorem labels_ok : PSpecOk PP 56 (Q [lab, lab] [.bool] (fun _ => true) (fun x => (sameX x.1 x.2.1, ()))) := by
  refine pspec_Q mixed (fn := Try.f56) (c := c56) rfl rfl _ _ rfl ?_
  rintro ⟨a, b, ⟨⟩⟩ - -
  refine ⟨eP [p57], env_ok .., rfl, hold (labels_vc a b) ?_⟩
  simp only [true_and, and_true, Prod.eta, eq_self_iff_true, toNat_cast]
  have e : sameX a b = ((a.1 == b.1) && sameX a.2 b.2) := by rw [sameX_pair, ← sameX_int]
  exact ⟨fun h => by rw [e, h]; rfl, fun h => by rw [e, h]; rfl⟩
theorem info_ok : PSpecOk PP 40 (Q [infoT, infoT] [.bool] (fun _ => true) (fun x => (sameX x.1 x.2.1, ()))) := by
  refine pspec_Q mixed (fn := Try.f40) (c := c40) rfl rfl _ _ rfl ?_
  rintro ⟨a, b, ⟨⟩⟩ - -
  refine ⟨eP [p42], env_ok .., rfl, hold (info_vc a b) ?_⟩
  simp only [true_and, and_true, Prod.eta, eq_self_iff_true, toNat_cast]
  have e : sameX a b = ((a.1 == b.1) && ((a.2.1 == b.2.1) && ((a.2.2.1 == b.2.2.1) && ((a.2.2.2.1 == b.2.2.2.1) && ((a.2.2.2.2.1 == b.2.2.2.2.1) && sameX a.2.2.2.2.2 b.2.2.2.2.2))))) := by
    rw [sameX_pair, sameX_pair a.2, sameX_pair a.2.2, sameX_pair a.2.2.2, sameX_pair a.2.2.2.2, ← sameX_int, ← sameX_int, ← sameX_int, ← sameX_int, ← sameX_int]
  exact ⟨sameX a b, ⟨fun h1 => ⟨fun h2 => ⟨fun h3 => ⟨fun h4 => ⟨fun h5 => by rw [e, h1, h2, h3, h4, h5]; rfl, fun h => by rw [e, h1, h2, h3, h4, h]; rfl⟩, fun h => by rw [e, h1, h2, h3, h]; rfl⟩, fun h => by rw [e, h1, h2, h]; rfl⟩, fun h => by rw [e, h1, h]; rfl⟩, fun h => by rw [e, h]; rfl⟩, rfl⟩
noncomputable def p56 : Pv PP := ⟨56, _, ⟨rfl, labels_ok⟩⟩
noncomputable def p40 : Pv PP := ⟨40, _, ⟨rfl, info_ok⟩⟩
end Go.Proofs.Ytlnclaggmjhbfaa
namespace Go.Proofs.Ytlnclaggmjhbfaa
open Go.Proofs.Ytlnclaggmjhbfaa.Gx
set_option maxRecDepth 100000
set_option linter.unusedVariables false
set_option maxHeartbeats 0
theorem alike_vc (a b : Obj) : fvc PP (eP [p56, p58, p59]) Try.f44 c44 (ofArgs [objT, objT] (a, b, ())) St0 (gives [.bool] (sameX a b, ())) = (
  ∃ (v : Bool), (((a.fst.fst == b.fst.fst) = true → ((a.fst.snd.fst == b.fst.snd.fst) = true → ((a.fst.snd.snd.fst == b.fst.snd.snd.fst) = true → ((a.fst.snd.snd.snd.fst == b.fst.snd.snd.snd.fst) = true → 
  ((a.fst.snd.snd.snd.snd.fst == b.fst.snd.snd.snd.snd.fst) = true → true = true ∧ sameX (a.fst.snd.snd.snd.snd.snd.fst, a.fst.snd.snd.snd.snd.snd.snd) (b.fst.snd.snd.snd.snd.snd.fst, b.fst.snd.snd.snd.snd.snd.snd) = v ∧ 
  True) ∧ ((a.fst.snd.snd.snd.snd.fst == b.fst.snd.snd.snd.snd.fst) = !true → false = v ∧ True)) ∧ ((a.fst.snd.snd.snd.fst == b.fst.snd.snd.snd.fst) = !true → false = v ∧ True)) ∧ ((a.fst.snd.snd.fst == 
  b.fst.snd.snd.fst) = !true → false = v ∧ True)) ∧ ((a.fst.snd.fst == b.fst.snd.fst) = !true → false = v ∧ True)) ∧ ((a.fst.fst == b.fst.fst) = !true → false = v ∧ True)) ∧ true = true ∧ (sameX a.snd.fst b.snd.fst = 
  true → true = true ∧ (sameX a.snd.snd.snd.fst b.snd.snd.snd.fst = true → true = true ∧ ∃ (v_1 : Bool), (((a.snd.snd.fst.toList == b.snd.snd.fst.toList) = true → true = true ∧ (sameX (a.snd.snd.snd.snd.fst.fst, 
  a.snd.snd.snd.snd.fst.snd) (b.snd.snd.snd.snd.fst.fst, b.snd.snd.snd.snd.fst.snd) = true → ((a.snd.snd.snd.snd.snd.fst.fst == b.snd.snd.snd.snd.snd.fst.fst && (a.snd.snd.snd.snd.snd.fst.snd == 
  b.snd.snd.snd.snd.snd.fst.snd && true)) = true → ((a.snd.snd.snd.snd.snd.snd.fst.fst.fst == b.snd.snd.snd.snd.snd.snd.fst.fst.fst && (a.snd.snd.snd.snd.snd.snd.fst.fst.snd.fst == 
  b.snd.snd.snd.snd.snd.snd.fst.fst.snd.fst && (a.snd.snd.snd.snd.snd.snd.fst.fst.snd.snd.fst == b.snd.snd.snd.snd.snd.snd.fst.fst.snd.snd.fst && (a.snd.snd.snd.snd.snd.snd.fst.fst.snd.snd.snd.fst == 
  b.snd.snd.snd.snd.snd.snd.fst.fst.snd.snd.snd.fst && (a.snd.snd.snd.snd.snd.snd.fst.fst.snd.snd.snd.snd.fst == b.snd.snd.snd.snd.snd.snd.fst.fst.snd.snd.snd.snd.fst && 
  (a.snd.snd.snd.snd.snd.snd.fst.fst.snd.snd.snd.snd.snd.fst == b.snd.snd.snd.snd.snd.snd.fst.fst.snd.snd.snd.snd.snd.fst && (a.snd.snd.snd.snd.snd.snd.fst.fst.snd.snd.snd.snd.snd.snd.fst == 
  b.snd.snd.snd.snd.snd.snd.fst.fst.snd.snd.snd.snd.snd.snd.fst && (a.snd.snd.snd.snd.snd.snd.fst.fst.snd.snd.snd.snd.snd.snd.snd.fst == b.snd.snd.snd.snd.snd.snd.fst.fst.snd.snd.snd.snd.snd.snd.snd.fst && 
  (a.snd.snd.snd.snd.snd.snd.fst.fst.snd.snd.snd.snd.snd.snd.snd.snd.fst == b.snd.snd.snd.snd.snd.snd.fst.fst.snd.snd.snd.snd.snd.snd.snd.snd.fst && 
  (a.snd.snd.snd.snd.snd.snd.fst.fst.snd.snd.snd.snd.snd.snd.snd.snd.snd.fst == b.snd.snd.snd.snd.snd.snd.fst.fst.snd.snd.snd.snd.snd.snd.snd.snd.snd.fst && 
  (a.snd.snd.snd.snd.snd.snd.fst.fst.snd.snd.snd.snd.snd.snd.snd.snd.snd.snd.fst == b.snd.snd.snd.snd.snd.snd.fst.fst.snd.snd.snd.snd.snd.snd.snd.snd.snd.snd.fst && 
  (a.snd.snd.snd.snd.snd.snd.fst.fst.snd.snd.snd.snd.snd.snd.snd.snd.snd.snd.snd.fst == b.snd.snd.snd.snd.snd.snd.fst.fst.snd.snd.snd.snd.snd.snd.snd.snd.snd.snd.snd.fst && 
  (a.snd.snd.snd.snd.snd.snd.fst.fst.snd.snd.snd.snd.snd.snd.snd.snd.snd.snd.snd.snd.fst == b.snd.snd.snd.snd.snd.snd.fst.fst.snd.snd.snd.snd.snd.snd.snd.snd.snd.snd.snd.snd.fst && 
  (a.snd.snd.snd.snd.snd.snd.fst.fst.snd.snd.snd.snd.snd.snd.snd.snd.snd.snd.snd.snd.snd.fst == b.snd.snd.snd.snd.snd.snd.fst.fst.snd.snd.snd.snd.snd.snd.snd.snd.snd.snd.snd.snd.snd.fst && 
  (a.snd.snd.snd.snd.snd.snd.fst.fst.snd.snd.snd.snd.snd.snd.snd.snd.snd.snd.snd.snd.snd.snd.fst == b.snd.snd.snd.snd.snd.snd.fst.fst.snd.snd.snd.snd.snd.snd.snd.snd.snd.snd.snd.snd.snd.snd.fst && 
  (a.snd.snd.snd.snd.snd.snd.fst.fst.snd.snd.snd.snd.snd.snd.snd.snd.snd.snd.snd.snd.snd.snd.snd == b.snd.snd.snd.snd.snd.snd.fst.fst.snd.snd.snd.snd.snd.snd.snd.snd.snd.snd.snd.snd.snd.snd.snd && true))))))))))))))) && 
  (a.snd.snd.snd.snd.snd.snd.fst.snd == b.snd.snd.snd.snd.snd.snd.fst.snd && true)) = true → ((a.snd.snd.snd.snd.snd.snd.snd.fst == b.snd.snd.snd.snd.snd.snd.snd.fst) = true → ((a.snd.snd.snd.snd.snd.snd.snd.snd.fst == 
  b.snd.snd.snd.snd.snd.snd.snd.snd.fst) = true → ((a.snd.snd.snd.snd.snd.snd.snd.snd.snd.fst == b.snd.snd.snd.snd.snd.snd.snd.snd.snd.fst) = true → ((a.snd.snd.snd.snd.snd.snd.snd.snd.snd.snd.fst == 
  b.snd.snd.snd.snd.snd.snd.snd.snd.snd.snd.fst) = true → ((a.snd.snd.snd.snd.snd.snd.snd.snd.snd.snd.snd.snd.fst.toList == b.snd.snd.snd.snd.snd.snd.snd.snd.snd.snd.snd.snd.fst.toList) = true → 
  (a.snd.snd.snd.snd.snd.snd.snd.snd.snd.snd.snd.snd.snd.toList == b.snd.snd.snd.snd.snd.snd.snd.snd.snd.snd.snd.snd.snd.toList) = v_1 ∧ True) ∧ ((a.snd.snd.snd.snd.snd.snd.snd.snd.snd.snd.snd.snd.fst.toList == 
  b.snd.snd.snd.snd.snd.snd.snd.snd.snd.snd.snd.snd.fst.toList) = !true → false = v_1 ∧ True)) ∧ ((a.snd.snd.snd.snd.snd.snd.snd.snd.snd.snd.fst == b.snd.snd.snd.snd.snd.snd.snd.snd.snd.snd.fst) = !true → false = v_1 ∧ 
  True)) ∧ ((a.snd.snd.snd.snd.snd.snd.snd.snd.snd.fst == b.snd.snd.snd.snd.snd.snd.snd.snd.snd.fst) = !true → false = v_1 ∧ True)) ∧ ((a.snd.snd.snd.snd.snd.snd.snd.snd.fst == b.snd.snd.snd.snd.snd.snd.snd.snd.fst) = 
  !true → false = v_1 ∧ True)) ∧ ((a.snd.snd.snd.snd.snd.snd.snd.fst == b.snd.snd.snd.snd.snd.snd.snd.fst) = !true → false = v_1 ∧ True)) ∧ ((a.snd.snd.snd.snd.snd.snd.fst.fst.fst == b.snd.snd.snd.snd.snd.snd.fst.fst.fst 
  && (a.snd.snd.snd.snd.snd.snd.fst.fst.snd.fst == b.snd.snd.snd.snd.snd.snd.fst.fst.snd.fst && (a.snd.snd.snd.snd.snd.snd.fst.fst.snd.snd.fst == b.snd.snd.snd.snd.snd.snd.fst.fst.snd.snd.fst && 
  (a.snd.snd.snd.snd.snd.snd.fst.fst.snd.snd.snd.fst == b.snd.snd.snd.snd.snd.snd.fst.fst.snd.snd.snd.fst && (a.snd.snd.snd.snd.snd.snd.fst.fst.snd.snd.snd.snd.fst == b.snd.snd.snd.snd.snd.snd.fst.fst.snd.snd.snd.snd.fst 
  && (a.snd.snd.snd.snd.snd.snd.fst.fst.snd.snd.snd.snd.snd.fst == b.snd.snd.snd.snd.snd.snd.fst.fst.snd.snd.snd.snd.snd.fst && (a.snd.snd.snd.snd.snd.snd.fst.fst.snd.snd.snd.snd.snd.snd.fst == 
  b.snd.snd.snd.snd.snd.snd.fst.fst.snd.snd.snd.snd.snd.snd.fst && (a.snd.snd.snd.snd.snd.snd.fst.fst.snd.snd.snd.snd.snd.snd.snd.fst == b.snd.snd.snd.snd.snd.snd.fst.fst.snd.snd.snd.snd.snd.snd.snd.fst && 
  (a.snd.snd.snd.snd.snd.snd.fst.fst.snd.snd.snd.snd.snd.snd.snd.snd.fst == b.snd.snd.snd.snd.snd.snd.fst.fst.snd.snd.snd.snd.snd.snd.snd.snd.fst && 
  (a.snd.snd.snd.snd.snd.snd.fst.fst.snd.snd.snd.snd.snd.snd.snd.snd.snd.fst == b.snd.snd.snd.snd.snd.snd.fst.fst.snd.snd.snd.snd.snd.snd.snd.snd.snd.fst && 
  (a.snd.snd.snd.snd.snd.snd.fst.fst.snd.snd.snd.snd.snd.snd.snd.snd.snd.snd.fst == b.snd.snd.snd.snd.snd.snd.fst.fst.snd.snd.snd.snd.snd.snd.snd.snd.snd.snd.fst && 
  (a.snd.snd.snd.snd.snd.snd.fst.fst.snd.snd.snd.snd.snd.snd.snd.snd.snd.snd.snd.fst == b.snd.snd.snd.snd.snd.snd.fst.fst.snd.snd.snd.snd.snd.snd.snd.snd.snd.snd.snd.fst && 
  (a.snd.snd.snd.snd.snd.snd.fst.fst.snd.snd.snd.snd.snd.snd.snd.snd.snd.snd.snd.snd.fst == b.snd.snd.snd.snd.snd.snd.fst.fst.snd.snd.snd.snd.snd.snd.snd.snd.snd.snd.snd.snd.fst && 
  (a.snd.snd.snd.snd.snd.snd.fst.fst.snd.snd.snd.snd.snd.snd.snd.snd.snd.snd.snd.snd.snd.fst == b.snd.snd.snd.snd.snd.snd.fst.fst.snd.snd.snd.snd.snd.snd.snd.snd.snd.snd.snd.snd.snd.fst && 
  (a.snd.snd.snd.snd.snd.snd.fst.fst.snd.snd.snd.snd.snd.snd.snd.snd.snd.snd.snd.snd.snd.snd.fst == b.snd.snd.snd.snd.snd.snd.fst.fst.snd.snd.snd.snd.snd.snd.snd.snd.snd.snd.snd.snd.snd.snd.fst && 
  (a.snd.snd.snd.snd.snd.snd.fst.fst.snd.snd.snd.snd.snd.snd.snd.snd.snd.snd.snd.snd.snd.snd.snd == b.snd.snd.snd.snd.snd.snd.fst.fst.snd.snd.snd.snd.snd.snd.snd.snd.snd.snd.snd.snd.snd.snd.snd && true))))))))))))))) && 
  (a.snd.snd.snd.snd.snd.snd.fst.snd == b.snd.snd.snd.snd.snd.snd.fst.snd && true)) = !true → false = v_1 ∧ True)) ∧ ((a.snd.snd.snd.snd.snd.fst.fst == b.snd.snd.snd.snd.snd.fst.fst && (a.snd.snd.snd.snd.snd.fst.snd == 
  b.snd.snd.snd.snd.snd.fst.snd && true)) = !true → false = v_1 ∧ True)) ∧ (sameX (a.snd.snd.snd.snd.fst.fst, a.snd.snd.snd.snd.fst.snd) (b.snd.snd.snd.snd.fst.fst, b.snd.snd.snd.snd.fst.snd) = !true → false = v_1 ∧ 
  True)) ∧ ((a.snd.snd.fst.toList == b.snd.snd.fst.toList) = !true → false = v_1 ∧ True)) ∧ ∃ (v_2 : Bool), ((v = true → (sameX a.snd.snd.snd.snd.snd.snd.snd.snd.snd.snd.snd.fst 
  b.snd.snd.snd.snd.snd.snd.snd.snd.snd.snd.snd.fst = true → v_1 = v_2) ∧ (sameX a.snd.snd.snd.snd.snd.snd.snd.snd.snd.snd.snd.fst b.snd.snd.snd.snd.snd.snd.snd.snd.snd.snd.snd.fst = !true → false = v_2)) ∧ (v = !true → 
  false = v_2)) ∧ v_2 = sameX a b ∧ True) ∧ (sameX a.snd.snd.snd.fst b.snd.snd.snd.fst = !true → ∃ (v_1 : Bool), (((a.snd.snd.fst.toList == b.snd.snd.fst.toList) = true → true = true ∧ (sameX (a.snd.snd.snd.snd.fst.fst, 
  a.snd.snd.snd.snd.fst.snd) (b.snd.snd.snd.snd.fst.fst, b.snd.snd.snd.snd.fst.snd) = true → ((a.snd.snd.snd.snd.snd.fst.fst == b.snd.snd.snd.snd.snd.fst.fst && (a.snd.snd.snd.snd.snd.fst.snd == 
  b.snd.snd.snd.snd.snd.fst.snd && true)) = true → ((a.snd.snd.snd.snd.snd.snd.fst.fst.fst == b.snd.snd.snd.snd.snd.snd.fst.fst.fst && (a.snd.snd.snd.snd.snd.snd.fst.fst.snd.fst == 
  b.snd.snd.snd.snd.snd.snd.fst.fst.snd.fst && (a.snd.snd.snd.snd.snd.snd.fst.fst.snd.snd.fst == b.snd.snd.snd.snd.snd.snd.fst.fst.snd.snd.fst && (a.snd.snd.snd.snd.snd.snd.fst.fst.snd.snd.snd.fst == 
  b.snd.snd.snd.snd.snd.snd.fst.fst.snd.snd.snd.fst && (a.snd.snd.snd.snd.snd.snd.fst.fst.snd.snd.snd.snd.fst == b.snd.snd.snd.snd.snd.snd.fst.fst.snd.snd.snd.snd.fst && 
  (a.snd.snd.snd.snd.snd.snd.fst.fst.snd.snd.snd.snd.snd.fst == b.snd.snd.snd.snd.snd.snd.fst.fst.snd.snd.snd.snd.snd.fst && (a.snd.snd.snd.snd.snd.snd.fst.fst.snd.snd.snd.snd.snd.snd.fst == 
  b.snd.snd.snd.snd.snd.snd.fst.fst.snd.snd.snd.snd.snd.snd.fst && (a.snd.snd.snd.snd.snd.snd.fst.fst.snd.snd.snd.snd.snd.snd.snd.fst == b.snd.snd.snd.snd.snd.snd.fst.fst.snd.snd.snd.snd.snd.snd.snd.fst && 
  (a.snd.snd.snd.snd.snd.snd.fst.fst.snd.snd.snd.snd.snd.snd.snd.snd.fst == b.snd.snd.snd.snd.snd.snd.fst.fst.snd.snd.snd.snd.snd.snd.snd.snd.fst && 
  (a.snd.snd.snd.snd.snd.snd.fst.fst.snd.snd.snd.snd.snd.snd.snd.snd.snd.fst == b.snd.snd.snd.snd.snd.snd.fst.fst.snd.snd.snd.snd.snd.snd.snd.snd.snd.fst && 
  (a.snd.snd.snd.snd.snd.snd.fst.fst.snd.snd.snd.snd.snd.snd.snd.snd.snd.snd.fst == b.snd.snd.snd.snd.snd.snd.fst.fst.snd.snd.snd.snd.snd.snd.snd.snd.snd.snd.fst && 
  (a.snd.snd.snd.snd.snd.snd.fst.fst.snd.snd.snd.snd.snd.snd.snd.snd.snd.snd.snd.fst == b.snd.snd.snd.snd.snd.snd.fst.fst.snd.snd.snd.snd.snd.snd.snd.snd.snd.snd.snd.fst && 
  (a.snd.snd.snd.snd.snd.snd.fst.fst.snd.snd.snd.snd.snd.snd.snd.snd.snd.snd.snd.snd.fst == b.snd.snd.snd.snd.snd.snd.fst.fst.snd.snd.snd.snd.snd.snd.snd.snd.snd.snd.snd.snd.fst && 
  (a.snd.snd.snd.snd.snd.snd.fst.fst.snd.snd.snd.snd.snd.snd.snd.snd.snd.snd.snd.snd.snd.fst == b.snd.snd.snd.snd.snd.snd.fst.fst.snd.snd.snd.snd.snd.snd.snd.snd.snd.snd.snd.snd.snd.fst && 
  (a.snd.snd.snd.snd.snd.snd.fst.fst.snd.snd.snd.snd.snd.snd.snd.snd.snd.snd.snd.snd.snd.snd.fst == b.snd.snd.snd.snd.snd.snd.fst.fst.snd.snd.snd.snd.snd.snd.snd.snd.snd.snd.snd.snd.snd.snd.fst && 
  (a.snd.snd.snd.snd.snd.snd.fst.fst.snd.snd.snd.snd.snd.snd.snd.snd.snd.snd.snd.snd.snd.snd.snd == b.snd.snd.snd.snd.snd.snd.fst.fst.snd.snd.snd.snd.snd.snd.snd.snd.snd.snd.snd.snd.snd.snd.snd && true))))))))))))))) && 
  (a.snd.snd.snd.snd.snd.snd.fst.snd == b.snd.snd.snd.snd.snd.snd.fst.snd && true)) = true → ((a.snd.snd.snd.snd.snd.snd.snd.fst == b.snd.snd.snd.snd.snd.snd.snd.fst) = true → ((a.snd.snd.snd.snd.snd.snd.snd.snd.fst == 
  b.snd.snd.snd.snd.snd.snd.snd.snd.fst) = true → ((a.snd.snd.snd.snd.snd.snd.snd.snd.snd.fst == b.snd.snd.snd.snd.snd.snd.snd.snd.snd.fst) = true → ((a.snd.snd.snd.snd.snd.snd.snd.snd.snd.snd.fst == 
  b.snd.snd.snd.snd.snd.snd.snd.snd.snd.snd.fst) = true → ((a.snd.snd.snd.snd.snd.snd.snd.snd.snd.snd.snd.snd.fst.toList == b.snd.snd.snd.snd.snd.snd.snd.snd.snd.snd.snd.snd.fst.toList) = true → 
  (a.snd.snd.snd.snd.snd.snd.snd.snd.snd.snd.snd.snd.snd.toList == b.snd.snd.snd.snd.snd.snd.snd.snd.snd.snd.snd.snd.snd.toList) = v_1 ∧ True) ∧ ((a.snd.snd.snd.snd.snd.snd.snd.snd.snd.snd.snd.snd.fst.toList == 
  b.snd.snd.snd.snd.snd.snd.snd.snd.snd.snd.snd.snd.fst.toList) = !true → false = v_1 ∧ True)) ∧ ((a.snd.snd.snd.snd.snd.snd.snd.snd.snd.snd.fst == b.snd.snd.snd.snd.snd.snd.snd.snd.snd.snd.fst) = !true → false = v_1 ∧ 
  True)) ∧ ((a.snd.snd.snd.snd.snd.snd.snd.snd.snd.fst == b.snd.snd.snd.snd.snd.snd.snd.snd.snd.fst) = !true → false = v_1 ∧ True)) ∧ ((a.snd.snd.snd.snd.snd.snd.snd.snd.fst == b.snd.snd.snd.snd.snd.snd.snd.snd.fst) = 
  !true → false = v_1 ∧ True)) ∧ ((a.snd.snd.snd.snd.snd.snd.snd.fst == b.snd.snd.snd.snd.snd.snd.snd.fst) = !true → false = v_1 ∧ True)) ∧ ((a.snd.snd.snd.snd.snd.snd.fst.fst.fst == b.snd.snd.snd.snd.snd.snd.fst.fst.fst 
  && (a.snd.snd.snd.snd.snd.snd.fst.fst.snd.fst == b.snd.snd.snd.snd.snd.snd.fst.fst.snd.fst && (a.snd.snd.snd.snd.snd.snd.fst.fst.snd.snd.fst == b.snd.snd.snd.snd.snd.snd.fst.fst.snd.snd.fst && 
  (a.snd.snd.snd.snd.snd.snd.fst.fst.snd.snd.snd.fst == b.snd.snd.snd.snd.snd.snd.fst.fst.snd.snd.snd.fst && (a.snd.snd.snd.snd.snd.snd.fst.fst.snd.snd.snd.snd.fst == b.snd.snd.snd.snd.snd.snd.fst.fst.snd.snd.snd.snd.fst 
  && (a.snd.snd.snd.snd.snd.snd.fst.fst.snd.snd.snd.snd.snd.fst == b.snd.snd.snd.snd.snd.snd.fst.fst.snd.snd.snd.snd.snd.fst && (a.snd.snd.snd.snd.snd.snd.fst.fst.snd.snd.snd.snd.snd.snd.fst == 
  b.snd.snd.snd.snd.snd.snd.fst.fst.snd.snd.snd.snd.snd.snd.fst && (a.snd.snd.snd.snd.snd.snd.fst.fst.snd.snd.snd.snd.snd.snd.snd.fst == b.snd.snd.snd.snd.snd.snd.fst.fst.snd.snd.snd.snd.snd.snd.snd.fst && 
  (a.snd.snd.snd.snd.snd.snd.fst.fst.snd.snd.snd.snd.snd.snd.snd.snd.fst == b.snd.snd.snd.snd.snd.snd.fst.fst.snd.snd.snd.snd.snd.snd.snd.snd.fst && 
  (a.snd.snd.snd.snd.snd.snd.fst.fst.snd.snd.snd.snd.snd.snd.snd.snd.snd.fst == b.snd.snd.snd.snd.snd.snd.fst.fst.snd.snd.snd.snd.snd.snd.snd.snd.snd.fst && 
  (a.snd.snd.snd.snd.snd.snd.fst.fst.snd.snd.snd.snd.snd.snd.snd.snd.snd.snd.fst == b.snd.snd.snd.snd.snd.snd.fst.fst.snd.snd.snd.snd.snd.snd.snd.snd.snd.snd.fst && 
  (a.snd.snd.snd.snd.snd.snd.fst.fst.snd.snd.snd.snd.snd.snd.snd.snd.snd.snd.snd.fst == b.snd.snd.snd.snd.snd.snd.fst.fst.snd.snd.snd.snd.snd.snd.snd.snd.snd.snd.snd.fst && 
  (a.snd.snd.snd.snd.snd.snd.fst.fst.snd.snd.snd.snd.snd.snd.snd.snd.snd.snd.snd.snd.fst == b.snd.snd.snd.snd.snd.snd.fst.fst.snd.snd.snd.snd.snd.snd.snd.snd.snd.snd.snd.snd.fst && 
  (a.snd.snd.snd.snd.snd.snd.fst.fst.snd.snd.snd.snd.snd.snd.snd.snd.snd.snd.snd.snd.snd.fst == b.snd.snd.snd.snd.snd.snd.fst.fst.snd.snd.snd.snd.snd.snd.snd.snd.snd.snd.snd.snd.snd.fst && 
  (a.snd.snd.snd.snd.snd.snd.fst.fst.snd.snd.snd.snd.snd.snd.snd.snd.snd.snd.snd.snd.snd.snd.fst == b.snd.snd.snd.snd.snd.snd.fst.fst.snd.snd.snd.snd.snd.snd.snd.snd.snd.snd.snd.snd.snd.snd.fst && 
  (a.snd.snd.snd.snd.snd.snd.fst.fst.snd.snd.snd.snd.snd.snd.snd.snd.snd.snd.snd.snd.snd.snd.snd == b.snd.snd.snd.snd.snd.snd.fst.fst.snd.snd.snd.snd.snd.snd.snd.snd.snd.snd.snd.snd.snd.snd.snd && true))))))))))))))) && 
  (a.snd.snd.snd.snd.snd.snd.fst.snd == b.snd.snd.snd.snd.snd.snd.fst.snd && true)) = !true → false = v_1 ∧ True)) ∧ ((a.snd.snd.snd.snd.snd.fst.fst == b.snd.snd.snd.snd.snd.fst.fst && (a.snd.snd.snd.snd.snd.fst.snd == 
  b.snd.snd.snd.snd.snd.fst.snd && true)) = !true → false = v_1 ∧ True)) ∧ (sameX (a.snd.snd.snd.snd.fst.fst, a.snd.snd.snd.snd.fst.snd) (b.snd.snd.snd.snd.fst.fst, b.snd.snd.snd.snd.fst.snd) = !true → false = v_1 ∧ 
  True)) ∧ ((a.snd.snd.fst.toList == b.snd.snd.fst.toList) = !true → false = v_1 ∧ True)) ∧ ∃ (v_2 : Bool), ((v = true → false = v_2) ∧ (v = !true → false = v_2)) ∧ v_2 = sameX a b ∧ True)) ∧ (sameX a.snd.fst b.snd.fst = 
  !true → ∃ (v_1 : Bool), (((a.snd.snd.fst.toList == b.snd.snd.fst.toList) = true → true = true ∧ (sameX (a.snd.snd.snd.snd.fst.fst, a.snd.snd.snd.snd.fst.snd) (b.snd.snd.snd.snd.fst.fst, b.snd.snd.snd.snd.fst.snd) = 
  true → ((a.snd.snd.snd.snd.snd.fst.fst == b.snd.snd.snd.snd.snd.fst.fst && (a.snd.snd.snd.snd.snd.fst.snd == b.snd.snd.snd.snd.snd.fst.snd && true)) = true → ((a.snd.snd.snd.snd.snd.snd.fst.fst.fst == 
  b.snd.snd.snd.snd.snd.snd.fst.fst.fst && (a.snd.snd.snd.snd.snd.snd.fst.fst.snd.fst == b.snd.snd.snd.snd.snd.snd.fst.fst.snd.fst && (a.snd.snd.snd.snd.snd.snd.fst.fst.snd.snd.fst == 
  b.snd.snd.snd.snd.snd.snd.fst.fst.snd.snd.fst && (a.snd.snd.snd.snd.snd.snd.fst.fst.snd.snd.snd.fst == b.snd.snd.snd.snd.snd.snd.fst.fst.snd.snd.snd.fst && (a.snd.snd.snd.snd.snd.snd.fst.fst.snd.snd.snd.snd.fst == 
  b.snd.snd.snd.snd.snd.snd.fst.fst.snd.snd.snd.snd.fst && (a.snd.snd.snd.snd.snd.snd.fst.fst.snd.snd.snd.snd.snd.fst == b.snd.snd.snd.snd.snd.snd.fst.fst.snd.snd.snd.snd.snd.fst && 
  (a.snd.snd.snd.snd.snd.snd.fst.fst.snd.snd.snd.snd.snd.snd.fst == b.snd.snd.snd.snd.snd.snd.fst.fst.snd.snd.snd.snd.snd.snd.fst && (a.snd.snd.snd.snd.snd.snd.fst.fst.snd.snd.snd.snd.snd.snd.snd.fst == 
  b.snd.snd.snd.snd.snd.snd.fst.fst.snd.snd.snd.snd.snd.snd.snd.fst && (a.snd.snd.snd.snd.snd.snd.fst.fst.snd.snd.snd.snd.snd.snd.snd.snd.fst == b.snd.snd.snd.snd.snd.snd.fst.fst.snd.snd.snd.snd.snd.snd.snd.snd.fst && 
  (a.snd.snd.snd.snd.snd.snd.fst.fst.snd.snd.snd.snd.snd.snd.snd.snd.snd.fst == b.snd.snd.snd.snd.snd.snd.fst.fst.snd.snd.snd.snd.snd.snd.snd.snd.snd.fst && 
  (a.snd.snd.snd.snd.snd.snd.fst.fst.snd.snd.snd.snd.snd.snd.snd.snd.snd.snd.fst == b.snd.snd.snd.snd.snd.snd.fst.fst.snd.snd.snd.snd.snd.snd.snd.snd.snd.snd.fst && 
  (a.snd.snd.snd.snd.snd.snd.fst.fst.snd.snd.snd.snd.snd.snd.snd.snd.snd.snd.snd.fst == b.snd.snd.snd.snd.snd.snd.fst.fst.snd.snd.snd.snd.snd.snd.snd.snd.snd.snd.snd.fst && 
  (a.snd.snd.snd.snd.snd.snd.fst.fst.snd.snd.snd.snd.snd.snd.snd.snd.snd.snd.snd.snd.fst == b.snd.snd.snd.snd.snd.snd.fst.fst.snd.snd.snd.snd.snd.snd.snd.snd.snd.snd.snd.snd.fst && 
  (a.snd.snd.snd.snd.snd.snd.fst.fst.snd.snd.snd.snd.snd.snd.snd.snd.snd.snd.snd.snd.snd.fst == b.snd.snd.snd.snd.snd.snd.fst.fst.snd.snd.snd.snd.snd.snd.snd.snd.snd.snd.snd.snd.snd.fst && 
  (a.snd.snd.snd.snd.snd.snd.fst.fst.snd.snd.snd.snd.snd.snd.snd.snd.snd.snd.snd.snd.snd.snd.fst == b.snd.snd.snd.snd.snd.snd.fst.fst.snd.snd.snd.snd.snd.snd.snd.snd.snd.snd.snd.snd.snd.snd.fst && 
  (a.snd.snd.snd.snd.snd.snd.fst.fst.snd.snd.snd.snd.snd.snd.snd.snd.snd.snd.snd.snd.snd.snd.snd == b.snd.snd.snd.snd.snd.snd.fst.fst.snd.snd.snd.snd.snd.snd.snd.snd.snd.snd.snd.snd.snd.snd.snd && true))))))))))))))) && 
  (a.snd.snd.snd.snd.snd.snd.fst.snd == b.snd.snd.snd.snd.snd.snd.fst.snd && true)) = true → ((a.snd.snd.snd.snd.snd.snd.snd.fst == b.snd.snd.snd.snd.snd.snd.snd.fst) = true → ((a.snd.snd.snd.snd.snd.snd.snd.snd.fst == 
  b.snd.snd.snd.snd.snd.snd.snd.snd.fst) = true → ((a.snd.snd.snd.snd.snd.snd.snd.snd.snd.fst == b.snd.snd.snd.snd.snd.snd.snd.snd.snd.fst) = true → ((a.snd.snd.snd.snd.snd.snd.snd.snd.snd.snd.fst == 
  b.snd.snd.snd.snd.snd.snd.snd.snd.snd.snd.fst) = true → ((a.snd.snd.snd.snd.snd.snd.snd.snd.snd.snd.snd.snd.fst.toList == b.snd.snd.snd.snd.snd.snd.snd.snd.snd.snd.snd.snd.fst.toList) = true → 
  (a.snd.snd.snd.snd.snd.snd.snd.snd.snd.snd.snd.snd.snd.toList == b.snd.snd.snd.snd.snd.snd.snd.snd.snd.snd.snd.snd.snd.toList) = v_1 ∧ True) ∧ ((a.snd.snd.snd.snd.snd.snd.snd.snd.snd.snd.snd.snd.fst.toList == 
  b.snd.snd.snd.snd.snd.snd.snd.snd.snd.snd.snd.snd.fst.toList) = !true → false = v_1 ∧ True)) ∧ ((a.snd.snd.snd.snd.snd.snd.snd.snd.snd.snd.fst == b.snd.snd.snd.snd.snd.snd.snd.snd.snd.snd.fst) = !true → false = v_1 ∧ 
  True)) ∧ ((a.snd.snd.snd.snd.snd.snd.snd.snd.snd.fst == b.snd.snd.snd.snd.snd.snd.snd.snd.snd.fst) = !true → false = v_1 ∧ True)) ∧ ((a.snd.snd.snd.snd.snd.snd.snd.snd.fst == b.snd.snd.snd.snd.snd.snd.snd.snd.fst) = 
  !true → false = v_1 ∧ True)) ∧ ((a.snd.snd.snd.snd.snd.snd.snd.fst == b.snd.snd.snd.snd.snd.snd.snd.fst) = !true → false = v_1 ∧ True)) ∧ ((a.snd.snd.snd.snd.snd.snd.fst.fst.fst == b.snd.snd.snd.snd.snd.snd.fst.fst.fst 
  && (a.snd.snd.snd.snd.snd.snd.fst.fst.snd.fst == b.snd.snd.snd.snd.snd.snd.fst.fst.snd.fst && (a.snd.snd.snd.snd.snd.snd.fst.fst.snd.snd.fst == b.snd.snd.snd.snd.snd.snd.fst.fst.snd.snd.fst && 
  (a.snd.snd.snd.snd.snd.snd.fst.fst.snd.snd.snd.fst == b.snd.snd.snd.snd.snd.snd.fst.fst.snd.snd.snd.fst && (a.snd.snd.snd.snd.snd.snd.fst.fst.snd.snd.snd.snd.fst == b.snd.snd.snd.snd.snd.snd.fst.fst.snd.snd.snd.snd.fst 
  && (a.snd.snd.snd.snd.snd.snd.fst.fst.snd.snd.snd.snd.snd.fst == b.snd.snd.snd.snd.snd.snd.fst.fst.snd.snd.snd.snd.snd.fst && (a.snd.snd.snd.snd.snd.snd.fst.fst.snd.snd.snd.snd.snd.snd.fst == 
  b.snd.snd.snd.snd.snd.snd.fst.fst.snd.snd.snd.snd.snd.snd.fst && (a.snd.snd.snd.snd.snd.snd.fst.fst.snd.snd.snd.snd.snd.snd.snd.fst == b.snd.snd.snd.snd.snd.snd.fst.fst.snd.snd.snd.snd.snd.snd.snd.fst && 
  (a.snd.snd.snd.snd.snd.snd.fst.fst.snd.snd.snd.snd.snd.snd.snd.snd.fst == b.snd.snd.snd.snd.snd.snd.fst.fst.snd.snd.snd.snd.snd.snd.snd.snd.fst && 
  (a.snd.snd.snd.snd.snd.snd.fst.fst.snd.snd.snd.snd.snd.snd.snd.snd.snd.fst == b.snd.snd.snd.snd.snd.snd.fst.fst.snd.snd.snd.snd.snd.snd.snd.snd.snd.fst && 
  (a.snd.snd.snd.snd.snd.snd.fst.fst.snd.snd.snd.snd.snd.snd.snd.snd.snd.snd.fst == b.snd.snd.snd.snd.snd.snd.fst.fst.snd.snd.snd.snd.snd.snd.snd.snd.snd.snd.fst && 
  (a.snd.snd.snd.snd.snd.snd.fst.fst.snd.snd.snd.snd.snd.snd.snd.snd.snd.snd.snd.fst == b.snd.snd.snd.snd.snd.snd.fst.fst.snd.snd.snd.snd.snd.snd.snd.snd.snd.snd.snd.fst && 
  (a.snd.snd.snd.snd.snd.snd.fst.fst.snd.snd.snd.snd.snd.snd.snd.snd.snd.snd.snd.snd.fst == b.snd.snd.snd.snd.snd.snd.fst.fst.snd.snd.snd.snd.snd.snd.snd.snd.snd.snd.snd.snd.fst && 
  (a.snd.snd.snd.snd.snd.snd.fst.fst.snd.snd.snd.snd.snd.snd.snd.snd.snd.snd.snd.snd.snd.fst == b.snd.snd.snd.snd.snd.snd.fst.fst.snd.snd.snd.snd.snd.snd.snd.snd.snd.snd.snd.snd.snd.fst && 
  (a.snd.snd.snd.snd.snd.snd.fst.fst.snd.snd.snd.snd.snd.snd.snd.snd.snd.snd.snd.snd.snd.snd.fst == b.snd.snd.snd.snd.snd.snd.fst.fst.snd.snd.snd.snd.snd.snd.snd.snd.snd.snd.snd.snd.snd.snd.fst && 
  (a.snd.snd.snd.snd.snd.snd.fst.fst.snd.snd.snd.snd.snd.snd.snd.snd.snd.snd.snd.snd.snd.snd.snd == b.snd.snd.snd.snd.snd.snd.fst.fst.snd.snd.snd.snd.snd.snd.snd.snd.snd.snd.snd.snd.snd.snd.snd && true))))))))))))))) && 
  (a.snd.snd.snd.snd.snd.snd.fst.snd == b.snd.snd.snd.snd.snd.snd.fst.snd && true)) = !true → false = v_1 ∧ True)) ∧ ((a.snd.snd.snd.snd.snd.fst.fst == b.snd.snd.snd.snd.snd.fst.fst && (a.snd.snd.snd.snd.snd.fst.snd == 
  b.snd.snd.snd.snd.snd.fst.snd && true)) = !true → false = v_1 ∧ True)) ∧ (sameX (a.snd.snd.snd.snd.fst.fst, a.snd.snd.snd.snd.fst.snd) (b.snd.snd.snd.snd.fst.fst, b.snd.snd.snd.snd.fst.snd) = !true → false = v_1 ∧ 
  True)) ∧ ((a.snd.snd.fst.toList == b.snd.snd.fst.toList) = !true → false = v_1 ∧ True)) ∧ ∃ (v_2 : Bool), ((v = true → false = v_2) ∧ (v = !true → false = v_2)) ∧ v_2 = sameX a b ∧ True)) := by kernel_rfl
theorem sameO_vc (a b : Obj) : fvc PP (eP [p20, p40, p41, p42]) Try.f25 c25 (ofArgs [objT, objT] (a, b, ())) St0 (gives [.bool] (sameX a b, ())) = (
  ∃ (v : Bool), (true = true ∧ ((!sameX (a.fst.fst, a.fst.snd.fst, a.fst.snd.snd.fst, a.fst.snd.snd.snd.fst, a.fst.snd.snd.snd.snd.fst, a.fst.snd.snd.snd.snd.snd.fst, a.fst.snd.snd.snd.snd.snd.snd) (b.fst.fst, 
  b.fst.snd.fst, b.fst.snd.snd.fst, b.fst.snd.snd.snd.fst, b.fst.snd.snd.snd.snd.fst, b.fst.snd.snd.snd.snd.snd.fst, b.fst.snd.snd.snd.snd.snd.snd)) = false → true = true ∧ ((!sameI a.snd.fst b.snd.fst) = false → 
  ((!a.snd.snd.fst.toList == b.snd.snd.fst.toList) = false → true = true ∧ ((!sameX a.snd.snd.snd.fst b.snd.snd.snd.fst) = false → true = true ∧ ((!sameX (a.snd.snd.snd.snd.fst.fst, a.snd.snd.snd.snd.fst.snd) 
  (b.snd.snd.snd.snd.fst.fst, b.snd.snd.snd.snd.fst.snd)) = false → ((!(a.snd.snd.snd.snd.snd.fst.fst == b.snd.snd.snd.snd.snd.fst.fst && (a.snd.snd.snd.snd.snd.fst.snd == b.snd.snd.snd.snd.snd.fst.snd && true))) = false 
  → (!(a.snd.snd.snd.snd.snd.snd.fst.fst.fst == b.snd.snd.snd.snd.snd.snd.fst.fst.fst && (a.snd.snd.snd.snd.snd.snd.fst.fst.snd.fst == b.snd.snd.snd.snd.snd.snd.fst.fst.snd.fst && 
  (a.snd.snd.snd.snd.snd.snd.fst.fst.snd.snd.fst == b.snd.snd.snd.snd.snd.snd.fst.fst.snd.snd.fst && (a.snd.snd.snd.snd.snd.snd.fst.fst.snd.snd.snd.fst == b.snd.snd.snd.snd.snd.snd.fst.fst.snd.snd.snd.fst && 
  (a.snd.snd.snd.snd.snd.snd.fst.fst.snd.snd.snd.snd.fst == b.snd.snd.snd.snd.snd.snd.fst.fst.snd.snd.snd.snd.fst && (a.snd.snd.snd.snd.snd.snd.fst.fst.snd.snd.snd.snd.snd.fst == 
  b.snd.snd.snd.snd.snd.snd.fst.fst.snd.snd.snd.snd.snd.fst && (a.snd.snd.snd.snd.snd.snd.fst.fst.snd.snd.snd.snd.snd.snd.fst == b.snd.snd.snd.snd.snd.snd.fst.fst.snd.snd.snd.snd.snd.snd.fst && 
  (a.snd.snd.snd.snd.snd.snd.fst.fst.snd.snd.snd.snd.snd.snd.snd.fst == b.snd.snd.snd.snd.snd.snd.fst.fst.snd.snd.snd.snd.snd.snd.snd.fst && (a.snd.snd.snd.snd.snd.snd.fst.fst.snd.snd.snd.snd.snd.snd.snd.snd.fst == 
  b.snd.snd.snd.snd.snd.snd.fst.fst.snd.snd.snd.snd.snd.snd.snd.snd.fst && (a.snd.snd.snd.snd.snd.snd.fst.fst.snd.snd.snd.snd.snd.snd.snd.snd.snd.fst == 
  b.snd.snd.snd.snd.snd.snd.fst.fst.snd.snd.snd.snd.snd.snd.snd.snd.snd.fst && (a.snd.snd.snd.snd.snd.snd.fst.fst.snd.snd.snd.snd.snd.snd.snd.snd.snd.snd.fst == 
  b.snd.snd.snd.snd.snd.snd.fst.fst.snd.snd.snd.snd.snd.snd.snd.snd.snd.snd.fst && (a.snd.snd.snd.snd.snd.snd.fst.fst.snd.snd.snd.snd.snd.snd.snd.snd.snd.snd.snd.fst == 
  b.snd.snd.snd.snd.snd.snd.fst.fst.snd.snd.snd.snd.snd.snd.snd.snd.snd.snd.snd.fst && (a.snd.snd.snd.snd.snd.snd.fst.fst.snd.snd.snd.snd.snd.snd.snd.snd.snd.snd.snd.snd.fst == 
  b.snd.snd.snd.snd.snd.snd.fst.fst.snd.snd.snd.snd.snd.snd.snd.snd.snd.snd.snd.snd.fst && (a.snd.snd.snd.snd.snd.snd.fst.fst.snd.snd.snd.snd.snd.snd.snd.snd.snd.snd.snd.snd.snd.fst == 
  b.snd.snd.snd.snd.snd.snd.fst.fst.snd.snd.snd.snd.snd.snd.snd.snd.snd.snd.snd.snd.snd.fst && (a.snd.snd.snd.snd.snd.snd.fst.fst.snd.snd.snd.snd.snd.snd.snd.snd.snd.snd.snd.snd.snd.snd.fst == 
  b.snd.snd.snd.snd.snd.snd.fst.fst.snd.snd.snd.snd.snd.snd.snd.snd.snd.snd.snd.snd.snd.snd.fst && (a.snd.snd.snd.snd.snd.snd.fst.fst.snd.snd.snd.snd.snd.snd.snd.snd.snd.snd.snd.snd.snd.snd.snd == 
  b.snd.snd.snd.snd.snd.snd.fst.fst.snd.snd.snd.snd.snd.snd.snd.snd.snd.snd.snd.snd.snd.snd.snd && true))))))))))))))) && (a.snd.snd.snd.snd.snd.snd.fst.snd == b.snd.snd.snd.snd.snd.snd.fst.snd && true))) = v ∧ True) ∧ 
  ((!(a.snd.snd.snd.snd.snd.fst.fst == b.snd.snd.snd.snd.snd.fst.fst && (a.snd.snd.snd.snd.snd.fst.snd == b.snd.snd.snd.snd.snd.fst.snd && true))) = !false → true = v ∧ True)) ∧ ((!sameX (a.snd.snd.snd.snd.fst.fst, 
  a.snd.snd.snd.snd.fst.snd) (b.snd.snd.snd.snd.fst.fst, b.snd.snd.snd.snd.fst.snd)) = !false → true = v ∧ True)) ∧ ((!sameX a.snd.snd.snd.fst b.snd.snd.snd.fst) = !false → true = v ∧ True)) ∧ ((!a.snd.snd.fst.toList == 
  b.snd.snd.fst.toList) = !false → true = v ∧ True)) ∧ ((!sameI a.snd.fst b.snd.fst) = !false → true = v ∧ True)) ∧ ((!sameX (a.fst.fst, a.fst.snd.fst, a.fst.snd.snd.fst, a.fst.snd.snd.snd.fst, a.fst.snd.snd.snd.snd.fst, 
  a.fst.snd.snd.snd.snd.snd.fst, a.fst.snd.snd.snd.snd.snd.snd) (b.fst.fst, b.fst.snd.fst, b.fst.snd.snd.fst, b.fst.snd.snd.snd.fst, b.fst.snd.snd.snd.snd.fst, b.fst.snd.snd.snd.snd.snd.fst, 
  b.fst.snd.snd.snd.snd.snd.snd)) = !false → true = v ∧ True)) ∧ (v = true → false = sameX a b ∧ True) ∧ (v = false → ∃ (v : Bool), (((a.snd.snd.snd.snd.snd.snd.snd.fst == b.snd.snd.snd.snd.snd.snd.snd.fst) = true → 
  ((a.snd.snd.snd.snd.snd.snd.snd.snd.fst == b.snd.snd.snd.snd.snd.snd.snd.snd.fst) = true → ((a.snd.snd.snd.snd.snd.snd.snd.snd.snd.fst == b.snd.snd.snd.snd.snd.snd.snd.snd.snd.fst) = true → 
  ((a.snd.snd.snd.snd.snd.snd.snd.snd.snd.snd.fst == b.snd.snd.snd.snd.snd.snd.snd.snd.snd.snd.fst) = true → true = true ∧ (sameI a.snd.snd.snd.snd.snd.snd.snd.snd.snd.snd.snd.fst 
  b.snd.snd.snd.snd.snd.snd.snd.snd.snd.snd.snd.fst = true → ((a.snd.snd.snd.snd.snd.snd.snd.snd.snd.snd.snd.snd.fst.toList == b.snd.snd.snd.snd.snd.snd.snd.snd.snd.snd.snd.snd.fst.toList) = true → 
  (a.snd.snd.snd.snd.snd.snd.snd.snd.snd.snd.snd.snd.snd.toList == b.snd.snd.snd.snd.snd.snd.snd.snd.snd.snd.snd.snd.snd.toList) = v ∧ True) ∧ ((a.snd.snd.snd.snd.snd.snd.snd.snd.snd.snd.snd.snd.fst.toList == 
  b.snd.snd.snd.snd.snd.snd.snd.snd.snd.snd.snd.snd.fst.toList) = !true → false = v ∧ True)) ∧ (sameI a.snd.snd.snd.snd.snd.snd.snd.snd.snd.snd.snd.fst b.snd.snd.snd.snd.snd.snd.snd.snd.snd.snd.snd.fst = !true → false = 
  v ∧ True)) ∧ ((a.snd.snd.snd.snd.snd.snd.snd.snd.snd.snd.fst == b.snd.snd.snd.snd.snd.snd.snd.snd.snd.snd.fst) = !true → false = v ∧ True)) ∧ ((a.snd.snd.snd.snd.snd.snd.snd.snd.snd.fst == 
  b.snd.snd.snd.snd.snd.snd.snd.snd.snd.fst) = !true → false = v ∧ True)) ∧ ((a.snd.snd.snd.snd.snd.snd.snd.snd.fst == b.snd.snd.snd.snd.snd.snd.snd.snd.fst) = !true → false = v ∧ True)) ∧ 
  ((a.snd.snd.snd.snd.snd.snd.snd.fst == b.snd.snd.snd.snd.snd.snd.snd.fst) = !true → false = v ∧ True)) ∧ v = sameX a b ∧ True)) := by kernel_rfl
end Go.Proofs.Ytlnclaggmjhbfaa
namespace Go.Proofs.Ytlnclaggmjhbfaa
open Go.Proofs.Ytlnclaggmjhbfaa.Gx
set_option maxRecDepth 100000
set_option maxHeartbeats 4000000
set_option linter.unusedSimpArgs false
set_option linter.unusedVariables false
abbrev RegT : Type := (Int × Int × Int × Int × Int × Int × Int × Int × Int × Int × Int × Int × Int × Int × Int × Int) × Int
theorem int_eq (x y : Int) : (x == y) = sameX x y := (sameX_int x y).symm
theorem str_eq (x y : ByteArray) : (x.toList == y.toList) = sameX x y := by
  rw [Bool.eq_iff_iff, sameX_iff, ByteArray.toList_eq, ByteArray.toList_eq]
  obtain ⟨⟨x⟩⟩ := x
  obtain ⟨⟨y⟩⟩ := y
  simp
theorem ref_eq (x y : Int × Int) : (x.1 == y.1 && (x.2 == y.2 && true)) = sameX x y := by
  rw [sameX_pair, sameX_int, sameX_int, Bool.and_true]
theorem regs_eq (x y : RegT) : ((x.1.1 == y.1.1 && (x.1.2.1 == y.1.2.1 && (x.1.2.2.1 == y.1.2.2.1 && (x.1.2.2.2.1 == y.1.2.2.2.1 && (x.1.2.2.2.2.1 == y.1.2.2.2.2.1 && (x.1.2.2.2.2.2.1 == y.1.2.2.2.2.2.1 && (x.1.2.2.2.2.2.2.1 == y.1.2.2.2.2.2.2.1 && (x.1.2.2.2.2.2.2.2.1 == y.1.2.2.2.2.2.2.2.1 && (x.1.2.2.2.2.2.2.2.2.1 == y.1.2.2.2.2.2.2.2.2.1 && (x.1.2.2.2.2.2.2.2.2.2.1 == y.1.2.2.2.2.2.2.2.2.2.1 && (x.1.2.2.2.2.2.2.2.2.2.2.1 == y.1.2.2.2.2.2.2.2.2.2.2.1 && (x.1.2.2.2.2.2.2.2.2.2.2.2.1 == y.1.2.2.2.2.2.2.2.2.2.2.2.1 && (x.1.2.2.2.2.2.2.2.2.2.2.2.2.1 == y.1.2.2.2.2.2.2.2.2.2.2.2.2.1 && (x.1.2.2.2.2.2.2.2.2.2.2.2.2.2.1 == y.1.2.2.2.2.2.2.2.2.2.2.2.2.2.1 && (x.1.2.2.2.2.2.2.2.2.2.2.2.2.2.2.1 == y.1.2.2.2.2.2.2.2.2.2.2.2.2.2.2.1 && (x.1.2.2.2.2.2.2.2.2.2.2.2.2.2.2.2 == y.1.2.2.2.2.2.2.2.2.2.2.2.2.2.2.2 && true)))))))))))))))) && (x.2 == y.2 && true)) = sameX x y := by
  rw [sameX_pair x y, sameX_pair x.1 y.1, sameX_pair x.1.2 y.1.2, sameX_pair x.1.2.2 y.1.2.2, sameX_pair x.1.2.2.2 y.1.2.2.2, sameX_pair x.1.2.2.2.2 y.1.2.2.2.2, sameX_pair x.1.2.2.2.2.2 y.1.2.2.2.2.2, sameX_pair x.1.2.2.2.2.2.2 y.1.2.2.2.2.2.2, sameX_pair x.1.2.2.2.2.2.2.2 y.1.2.2.2.2.2.2.2, sameX_pair x.1.2.2.2.2.2.2.2.2 y.1.2.2.2.2.2.2.2.2, sameX_pair x.1.2.2.2.2.2.2.2.2.2 y.1.2.2.2.2.2.2.2.2.2, sameX_pair x.1.2.2.2.2.2.2.2.2.2.2 y.1.2.2.2.2.2.2.2.2.2.2, sameX_pair x.1.2.2.2.2.2.2.2.2.2.2.2 y.1.2.2.2.2.2.2.2.2.2.2.2, sameX_pair x.1.2.2.2.2.2.2.2.2.2.2.2.2 y.1.2.2.2.2.2.2.2.2.2.2.2.2, sameX_pair x.1.2.2.2.2.2.2.2.2.2.2.2.2.2 y.1.2.2.2.2.2.2.2.2.2.2.2.2.2, sameX_pair x.1.2.2.2.2.2.2.2.2.2.2.2.2.2.2 y.1.2.2.2.2.2.2.2.2.2.2.2.2.2.2]
  simp only [sameX_int, Bool.and_true]
theorem obj_eq (a b : Obj) : sameX a b = ((sameX a.1.1 b.1.1 && (sameX a.1.2.1 b.1.2.1 && (sameX a.1.2.2.1 b.1.2.2.1 && (sameX a.1.2.2.2.1 b.1.2.2.2.1 && (sameX a.1.2.2.2.2.1 b.1.2.2.2.2.1 && sameX a.1.2.2.2.2.2 b.1.2.2.2.2.2))))) &&
    (sameX a.2.1 b.2.1 && (sameX a.2.2.1 b.2.2.1 && (sameX a.2.2.2.1 b.2.2.2.1 && (sameX a.2.2.2.2.1 b.2.2.2.2.1 && (sameX a.2.2.2.2.2.1 b.2.2.2.2.2.1 && (sameX a.2.2.2.2.2.2.1 b.2.2.2.2.2.2.1 && (sameX a.2.2.2.2.2.2.2.1 b.2.2.2.2.2.2.2.1 && (sameX a.2.2.2.2.2.2.2.2.1 b.2.2.2.2.2.2.2.2.1 && (sameX a.2.2.2.2.2.2.2.2.2.1 b.2.2.2.2.2.2.2.2.2.1 && (sameX a.2.2.2.2.2.2.2.2.2.2.1 b.2.2.2.2.2.2.2.2.2.2.1 && (sameX a.2.2.2.2.2.2.2.2.2.2.2.1 b.2.2.2.2.2.2.2.2.2.2.2.1 && (sameX a.2.2.2.2.2.2.2.2.2.2.2.2.1 b.2.2.2.2.2.2.2.2.2.2.2.2.1 && sameX a.2.2.2.2.2.2.2.2.2.2.2.2.2 b.2.2.2.2.2.2.2.2.2.2.2.2.2))))))))))))) := by
  rw [sameX_pair a b, sameX_pair a.1 b.1, sameX_pair a.1.2 b.1.2, sameX_pair a.1.2.2 b.1.2.2, sameX_pair a.1.2.2.2 b.1.2.2.2, sameX_pair a.1.2.2.2.2 b.1.2.2.2.2, sameX_pair a.2 b.2, sameX_pair a.2.2 b.2.2, sameX_pair a.2.2.2 b.2.2.2, sameX_pair a.2.2.2.2 b.2.2.2.2, sameX_pair a.2.2.2.2.2 b.2.2.2.2.2, sameX_pair a.2.2.2.2.2.2 b.2.2.2.2.2.2, sameX_pair a.2.2.2.2.2.2.2 b.2.2.2.2.2.2.2, sameX_pair a.2.2.2.2.2.2.2.2 b.2.2.2.2.2.2.2.2, sameX_pair a.2.2.2.2.2.2.2.2.2 b.2.2.2.2.2.2.2.2.2, sameX_pair a.2.2.2.2.2.2.2.2.2.2 b.2.2.2.2.2.2.2.2.2.2, sameX_pair a.2.2.2.2.2.2.2.2.2.2.2 b.2.2.2.2.2.2.2.2.2.2.2, sameX_pair a.2.2.2.2.2.2.2.2.2.2.2.2 b.2.2.2.2.2.2.2.2.2.2.2.2]
theorem alike_ok : PSpecOk PP 44 (Q [objT, objT] [.bool] (fun _ => true) (fun x => (sameX x.1 x.2.1, ()))) := by
  refine pspec_Q mixed (fn := Try.f44) (c := c44) rfl rfl _ _ rfl ?_
  rintro ⟨a, b, ⟨⟩⟩ - -
  refine ⟨eP [p56, p58, p59], env_ok .., rfl, hold (alike_vc a b) ?_⟩
  simp only [true_and, and_true, Prod.eta, eq_self_iff_true]
  simp only [regs_eq]
  simp only [ref_eq, str_eq]
  simp only [int_eq]
  rw [obj_eq a b]
  generalize sameX a.1.1 b.1.1 = x1
  generalize sameX a.1.2.1 b.1.2.1 = x2
  generalize sameX a.1.2.2.1 b.1.2.2.1 = x3
  generalize sameX a.1.2.2.2.1 b.1.2.2.2.1 = x4
  generalize sameX a.1.2.2.2.2.1 b.1.2.2.2.2.1 = x5
  generalize sameX a.1.2.2.2.2.2 b.1.2.2.2.2.2 = x6
  generalize sameX a.2.1 b.2.1 = y1
  generalize sameX a.2.2.1 b.2.2.1 = y2
  generalize sameX a.2.2.2.1 b.2.2.2.1 = y3
  generalize sameX a.2.2.2.2.1 b.2.2.2.2.1 = y4
  generalize sameX a.2.2.2.2.2.1 b.2.2.2.2.2.1 = y5
  generalize sameX a.2.2.2.2.2.2.1 b.2.2.2.2.2.2.1 = y6
  generalize sameX a.2.2.2.2.2.2.2.1 b.2.2.2.2.2.2.2.1 = y7
  generalize sameX a.2.2.2.2.2.2.2.2.1 b.2.2.2.2.2.2.2.2.1 = y8
  generalize sameX a.2.2.2.2.2.2.2.2.2.1 b.2.2.2.2.2.2.2.2.2.1 = y9
  generalize sameX a.2.2.2.2.2.2.2.2.2.2.1 b.2.2.2.2.2.2.2.2.2.2.1 = z1
  generalize sameX a.2.2.2.2.2.2.2.2.2.2.2.1 b.2.2.2.2.2.2.2.2.2.2.2.1 = z2
  generalize sameX a.2.2.2.2.2.2.2.2.2.2.2.2.1 b.2.2.2.2.2.2.2.2.2.2.2.2.1 = z3
  generalize sameX a.2.2.2.2.2.2.2.2.2.2.2.2.2 b.2.2.2.2.2.2.2.2.2.2.2.2.2 = z4
  refine ⟨(x1 && (x2 && (x3 && (x4 && (x5 && x6))))), ?_, fun h1 => ⟨fun h3 => ⟨(y2 && (y4 && (y5 && (y6 && (y7 && (y8 && (y9 && (z1 && (z3 && z4))))))))), ?_, _, ?_, rfl⟩, fun h3 => ⟨(y2 && (y4 && (y5 && (y6 && (y7 && (y8 && (y9 && (z1 && (z3 && z4))))))))), ?_, _, ?_, rfl⟩⟩, fun h1 => ⟨(y2 && (y4 && (y5 && (y6 && (y7 && (y8 && (y9 && (z1 && (z3 && z4))))))))), ?_, _, ?_, rfl⟩⟩
  · cases x1 with
    | false => simp
    | true =>
     cases x2 with
     | false => simp
     | true =>
      cases x3 with
      | false => simp
      | true =>
       cases x4 with
       | false => simp
       | true =>
        cases x5 with
        | false => simp
        | true =>
         cases x6 with
         | false => simp
         | true =>
          simp
  · cases y2 with
    | false => simp
    | true =>
     cases y4 with
     | false => simp
     | true =>
      cases y5 with
      | false => simp
      | true =>
       cases y6 with
       | false => simp
       | true =>
        cases y7 with
        | false => simp
        | true =>
         cases y8 with
         | false => simp
         | true =>
          cases y9 with
          | false => simp
          | true =>
           cases z1 with
           | false => simp
           | true =>
            cases z3 with
            | false => simp
            | true =>
             cases z4 with
             | false => simp
             | true =>
              simp
  · subst h1; subst h3
    cases x1 with
    | false => simp
    | true =>
     cases x2 with
     | false => simp
     | true =>
      cases x3 with
      | false => simp
      | true =>
       cases x4 with
       | false => simp
       | true =>
        cases x5 with
        | false => simp
        | true =>
         cases x6 with
         | false => simp
         | true =>
          cases z2 with
          | false => simp
          | true =>
           cases y2 with
           | false => simp
           | true =>
            cases y4 with
            | false => simp
            | true =>
             cases y5 with
             | false => simp
             | true =>
              cases y6 with
              | false => simp
              | true =>
               cases y7 with
               | false => simp
               | true =>
                cases y8 with
                | false => simp
                | true =>
                 cases y9 with
                 | false => simp
                 | true =>
                  cases z1 with
                  | false => simp
                  | true =>
                   cases z3 with
                   | false => simp
                   | true =>
                    cases z4 with
                    | false => simp
                    | true =>
                     simp
  · cases y2 with
    | false => simp
    | true =>
     cases y4 with
     | false => simp
     | true =>
      cases y5 with
      | false => simp
      | true =>
       cases y6 with
       | false => simp
       | true =>
        cases y7 with
        | false => simp
        | true =>
         cases y8 with
         | false => simp
         | true =>
          cases y9 with
          | false => simp
          | true =>
           cases z1 with
           | false => simp
           | true =>
            cases z3 with
            | false => simp
            | true =>
             cases z4 with
             | false => simp
             | true =>
              simp
  · subst h1; subst h3
    cases x1 with
    | false => simp
    | true =>
     cases x2 with
     | false => simp
     | true =>
      cases x3 with
      | false => simp
      | true =>
       cases x4 with
       | false => simp
       | true =>
        cases x5 with
        | false => simp
        | true =>
         cases x6 with
         | false => simp
         | true =>
          cases z2 with
          | false => simp
          | true =>
           cases y2 with
           | false => simp
           | true =>
            cases y4 with
            | false => simp
            | true =>
             cases y5 with
             | false => simp
             | true =>
              cases y6 with
              | false => simp
              | true =>
               cases y7 with
               | false => simp
               | true =>
                cases y8 with
                | false => simp
                | true =>
                 cases y9 with
                 | false => simp
                 | true =>
                  cases z1 with
                  | false => simp
                  | true =>
                   cases z3 with
                   | false => simp
                   | true =>
                    cases z4 with
                    | false => simp
                    | true =>
                     simp
  · cases y2 with
    | false => simp
    | true =>
     cases y4 with
     | false => simp
     | true =>
      cases y5 with
      | false => simp
      | true =>
       cases y6 with
       | false => simp
       | true =>
        cases y7 with
        | false => simp
        | true =>
         cases y8 with
         | false => simp
         | true =>
          cases y9 with
          | false => simp
          | true =>
           cases z1 with
           | false => simp
           | true =>
            cases z3 with
            | false => simp
            | true =>
             cases z4 with
             | false => simp
             | true =>
              simp
  · subst h1
    cases x1 with
    | false => simp
    | true =>
     cases x2 with
     | false => simp
     | true =>
      cases x3 with
      | false => simp
      | true =>
       cases x4 with
       | false => simp
       | true =>
        cases x5 with
        | false => simp
        | true =>
         cases x6 with
         | false => simp
         | true =>
          cases z2 with
          | false => simp
          | true =>
           cases y2 with
           | false => simp
           | true =>
            cases y4 with
            | false => simp
            | true =>
             cases y5 with
             | false => simp
             | true =>
              cases y6 with
              | false => simp
              | true =>
               cases y7 with
               | false => simp
               | true =>
                cases y8 with
                | false => simp
                | true =>
                 cases y9 with
                 | false => simp
                 | true =>
                  cases z1 with
                  | false => simp
                  | true =>
                   cases z3 with
                   | false => simp
                   | true =>
                    cases z4 with
                    | false => simp
                    | true =>
                     simp
noncomputable def p44 : Pv PP := ⟨44, _, ⟨rfl, alike_ok⟩⟩
theorem obj_eq2 (a b : Obj) : sameX a b = (sameX a.1 b.1 && (sameX a.2.1 b.2.1 && (sameX a.2.2.1 b.2.2.1 && (sameX a.2.2.2.1 b.2.2.2.1 && (sameX a.2.2.2.2.1 b.2.2.2.2.1 && (sameX a.2.2.2.2.2.1 b.2.2.2.2.2.1 && (sameX a.2.2.2.2.2.2.1 b.2.2.2.2.2.2.1 && (sameX a.2.2.2.2.2.2.2.1 b.2.2.2.2.2.2.2.1 && (sameX a.2.2.2.2.2.2.2.2.1 b.2.2.2.2.2.2.2.2.1 && (sameX a.2.2.2.2.2.2.2.2.2.1 b.2.2.2.2.2.2.2.2.2.1 && (sameX a.2.2.2.2.2.2.2.2.2.2.1 b.2.2.2.2.2.2.2.2.2.2.1 && (sameX a.2.2.2.2.2.2.2.2.2.2.2.1 b.2.2.2.2.2.2.2.2.2.2.2.1 && (sameX a.2.2.2.2.2.2.2.2.2.2.2.2.1 b.2.2.2.2.2.2.2.2.2.2.2.2.1 && sameX a.2.2.2.2.2.2.2.2.2.2.2.2.2 b.2.2.2.2.2.2.2.2.2.2.2.2.2))))))))))))) := by
  rw [sameX_pair a b, sameX_pair a.2 b.2, sameX_pair a.2.2 b.2.2, sameX_pair a.2.2.2 b.2.2.2, sameX_pair a.2.2.2.2 b.2.2.2.2, sameX_pair a.2.2.2.2.2 b.2.2.2.2.2, sameX_pair a.2.2.2.2.2.2 b.2.2.2.2.2.2, sameX_pair a.2.2.2.2.2.2.2 b.2.2.2.2.2.2.2, sameX_pair a.2.2.2.2.2.2.2.2 b.2.2.2.2.2.2.2.2, sameX_pair a.2.2.2.2.2.2.2.2.2 b.2.2.2.2.2.2.2.2.2, sameX_pair a.2.2.2.2.2.2.2.2.2.2 b.2.2.2.2.2.2.2.2.2.2, sameX_pair a.2.2.2.2.2.2.2.2.2.2.2 b.2.2.2.2.2.2.2.2.2.2.2, sameX_pair a.2.2.2.2.2.2.2.2.2.2.2.2 b.2.2.2.2.2.2.2.2.2.2.2.2]
theorem sameI_eq (x y : List Int) : sameI x y = sameX x y := by
  rw [Bool.eq_iff_iff, sameX_iff]; simp [sameI]
theorem sameO_ok : PSpecOk PP 25 (Q [objT, objT] [.bool] (fun _ => true) (fun x => (sameX x.1 x.2.1, ()))) := by
  refine pspec_Q mixed (fn := Try.f25) (c := c25) rfl rfl _ _ rfl ?_
  rintro ⟨a, b, ⟨⟩⟩ - -
  refine ⟨eP [p20, p40, p41, p42], env_ok .., rfl, hold (sameO_vc a b) ?_⟩
  simp only [true_and, and_true, Prod.eta, eq_self_iff_true]
  simp only [regs_eq]
  simp only [ref_eq, str_eq]
  simp only [int_eq]
  rw [obj_eq2 a b]
  simp only [sameI_eq]
  generalize sameX a.1 b.1 = i
  generalize sameX a.2.1 b.2.1 = y1
  generalize sameX a.2.2.1 b.2.2.1 = y2
  generalize sameX a.2.2.2.1 b.2.2.2.1 = y3
  generalize sameX a.2.2.2.2.1 b.2.2.2.2.1 = y4
  generalize sameX a.2.2.2.2.2.1 b.2.2.2.2.2.1 = y5
  generalize sameX a.2.2.2.2.2.2.1 b.2.2.2.2.2.2.1 = y6
  generalize sameX a.2.2.2.2.2.2.2.1 b.2.2.2.2.2.2.2.1 = y7
  generalize sameX a.2.2.2.2.2.2.2.2.1 b.2.2.2.2.2.2.2.2.1 = y8
  generalize sameX a.2.2.2.2.2.2.2.2.2.1 b.2.2.2.2.2.2.2.2.2.1 = y9
  generalize sameX a.2.2.2.2.2.2.2.2.2.2.1 b.2.2.2.2.2.2.2.2.2.2.1 = z1
  generalize sameX a.2.2.2.2.2.2.2.2.2.2.2.1 b.2.2.2.2.2.2.2.2.2.2.2.1 = z2
  generalize sameX a.2.2.2.2.2.2.2.2.2.2.2.2.1 b.2.2.2.2.2.2.2.2.2.2.2.2.1 = z3
  generalize sameX a.2.2.2.2.2.2.2.2.2.2.2.2.2 b.2.2.2.2.2.2.2.2.2.2.2.2.2 = z4
  refine ⟨!(i && (y1 && (y2 && (y3 && (y4 && (y5 && y6)))))), ?_, ?_, fun hv => ⟨(y7 && (y8 && (y9 && (z1 && (z2 && (z3 && z4)))))), ?_, ?_⟩⟩
  · cases i with
    | false => simp
    | true =>
     cases y1 with
     | false => simp
     | true =>
      cases y2 with
      | false => simp
      | true =>
       cases y3 with
       | false => simp
       | true =>
        cases y4 with
        | false => simp
        | true =>
         cases y5 with
         | false => simp
         | true =>
          cases y6 with
          | false => simp
          | true =>
           simp
  · cases i with
    | false => simp
    | true =>
     cases y1 with
     | false => simp
     | true =>
      cases y2 with
      | false => simp
      | true =>
       cases y3 with
       | false => simp
       | true =>
        cases y4 with
        | false => simp
        | true =>
         cases y5 with
         | false => simp
         | true =>
          cases y6 with
          | false => simp
          | true =>
           simp
  · clear hv
    cases y7 with
    | false => simp
    | true =>
     cases y8 with
     | false => simp
     | true =>
      cases y9 with
      | false => simp
      | true =>
       cases z1 with
       | false => simp
       | true =>
        cases z2 with
        | false => simp
        | true =>
         cases z3 with
         | false => simp
         | true =>
          cases z4 with
          | false => simp
          | true =>
           simp
  · revert hv
    cases i with
    | false => simp
    | true =>
     cases y1 with
     | false => simp
     | true =>
      cases y2 with
      | false => simp
      | true =>
       cases y3 with
       | false => simp
       | true =>
        cases y4 with
        | false => simp
        | true =>
         cases y5 with
         | false => simp
         | true =>
          cases y6 with
          | false => simp
          | true =>
           simp
noncomputable def p25 : Pv PP := ⟨25, _, ⟨rfl, sameO_ok⟩⟩
end Go.Proofs.Ytlnclaggmjhbfaa
namespace Go.Proofs.Ytlnclaggmjhbfaa
open Go.Proofs.Ytlnclaggmjhbfaa.Gx
set_option maxRecDepth 100000
set_option linter.unusedVariables false
set_option maxHeartbeats 0
noncomputable def c6 : Code := Try.f6.body.getD .skip
def before (va vb : List Int) (i k : Nat) : Prop := k ≤ vb.length ∧ ∀ (j : Nat) (x y : Int), j < k → vb[j]? = some x → va[i]? = some y → x < y
def moreLoop (va vb : List Int) : List (Nat × (St → Option LoopSpec)) :=
  [(9, fun _ => some { α := Nat × Nat, inv := fun x => x.1 ≤ va.length ∧ before va vb x.1 x.2, ov := fun x => [(48, .int .i64 (x.1 : Int)), (11, .int .i64 (x.2 : Int))], rov := fun _ => [], meas := fun x => va.length - x.1 }),
   (11, fun (S : St) => match getT S.fr.tm 48 with
      | .int _ i => some { α := Nat, inv := fun k => before va vb i.toNat k, ov := fun k => [(11, .int .i64 (k : Int))], rov := fun _ => [], meas := fun k => vb.length - k }
      | _ => none)]
theorem more_vc (d : List Obj) (root : Int) (l m : Lab) : fvc PP (env PP [p8, p9, p14, p24, p19, p25] [] [] [] (moreLoop (visL d root l) (visL d root m))) Try.f6 c6 (ofArgs [.slice objT, i64, .pair lab lab] (d, root, (l, m), ())) St0 (gives [.bool] (true, ())) = (
  true = true ∧ ((!true) = true → false = true ∧ True) ∧ ((!true) = false → ((0 : Int) ≤ (0 : Int) ∧ (0 : Int) < (↑(2 : Nat) : Int)) ∧ ((0 : Int) ≤ (1 : Int) ∧ (1 : Int) < (↑(2 : Nat) : Int)) ∧ true = true ∧ ((!fewD d) = 
  false → true = true ∧ ((!freeL (l.fst, l.snd)) = false → true = true ∧ ((!freeL (m.fst, m.snd)) = false → (sml (l.fst, l.snd) && sml (m.fst, m.snd)) = true ∧ ((!leqN (l.fst, l.snd) (m.fst, m.snd)) = true → true = true 
  ∧ True) ∧ ((!leqN (l.fst, l.snd) (m.fst, m.snd)) = false → seeB d = true ∧ seeB d = true ∧ ((seeL d root (l.fst, l.snd)).length ≤ maxLen → ∃ (x0 : Nat × Nat), (x0.fst ≤ (visL d root l).length ∧ x0.snd ≤ (visL d root 
  m).length ∧ ∀ (j : Nat) (x y : Int), j < x0.snd → (visL d root m)[j]? = some x → (visL d root l)[x0.fst]? = some y → x < y) ∧ ((True ∧ True) ∧ ((0 : Int) = (↑x0.fst : Int) ∧ (0 : Int) = (↑x0.snd : Int) ∧ (↑(seeL d root 
  (l.fst, l.snd)).length : Int) = (↑(seeL d root (l.fst, l.snd)).length : Int) ∧ seeL d root (m.fst, m.snd) = seeL d root (m.fst, m.snd) ∧ seeL d root (l.fst, l.snd) = seeL d root (l.fst, l.snd) ∧ false = false ∧ True ∧ 
  True ∧ false = false ∧ True ∧ d = d ∧ root = root ∧ (l.fst = l.fst ∧ l.snd = l.snd ∧ m.fst = m.fst ∧ m.snd = m.snd ∧ True) ∧ True) ∧ (l.fst = l.fst ∧ l.snd = l.snd ∧ m.fst = m.fst ∧ m.snd = m.snd ∧ True) ∧ True ∧ True 
  ∧ True ∧ True ∧ (l.fst = l.fst ∧ l.snd = l.snd ∧ True) ∧ (m.fst = m.fst ∧ m.snd = m.snd ∧ True) ∧ True ∧ True ∧ True) ∧ ∀ (x : Nat × Nat), (x.fst ≤ (visL d root l).length ∧ x.snd ≤ (visL d root m).length ∧ ∀ (j : Nat) 
  (x_1 y : Int), j < x.snd → (visL d root m)[j]? = some x_1 → (visL d root l)[x.fst]? = some y → x_1 < y) → (decide ((↑x.fst : Int) < (↑(seeL d root (l.fst, l.snd)).length : Int)) = true → ∃ (x0 : Nat), (x0 ≤ (visL d 
  root m).length ∧ ∀ (j : Nat) (x_1 y : Int), j < x0 → (visL d root m)[j]? = some x_1 → (visL d root l)[(↑x.fst : Int).toNat]? = some y → x_1 < y) ∧ ((True ∧ True) ∧ ((↑x.snd : Int) = (↑x0 : Int) ∧ (↑x.fst : Int) = 
  (↑x.fst : Int) ∧ true = true ∧ (↑x.fst : Int) = (↑x.fst : Int) ∧ (↑(seeL d root (l.fst, l.snd)).length : Int) = (↑(seeL d root (l.fst, l.snd)).length : Int) ∧ seeL d root (m.fst, m.snd) = seeL d root (m.fst, m.snd) ∧ 
  seeL d root (l.fst, l.snd) = seeL d root (l.fst, l.snd) ∧ false = false ∧ True ∧ True ∧ false = false ∧ True ∧ d = d ∧ root = root ∧ (l.fst = l.fst ∧ l.snd = l.snd ∧ m.fst = m.fst ∧ m.snd = m.snd ∧ True) ∧ True) ∧ 
  (l.fst = l.fst ∧ l.snd = l.snd ∧ m.fst = m.fst ∧ m.snd = m.snd ∧ True) ∧ True ∧ True ∧ True ∧ True ∧ (l.fst = l.fst ∧ l.snd = l.snd ∧ True) ∧ (m.fst = m.fst ∧ m.snd = m.snd ∧ True) ∧ True ∧ True ∧ True) ∧ ∀ (x_1 : 
  Nat), (x_1 ≤ (visL d root m).length ∧ ∀ (j : Nat) (x_2 y : Int), j < x_1 → (visL d root m)[j]? = some x_2 → (visL d root l)[(↑x.fst : Int).toNat]? = some y → x_2 < y) → ∃ (v : Bool), ((decide ((↑x_1 : Int) < (↑(seeL d 
  root (m.fst, m.snd)).length : Int)) = true → ((0 : Int) ≤ (↑x_1 : Int) ∧ (↑x_1 : Int) < (↑(seeL d root (m.fst, m.snd)).length : Int)) ∧ ∀ (y : (Int × Int × Int × Int × Int × Int × List (Int × Int)) × List Int × 
  ByteArray × List (Int × Int × Int × Int × Int × Bool × Bool) × (Int × List (Int × Int)) × (Int × Int) × ((Int × Int × Int × Int × Int × Int × Int × Int × Int × Int × Int × Int × Int × Int × Int × Int) × Int) × Int × 
  Int × Int × Int × List Int × ByteArray × ByteArray), (seeL d root (m.fst, m.snd))[(↑x_1 : Int).toNat]? = some y → ((0 : Int) ≤ (↑x.fst : Int) ∧ (↑x.fst : Int) < (↑(seeL d root (l.fst, l.snd)).length : Int)) ∧ ∀ (y_1 : 
  (Int × Int × Int × Int × Int × Int × List (Int × Int)) × List Int × ByteArray × List (Int × Int × Int × Int × Int × Bool × Bool) × (Int × List (Int × Int)) × (Int × Int) × ((Int × Int × Int × Int × Int × Int × Int × 
  Int × Int × Int × Int × Int × Int × Int × Int × Int) × Int) × Int × Int × Int × Int × List Int × ByteArray × ByteArray), (seeL d root (l.fst, l.snd))[(↑x.fst : Int).toNat]? = some y_1 → decide (y.fst.fst < y_1.fst.fst) 
  = v) ∧ (decide ((↑x_1 : Int) < (↑(seeL d root (m.fst, m.snd)).length : Int)) = !true → false = v)) ∧ (v = true → ∃ (x' : Nat), (x' ≤ (visL d root m).length ∧ ∀ (j : Nat) (x_2 y : Int), j < x' → (visL d root m)[j]? = 
  some x_2 → (visL d root l)[(↑x.fst : Int).toNat]? = some y → x_2 < y) ∧ (visL d root m).length - x' < (visL d root m).length - x_1 ∧ (True ∧ True) ∧ (IntKind.i64.wrap ((↑x_1 : Int) + (1 : Int)) = (↑x' : Int) ∧ (↑x.fst 
  : Int) = (↑x.fst : Int) ∧ true = true ∧ (↑x.fst : Int) = (↑x.fst : Int) ∧ (↑(seeL d root (l.fst, l.snd)).length : Int) = (↑(seeL d root (l.fst, l.snd)).length : Int) ∧ seeL d root (m.fst, m.snd) = seeL d root (m.fst, 
  m.snd) ∧ seeL d root (l.fst, l.snd) = seeL d root (l.fst, l.snd) ∧ false = false ∧ True ∧ True ∧ false = false ∧ True ∧ d = d ∧ root = root ∧ (l.fst = l.fst ∧ l.snd = l.snd ∧ m.fst = m.fst ∧ m.snd = m.snd ∧ True) ∧ 
  True) ∧ (l.fst = l.fst ∧ l.snd = l.snd ∧ m.fst = m.fst ∧ m.snd = m.snd ∧ True) ∧ True ∧ True ∧ True ∧ True ∧ (l.fst = l.fst ∧ l.snd = l.snd ∧ True) ∧ (m.fst = m.fst ∧ m.snd = m.snd ∧ True) ∧ True ∧ True ∧ True) ∧ (v = 
  false → ∃ (v : Bool), ((decide ((↑x_1 : Int) ≥ (↑(seeL d root (m.fst, m.snd)).length : Int)) = false → ((0 : Int) ≤ (↑x.fst : Int) ∧ (↑x.fst : Int) < (↑(seeL d root (l.fst, l.snd)).length : Int)) ∧ ∀ (y : (Int × Int × 
  Int × Int × Int × Int × List (Int × Int)) × List Int × ByteArray × List (Int × Int × Int × Int × Int × Bool × Bool) × (Int × List (Int × Int)) × (Int × Int) × ((Int × Int × Int × Int × Int × Int × Int × Int × Int × Int 
  × Int × Int × Int × Int × Int × Int) × Int) × Int × Int × Int × Int × List Int × ByteArray × ByteArray), (seeL d root (l.fst, l.snd))[(↑x.fst : Int).toNat]? = some y → ((0 : Int) ≤ (↑x_1 : Int) ∧ (↑x_1 : Int) < (↑(seeL 
  d root (m.fst, m.snd)).length : Int)) ∧ ∀ (y_1 : (Int × Int × Int × Int × Int × Int × List (Int × Int)) × List Int × ByteArray × List (Int × Int × Int × Int × Int × Bool × Bool) × (Int × List (Int × Int)) × (Int × Int) 
  × ((Int × Int × Int × Int × Int × Int × Int × Int × Int × Int × Int × Int × Int × Int × Int × Int) × Int) × Int × Int × Int × Int × List Int × ByteArray × ByteArray), (seeL d root (m.fst, m.snd))[(↑x_1 : Int).toNat]? = 
  some y_1 → true = true ∧ (!sameX ((y.fst.fst, y.fst.snd.fst, y.fst.snd.snd.fst, y.fst.snd.snd.snd.fst, y.fst.snd.snd.snd.snd.fst, y.fst.snd.snd.snd.snd.snd.fst, y.fst.snd.snd.snd.snd.snd.snd), y.snd.fst, y.snd.snd.fst, 
  y.snd.snd.snd.fst, (y.snd.snd.snd.snd.fst.fst, y.snd.snd.snd.snd.fst.snd), (y.snd.snd.snd.snd.snd.fst.fst, y.snd.snd.snd.snd.snd.fst.snd), ((y.snd.snd.snd.snd.snd.snd.fst.fst.fst, 
  y.snd.snd.snd.snd.snd.snd.fst.fst.snd.fst, y.snd.snd.snd.snd.snd.snd.fst.fst.snd.snd.fst, y.snd.snd.snd.snd.snd.snd.fst.fst.snd.snd.snd.fst, y.snd.snd.snd.snd.snd.snd.fst.fst.snd.snd.snd.snd.fst, 
  y.snd.snd.snd.snd.snd.snd.fst.fst.snd.snd.snd.snd.snd.fst, y.snd.snd.snd.snd.snd.snd.fst.fst.snd.snd.snd.snd.snd.snd.fst, y.snd.snd.snd.snd.snd.snd.fst.fst.snd.snd.snd.snd.snd.snd.snd.fst, 
  y.snd.snd.snd.snd.snd.snd.fst.fst.snd.snd.snd.snd.snd.snd.snd.snd.fst, y.snd.snd.snd.snd.snd.snd.fst.fst.snd.snd.snd.snd.snd.snd.snd.snd.snd.fst, 
  y.snd.snd.snd.snd.snd.snd.fst.fst.snd.snd.snd.snd.snd.snd.snd.snd.snd.snd.fst, y.snd.snd.snd.snd.snd.snd.fst.fst.snd.snd.snd.snd.snd.snd.snd.snd.snd.snd.snd.fst, 
  y.snd.snd.snd.snd.snd.snd.fst.fst.snd.snd.snd.snd.snd.snd.snd.snd.snd.snd.snd.snd.fst, y.snd.snd.snd.snd.snd.snd.fst.fst.snd.snd.snd.snd.snd.snd.snd.snd.snd.snd.snd.snd.snd.fst, 
  y.snd.snd.snd.snd.snd.snd.fst.fst.snd.snd.snd.snd.snd.snd.snd.snd.snd.snd.snd.snd.snd.snd.fst, y.snd.snd.snd.snd.snd.snd.fst.fst.snd.snd.snd.snd.snd.snd.snd.snd.snd.snd.snd.snd.snd.snd.snd), 
  y.snd.snd.snd.snd.snd.snd.fst.snd), y.snd.snd.snd.snd.snd.snd.snd.fst, y.snd.snd.snd.snd.snd.snd.snd.snd.fst, y.snd.snd.snd.snd.snd.snd.snd.snd.snd.fst, y.snd.snd.snd.snd.snd.snd.snd.snd.snd.snd.fst, 
  y.snd.snd.snd.snd.snd.snd.snd.snd.snd.snd.snd.fst, y.snd.snd.snd.snd.snd.snd.snd.snd.snd.snd.snd.snd.fst, y.snd.snd.snd.snd.snd.snd.snd.snd.snd.snd.snd.snd.snd) ((y_1.fst.fst, y_1.fst.snd.fst, y_1.fst.snd.snd.fst, 
  y_1.fst.snd.snd.snd.fst, y_1.fst.snd.snd.snd.snd.fst, y_1.fst.snd.snd.snd.snd.snd.fst, y_1.fst.snd.snd.snd.snd.snd.snd), y_1.snd.fst, y_1.snd.snd.fst, y_1.snd.snd.snd.fst, (y_1.snd.snd.snd.snd.fst.fst, 
  y_1.snd.snd.snd.snd.fst.snd), (y_1.snd.snd.snd.snd.snd.fst.fst, y_1.snd.snd.snd.snd.snd.fst.snd), ((y_1.snd.snd.snd.snd.snd.snd.fst.fst.fst, y_1.snd.snd.snd.snd.snd.snd.fst.fst.snd.fst, 
  y_1.snd.snd.snd.snd.snd.snd.fst.fst.snd.snd.fst, y_1.snd.snd.snd.snd.snd.snd.fst.fst.snd.snd.snd.fst, y_1.snd.snd.snd.snd.snd.snd.fst.fst.snd.snd.snd.snd.fst, 
  y_1.snd.snd.snd.snd.snd.snd.fst.fst.snd.snd.snd.snd.snd.fst, y_1.snd.snd.snd.snd.snd.snd.fst.fst.snd.snd.snd.snd.snd.snd.fst, y_1.snd.snd.snd.snd.snd.snd.fst.fst.snd.snd.snd.snd.snd.snd.snd.fst, 
  y_1.snd.snd.snd.snd.snd.snd.fst.fst.snd.snd.snd.snd.snd.snd.snd.snd.fst, y_1.snd.snd.snd.snd.snd.snd.fst.fst.snd.snd.snd.snd.snd.snd.snd.snd.snd.fst, 
  y_1.snd.snd.snd.snd.snd.snd.fst.fst.snd.snd.snd.snd.snd.snd.snd.snd.snd.snd.fst, y_1.snd.snd.snd.snd.snd.snd.fst.fst.snd.snd.snd.snd.snd.snd.snd.snd.snd.snd.snd.fst, 
  y_1.snd.snd.snd.snd.snd.snd.fst.fst.snd.snd.snd.snd.snd.snd.snd.snd.snd.snd.snd.snd.fst, y_1.snd.snd.snd.snd.snd.snd.fst.fst.snd.snd.snd.snd.snd.snd.snd.snd.snd.snd.snd.snd.snd.fst, 
  y_1.snd.snd.snd.snd.snd.snd.fst.fst.snd.snd.snd.snd.snd.snd.snd.snd.snd.snd.snd.snd.snd.snd.fst, y_1.snd.snd.snd.snd.snd.snd.fst.fst.snd.snd.snd.snd.snd.snd.snd.snd.snd.snd.snd.snd.snd.snd.snd), 
  y_1.snd.snd.snd.snd.snd.snd.fst.snd), y_1.snd.snd.snd.snd.snd.snd.snd.fst, y_1.snd.snd.snd.snd.snd.snd.snd.snd.fst, y_1.snd.snd.snd.snd.snd.snd.snd.snd.snd.fst, y_1.snd.snd.snd.snd.snd.snd.snd.snd.snd.snd.fst, 
  y_1.snd.snd.snd.snd.snd.snd.snd.snd.snd.snd.snd.fst, y_1.snd.snd.snd.snd.snd.snd.snd.snd.snd.snd.snd.snd.fst, y_1.snd.snd.snd.snd.snd.snd.snd.snd.snd.snd.snd.snd.snd)) = v) ∧ (decide ((↑x_1 : Int) ≥ (↑(seeL d root 
  (m.fst, m.snd)).length : Int)) = !false → true = v)) ∧ (v = true → false = true ∧ True) ∧ (v = false → ∃ (x' : Nat × Nat), (x'.fst ≤ (visL d root l).length ∧ x'.snd ≤ (visL d root m).length ∧ ∀ (j : Nat) (x y : Int), j 
  < x'.snd → (visL d root m)[j]? = some x → (visL d root l)[x'.fst]? = some y → x < y) ∧ (visL d root l).length - x'.fst < (visL d root l).length - x.fst ∧ (True ∧ True) ∧ (IntKind.i64.wrap ((↑x.fst : Int) + (1 : Int)) = 
  (↑x'.fst : Int) ∧ (↑x_1 : Int) = (↑x'.snd : Int) ∧ (↑(seeL d root (l.fst, l.snd)).length : Int) = (↑(seeL d root (l.fst, l.snd)).length : Int) ∧ seeL d root (m.fst, m.snd) = seeL d root (m.fst, m.snd) ∧ seeL d root 
  (l.fst, l.snd) = seeL d root (l.fst, l.snd) ∧ false = false ∧ True ∧ True ∧ false = false ∧ True ∧ d = d ∧ root = root ∧ (l.fst = l.fst ∧ l.snd = l.snd ∧ m.fst = m.fst ∧ m.snd = m.snd ∧ True) ∧ True) ∧ (l.fst = l.fst ∧ 
  l.snd = l.snd ∧ m.fst = m.fst ∧ m.snd = m.snd ∧ True) ∧ True ∧ True ∧ True ∧ True ∧ (l.fst = l.fst ∧ l.snd = l.snd ∧ True) ∧ (m.fst = m.fst ∧ m.snd = m.snd ∧ True) ∧ True ∧ True ∧ True))) ∧ (decide ((↑x.fst : Int) < 
  (↑(seeL d root (l.fst, l.snd)).length : Int)) = false → (seeL d root (l.fst, l.snd)).length ≤ maxLen → (seeL d root (m.fst, m.snd)).length ≤ maxLen → decide ((↑(seeL d root (l.fst, l.snd)).length : Int) ≤ (↑(seeL d 
  root (m.fst, m.snd)).length : Int)) = true ∧ True)))) ∧ ((!freeL (m.fst, m.snd)) = !false → true = true ∧ True)) ∧ ((!freeL (l.fst, l.snd)) = !false → true = true ∧ True)) ∧ ((!fewD d) = !false → true = true ∧ True))) := by kernel_rfl
end Go.Proofs.Ytlnclaggmjhbfaa
namespace Go.Proofs.Ytlnclaggmjhbfaa
open Go.Proofs.Ytlnclaggmjhbfaa.Gx
set_option maxRecDepth 100000
set_option maxHeartbeats 4000000
set_option linter.unusedSimpArgs false
set_option linter.unusedVariables false
def zO : Obj := exO 0 0 (0, []) []
theorem flat_map {d : List Obj} : (ids : List Int) → (∀ id ∈ ids, ∃ o, first d id = some o) → ids.flatMap (seeAt d) = ids.map fun id => cpO ((first d id).getD zO)
  | [], _ => rfl
  | id :: ids, h => by
    obtain ⟨o, ho⟩ := h id (by simp)
    rw [List.flatMap_cons, flat_map ids (fun i hi => h i (by simp [hi])), List.map_cons, seeAt, ho]
    rfl
theorem see_map (d : List Obj) (root : Int) (l : Lab) : seeL d root l = (visL d root l).map fun id => cpO ((first d id).getD zO) :=
  flat_map _ (fun id hid => by obtain ⟨o, ho, _⟩ := vis_first (seen_vis hid); exact ⟨o, ho⟩)
theorem see_len (d : List Obj) (root : Int) (l : Lab) : (seeL d root l).length = (visL d root l).length := by
  rw [see_map, List.length_map]
theorem see_at {d : List Obj} {root : Int} {l : Lab} {i : Nat} {y : Obj} (h : (seeL d root l)[i]? = some y) : ∃ id o, (visL d root l)[i]? = some id ∧ first d id = some o ∧ y = cpO o ∧ oid y = id := by
  rw [see_map, List.getElem?_map] at h
  obtain ⟨id, hid, rfl⟩ := Option.map_eq_some_iff.1 h
  obtain ⟨o, ho, _⟩ := vis_first (seen_vis (List.mem_of_getElem? hid))
  refine ⟨id, o, hid, ho, by rw [ho]; rfl, ?_⟩
  rw [ho]
  exact (first_mem ho).2
theorem okP_mono {x y z : Int} (h : okP (x, y) = true) (hyz : y ≤ z) : okP (x, z) = true := by
  simp only [okP, Bool.not_eq_true', Bool.or_eq_false_iff, Bool.and_eq_false_iff, decide_eq_false_iff_not, beq_eq_false_iff_ne] at h ⊢
  refine ⟨by omega, ?_⟩
  rcases h.2 with h2 | h2
  · exact .inl h2
  · exact .inr (by omega)
theorem low_all {l ol : Lab} (hl : rightL l = true) (ho : rightL ol = true) : lowV l ol = true ↔ ∀ c, okP (atL ol c, atL l c) = true := by
  constructor
  · intro h c
    simp only [lowV, Bool.and_eq_true, List.all_eq_true, prs, List.mem_map] at h
    obtain ⟨h1, h2, h3⟩ := h
    by_cases ha : ∃ x ∈ ol.2, x.1 = c
    · obtain ⟨x, hx, rfl⟩ := ha; exact h1 _ ⟨x, hx, rfl⟩
    · by_cases hb : ∃ x ∈ l.2, x.1 = c
      · obtain ⟨x, hx, rfl⟩ := hb; exact h2 _ ⟨x, hx, rfl⟩
      · rw [show atL ol c = ol.1 from at_not _ (fun x hx e => ha ⟨x, hx, e⟩), show atL l c = l.1 from at_not _ (fun x hx e => hb ⟨x, hx, e⟩)]
        exact h3
  · intro h
    simp only [lowV, Bool.and_eq_true, List.all_eq_true, prs, List.mem_map]
    refine ⟨?_, ?_, ?_⟩
    · rintro _ ⟨x, hx, rfl⟩; exact h _
    · rintro _ ⟨x, hx, rfl⟩; exact h _
    · have := h 0
      have e1 : atL ol 0 = ol.1 := at_not _ (fun x hx e => by have := (right_mem ho x hx).2.1; rw [e] at this; exact absurd this (by decide))
      have e2 : atL l 0 = l.1 := at_not _ (fun x hx e => by have := (right_mem hl x hx).2.1; rw [e] at this; exact absurd this (by decide))
      rwa [e1, e2] at this
theorem ok_mono {l m : Lab} {o : Obj} (hl : rightL l = true) (hm : rightL m = true) (h : leqA l m) (ho : okO l o = true) : okO m o = true := by
  simp only [okO, Bool.and_eq_true] at ho ⊢
  refine ⟨ho.1, ?_⟩
  have hr := plain_right ho.1
  rw [low_all hm hr]
  exact fun c => okP_mono ((low_all hl hr).1 ho.2 c) (h.2 c)
theorem vis_mono {d : List Obj} {root : Int} {l m : Lab} (hl : rightL l = true) (hm : rightL m = true) (h : leqA l m) {id : Int} (hv : Vis d root l id) : Vis d root m id := by
  induction hv with
  | root o h1 h2 => exact .root o h1 (ok_mono hl hm h h2)
  | step i o x o' _ h1 hk hx h3 h4 ih => exact .step i o x o' ih h1 hk hx h3 (ok_mono hl hm h h4)
theorem sorted_get {vs : List Int} (h : vs.Pairwise (· < ·)) {i j : Nat} {x y : Int} (hi : vs[i]? = some x) (hj : vs[j]? = some y) (hij : i < j) : x < y := by
  obtain ⟨hi', rfl⟩ := List.getElem?_eq_some_iff.1 hi
  obtain ⟨hj', rfl⟩ := List.getElem?_eq_some_iff.1 hj
  exact List.pairwise_iff_getElem.1 h i j hi' hj' hij
def preM (d : List Obj) : Bool := !fewD d || seeB d
theorem moreLaw_ok : PSpecOk PP 6 (Q [.slice objT, i64, .pair lab lab] [.bool] (fun x => preM x.1) (fun _ => (true, ()))) := by
  refine pspec_Q mixed (fn := Try.f6) (c := c6) rfl rfl _ _ rfl ?_
  rintro ⟨d, root, ⟨l, m⟩, ⟨⟩⟩ - hp
  have hp : preM d = true := hp
  refine ⟨_, env_ok .., rfl, hold (more_vc d root l m) ?_⟩
  simp only [true_and, and_true, Prod.eta, eq_self_iff_true, toNat_cast, before]
  rw [see_len, see_len]
  refine ⟨fun h => absurd h (by simp), fun _ => ⟨⟨by omega, by decide⟩, ⟨by decide, by decide⟩, ?_⟩⟩
  have fr : ∀ {l : Lab}, freeL l = true → rightL l = true := fun h => plain_right (by simp only [freeL, Bool.and_eq_true] at h; exact h.1)
  refine ⟨fun h1 => ⟨fun h2 => ⟨fun h3 => ?_, fun _ => trivial⟩, fun _ => trivial⟩, fun _ => trivial⟩
  have hfew : fewD d = true := by simpa using h1
  have hfl : freeL l = true := by simpa using h2
  have hfm : freeL m = true := by simpa using h3
  have hrl := fr hfl
  have hrm := fr hfm
  have hsee : seeB d = true := by
    have hp := hp
    simp only [preM, hfew] at hp
    simpa using hp
  have hsm : sml l = true ∧ sml m = true := by
    have := right_len hrl
    have := right_len hrm
    exact ⟨decide_eq_true (by omega), decide_eq_true (by omega)⟩
  refine ⟨by rw [hsm.1, hsm.2]; rfl, fun _ => trivial, fun h4 => ⟨hsee, hsee, fun hA => ?_⟩⟩
  have hle : leqA l m := (leqN_iff l m).1 (by simpa using h4)
  have hsub : ∀ id, id ∈ visL d root l → id ∈ visL d root m := fun id hid => ((vis_spec d root m).yes hfm id).2 (vis_mono hrl hrm hle (seen_vis hid))
  have hsl := (vis_spec d root l).sorted
  have hsM := (vis_spec d root m).sorted
  have hlen := nodup_len (xs := visL d root l) (ys := visL d root m) (hsl.imp (fun h => by omega)) hsub
  have hd := (small_list (few_small hfew)).1
  have hml := seen_len (d := d) (root := root) (l := m)
  have hB : (visL d root m).length ≤ maxLen := by rw [maxLen_eq]; omega
  refine ⟨(0, 0), ⟨Nat.zero_le _, Nat.zero_le _, fun j x y hj => absurd hj (Nat.not_lt_zero j)⟩, ⟨rfl, rfl⟩, ?_⟩
  rintro ⟨i, k0⟩ ⟨hi, hk0, hb0⟩
  simp only at hi hk0 hb0 ⊢
  refine ⟨fun hlt => ?_, fun hge _ _ => decide_eq_true (by omega)⟩
  have hlt : i < (visL d root l).length := by simpa using hlt
  refine ⟨k0, ⟨hk0, hb0⟩, rfl, ?_⟩
  rintro k ⟨hk, hb⟩
  obtain ⟨ai, hai⟩ : ∃ ai, (visL d root l)[i]? = some ai := ⟨_, List.getElem?_eq_getElem hlt⟩
  obtain ⟨p, hpm⟩ := List.getElem?_of_mem (hsub ai (List.mem_of_getElem? hai))
  have hpk : k ≤ p := by
    rcases Nat.lt_or_ge p k with h | h
    · have := hb p ai ai h hpm hai; omega
    · exact h
  have hpl : p < (visL d root m).length := (List.getElem?_eq_some_iff.1 hpm).1
  have hkl : k < (visL d root m).length := by omega
  obtain ⟨bk, hbk⟩ : ∃ bk, (visL d root m)[k]? = some bk := ⟨_, List.getElem?_eq_getElem hkl⟩
  have hble : bk ≤ ai := by
    rcases Nat.eq_or_lt_of_le hpk with e | e
    · subst e; rw [hbk] at hpm; cases hpm; exact Int.le_refl _
    · have := sorted_get hsM hbk hpm e; omega
  refine ⟨decide (bk < ai), ⟨fun _ => ⟨⟨by omega, by omega⟩, fun y hy => ⟨⟨by omega, by omega⟩, fun z hz => ?_⟩⟩, fun h => ?_⟩, fun hv => ?_, fun hv => ?_⟩
  · obtain ⟨id1, _, e1, _, _, e2⟩ := see_at hy
    obtain ⟨id2, _, e3, _, _, e4⟩ := see_at hz
    rw [hbk] at e1; cases e1
    rw [hai] at e3; cases e3
    show decide (oid y < oid z) = _
    rw [e2, e4]
  · have : (k : Int) < ((visL d root m).length : Int) := by omega
    simp [this] at h
  · have hlt2 : bk < ai := of_decide_eq_true hv
    refine ⟨k + 1, ⟨by omega, fun j x y hj hx hy => ?_⟩, by omega, wrap_succ hkl hB⟩
    rw [hai] at hy; cases hy
    rcases Nat.lt_or_ge j k with h | h
    · exact hb j x ai h hx hai
    · obtain rfl : j = k := by omega
      rw [hbk] at hx; cases hx; exact hlt2
  · have hge2 : ¬ bk < ai := of_decide_eq_false hv
    have e : bk = ai := by omega
    subst e
    refine ⟨false, ⟨fun _ => ⟨⟨by omega, by omega⟩, fun y hy => ⟨⟨by omega, by omega⟩, fun z hz => ?_⟩⟩, fun h => ?_⟩, fun h => absurd h (by simp), fun _ => ⟨(i + 1, k), ⟨by show i + 1 ≤ _; omega, hk, fun j x y hj hx hy => ?_⟩, by show _ - (i + 1) < _; omega, wrap_succ hlt hA, rfl⟩⟩
    · obtain ⟨id1, o1, e1, f1, g1, _⟩ := see_at hy
      obtain ⟨id2, o2, e3, f2, g2, _⟩ := see_at hz
      rw [hai] at e1; cases e1
      rw [hbk] at e3; cases e3
      rw [f1] at f2; cases f2
      rw [g1, g2, (sameX_iff _ _).2 rfl]; rfl
    · have : ¬ ((k : Int) ≥ ((visL d root m).length : Int)) := by omega
      simp [this] at h
    · have h1 := hb j x bk hj hx hai
      have h2 := sorted_get hsl hai hy (Nat.lt_succ_self i)
      omega
end Go.Proofs.Ytlnclaggmjhbfaa
