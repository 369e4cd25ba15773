/- What the functions of the program give, one by one, and the law. -/
import Derived.Test.YthoaelmomocohaaWbHr
namespace Go.Proofs.Ythoaelmomocohaa
open Go.Proofs.Ythoaelmomocohaa.Gx
set_option maxRecDepth 100000
set_option maxHeartbeats 4000000
set_option linter.unusedSimpArgs false
set_option linter.unusedVariables false
theorem make_root (T : Tb) (inn id kind quota : Int) (l : Lab) : (makeT T inn id kind quota l).2.2 = T.2 := by
  unfold makeT
  repeat' (split <;> try rfl)
theorem linkR_root (T : Tb) (inn id : Int) : (linkR T inn id).2.2 = T.2 := by
  unfold linkR
  repeat' (split <;> try rfl)
theorem shiftR_root (T : Tb) (inn id n : Int) : (shiftR T inn id n).2.2 = T.2 := by
  unfold shiftR
  repeat' (split <;> try rfl)
theorem relabelR_root (T : Tb) (id : Int) (l : Lab) : (relabelR T id l).2.2 = T.2 := by
  unfold relabelR
  repeat' (split <;> try rfl)
theorem dropR_root (T : Tb) (inn id : Int) : (dropR T inn id).2.2.2 = T.2 := by
  unfold dropR
  repeat' (split <;> try rfl)
theorem make_err (T : Tb) (inn id kind quota : Int) (l : Lab) : (makeT T inn id kind quota l).1 ≠ 0 → (makeT T inn id kind quota l).2 = T := by
  unfold makeT
  repeat' (split <;> try (intro _; rfl))
  all_goals (intro h; exact absurd rfl h)
theorem linkR_err (T : Tb) (inn id : Int) : (linkR T inn id).1 ≠ 0 → (linkR T inn id).2 = T := by
  unfold linkR
  repeat' (split <;> try (intro _; rfl))
  all_goals (intro h; exact absurd rfl h)
theorem shiftR_err (T : Tb) (inn id n : Int) : (shiftR T inn id n).1 ≠ 0 → (shiftR T inn id n).2 = T := by
  unfold shiftR
  repeat' (split <;> try (intro _; rfl))
  all_goals (intro h; exact absurd rfl h)
theorem relabelR_err (T : Tb) (id : Int) (l : Lab) : (relabelR T id l).1 ≠ 0 → (relabelR T id l).2 = T := by
  unfold relabelR
  repeat' (split <;> try (intro _; rfl))
  all_goals (intro h; exact absurd rfl h)
theorem dropR_err (T : Tb) (inn id : Int) : (dropR T inn id).2.1 ≠ 0 → (dropR T inn id).2.2 = T := by
  unfold dropR
  repeat' (split <;> try (intro _; rfl))
  all_goals (intro h; exact absurd rfl h)
theorem do_ok : doH.ok PP 44 := by
  refine hc_ofP finR mixed (fn := Try.f44) (c := c44) rfl rfl doH (fun x => rfl) ?_
  rintro ⟨T, o⟩ (hwf : WfT T)
  refine ⟨env PP [] [m13, m14, m16, m18, m20, m27] [] [] [], env_ok .., rfl, hold (do_vc T o) ?_⟩
  simp only [true_and, and_true]
  refine ⟨fun _ => ⟨hwf, rfl, fun y hy => ⟨_, ?_, rfl⟩⟩, fun _ => ⟨fun _ => ⟨hwf, rfl, fun y hy => ⟨_, ?_, rfl⟩⟩, fun _ => ⟨fun _ => ⟨hwf, rfl, fun y hy => ⟨_, ?_, rfl⟩⟩, fun _ => ⟨fun _ => ⟨hwf, rfl, fun y hy => ⟨_, ?_, rfl⟩⟩, fun _ => ⟨fun _ => ⟨hwf, rfl, fun y hy => ⟨_, ?_, rfl⟩⟩, fun _ => ⟨fun _ => ⟨hwf, rfl, fun y hy => ⟨_, ?_, rfl⟩⟩, fun _ => ⟨_, ⟨hwf, rfl⟩, rfl⟩⟩⟩⟩⟩⟩⟩
  · rw [hy.eq]; exact ⟨makeR_wf hwf .., make_root ..⟩
  · rw [hy.eq]; exact ⟨linkR_wf hwf .., linkR_root ..⟩
  · rw [hy.eq]; exact ⟨drop_wf hwf .., dropR_root ..⟩
  · rw [hy.eq]; exact ⟨shiftR_wf hwf .., shiftR_root ..⟩
  · rw [hy.eq]; exact ⟨relabelR_wf hwf .., relabelR_root ..⟩
  · exact ⟨perm_wf hwf hy.perm hy.root, hy.root⟩
def tbOf (S : St) (j : Nat) : Option tblT.den := match S.res[j]? with
  | some (.cust t _ x) => match decEq t tblT with
    | .isTrue h => some (h ▸ x)
    | _ => none
  | _ => none
noncomputable def s44 : Sv PP := ⟨44, hspec doH [] fun ss S => match ss with
  | .ptr j 0 :: rest => match tbOf S j, asArgs [opT] rest with
    | some T, some (o, ()) => some ([j], (T, o))
    | _, _ => none
  | _ => none, ⟨rfl, hspec_ok do_ok _ _⟩⟩
theorem sameO_iff (a b : Info) : sameO a b = true ↔ a = b := by
  obtain ⟨a1, a2, a3, a4, a5, a6⟩ := a
  obtain ⟨b1, b2, b3, b4, b5, b6⟩ := b
  simp [sameO, sameL]
theorem sameO_ok : PSpecOk PP 50 (Q [infoT, infoT] [.bool] (fun _ => true) (fun x => (sameO x.1 x.2.1, ()))) := by
  refine pspec_Q mixed (fn := Try.f50) (c := c50) rfl rfl _ _ rfl ?_
  rintro ⟨a, b, ⟨⟩⟩ - -
  refine ⟨eP [p25], env_ok .., rfl, hold (sameO_vc a b) ?_⟩
  simp only [true_and, and_true, Prod.eta, eq_self_iff_true, toNat_cast]
  refine ⟨sameO a b, ⟨fun h1 => ⟨fun h2 => ⟨fun h3 => ⟨fun h4 => ⟨fun h5 => ?_, fun h => ?_⟩, fun h => ?_⟩, fun h => ?_⟩, fun h => ?_⟩, fun h => ?_⟩, rfl⟩
  all_goals simp only [beq_iff_eq, Bool.not_true, beq_eq_false_iff_ne] at *
  all_goals simp [sameO, *]
noncomputable def p50 : Pv PP := ⟨50, _, ⟨rfl, sameO_ok⟩⟩
noncomputable def p49 : Pv PP := ⟨49, _, ⟨rfl, sameI_ok⟩⟩
end Go.Proofs.Ythoaelmomocohaa
namespace Go.Proofs.Ythoaelmomocohaa
open Go.Proofs.Ythoaelmomocohaa.Gx
set_option maxRecDepth 100000
set_option linter.unusedVariables false
set_option maxHeartbeats 0
structure RunInv (sc : List Op1) (x : Nat × Tb) : Prop where
  le : x.1 ≤ sc.length
  d : DoP ([], 1) x.2
def runLoop (sc : List Op1) : List (Nat × (St → Option LoopSpec)) :=
  [(3, fun S => match getT S.fr.tm 3 with
    | .ptr j 0 => some { α := Nat × Tb, inv := fun x => RunInv sc x, ov := fun x => [(10, .int .i64 (x.1 : Int)), (3, .ptr j 0)], rov := fun x => [(j, .cust tblT KT.cust x.2)], meas := fun x => sc.length - x.1 }
    | _ => none)]
theorem run_vc (sc : List Op1) : (fvc PP (envC PP [] [s12, m11, s44] [] [] (runLoop sc) [16, 17]) Try.f19 c19 (runH.ss sc) (St1 (runH.Rs sc)) (fun r S => finR.T r S fun r S => altsOk 0 sc r S runH.alts)) = (
  True ∧ ((1 : Int) = (1 : Int) ∧ ((2 : Int) = (2 : Int) ∧ ([] : List (Int × Int)) = [] ∧ True) ∧ True) ∧ True ∧ (∀ (y : Unit), NoNew (1 : Int) ((2 : Int), []) → sc.length ≤ maxLen → False) ∧ (∀ (y : Tb), NewP (1 : Int) 
  ((2 : Int), []) y → sc.length ≤ maxLen → ∃ (x0 : Nat × Tb), RunInv sc x0 ∧ ((True ∧ True) ∧ ((0 : Int) = (↑x0.fst : Int) ∧ True ∧ (↑sc.length : Int) = (↑sc.length : Int) ∧ sc = sc ∧ sc = sc ∧ True) ∧ ((2 : Int) = (2 : 
  Int) ∧ SV.val (Value.slice none (0 : Nat) (0 : Nat)) = SV.val (Value.slice none (0 : Nat) (0 : Nat)) ∧ True) ∧ (KT.cust = KT.cust ∧ y = x0.snd) ∧ True) ∧ ∀ (x : Nat × Tb), RunInv sc x → (decide ((↑x.fst : Int) < 
  (↑sc.length : Int)) = true → ((0 : Int) ≤ (↑x.fst : Int) ∧ (↑x.fst : Int) < (↑sc.length : Int)) ∧ ∀ (y : Int × Int × Int × Int × Int × Int × List (Int × Int)), sc[(↑x.fst : Int).toNat]? = some y → ∃ (v : Bool), decide 
  ((↑x.fst : Int) ≥ (100 : Int)) = v ∧ (v = true → ∃ (y : Tb), DoP ([], (1 : Int)) y ∧ True ∧ ((KT.cust = KT.cust ∧ x.snd = y) ∧ True) ∧ True ∧ True) ∧ (v = false → WfT x.snd ∧ (True ∧ (y.fst = y.fst ∧ y.snd.fst = 
  y.snd.fst ∧ y.snd.snd.fst = y.snd.snd.fst ∧ y.snd.snd.snd.fst = y.snd.snd.snd.fst ∧ y.snd.snd.snd.snd.fst = y.snd.snd.snd.snd.fst ∧ y.snd.snd.snd.snd.snd.fst = y.snd.snd.snd.snd.snd.fst ∧ y.snd.snd.snd.snd.snd.snd = 
  y.snd.snd.snd.snd.snd.snd ∧ True) ∧ True) ∧ ((KT.cust = KT.cust ∧ x.snd = x.snd) ∧ True) ∧ (∀ (y : Tb), DoP x.snd y → ∃ (x' : Nat × Tb), RunInv sc x' ∧ sc.length - x'.fst < sc.length - x.fst ∧ (True ∧ True) ∧ 
  (IntKind.i64.wrap ((↑x.fst : Int) + (1 : Int)) = (↑x'.fst : Int) ∧ True ∧ (↑sc.length : Int) = (↑sc.length : Int) ∧ sc = sc ∧ sc = sc ∧ True) ∧ ((2 : Int) = (2 : Int) ∧ SV.val (Value.slice none (0 : Nat) (0 : Nat)) = 
  SV.val (Value.slice none (0 : Nat) (0 : Nat)) ∧ True) ∧ (KT.cust = KT.cust ∧ y = x'.snd) ∧ True) ∧ True)) ∧ (decide ((↑x.fst : Int) < (↑sc.length : Int)) = false → ∃ (y : Tb), DoP ([], (1 : Int)) y ∧ True ∧ ((KT.cust = 
  KT.cust ∧ x.snd = y) ∧ True) ∧ True ∧ True)) ∧ True) := by kernel_rfl
structure Alike (T U : Tb) : Prop where
  wf : WfT T
  perm : U.1.Perm T.1
  root : U.2 = T.2
def sameH : HC where
  α := Tb × Tb
  m := 2
  ss := fun _ => [.ptr 0 0, .ptr 1 0]
  Rs := fun x => [.cust tblT KT.cust x.1, .cust tblT KT.cust x.2]
  pre := fun x => Alike x.1 x.2
  alts := [{ β := Unit, post := fun _ _ => True, r := fun _ _ => .bool true, res := fun x _ => [.cust tblT KT.cust x.1, .cust tblT KT.cust x.2], kp := [true, true] }]
def sameTLoop (ids : List Int) : List (Nat × (St → Option LoopSpec)) :=
  [(5, fun _ => some { α := Nat, inv := fun i => i ≤ ids.length, ov := fun i => [(25, .int .i64 (i : Int))], rov := fun _ => [], meas := fun i => ids.length - i })]
theorem same_vc (T U : Tb) : (fvc PP (env PP [p49, p50] [m15, m22, m26] [] [] (sameTLoop (idsT T))) Try.f28 c28 (sameH.ss (T, U)) (St1 (sameH.Rs (T, U))) (fun r S => (Fin.perm fun _ => [0, 1]).T r S fun r S => altsOk 2 (T, U) r S sameH.alts)) = (
  WfT T ∧ (True ∧ True) ∧ ((KT.cust = KT.cust ∧ T = idsC.inn T) ∧ True) ∧ (∀ (y : List Int), Ran (idsT T) y → WfT U ∧ (True ∧ True) ∧ ((KT.cust = KT.cust ∧ U = idsC.inn U) ∧ True) ∧ (∀ (y_1 : List Int), Ran (idsT U) y_1 
  → true = true ∧ ((!sameI y y_1) = true → ∃ (y : Unit), True ∧ false = true ∧ ((KT.cust = KT.cust ∧ T = T) ∧ (KT.cust = KT.cust ∧ U = U) ∧ True) ∧ (True ∧ True ∧ True) ∧ True) ∧ ((!sameI y y_1) = false → y.length ≤ 
  maxLen → ∃ (x0 : Nat), x0.le (idsT T).length ∧ (((True ∧ True ∧ True) ∧ True) ∧ ((0 : Int) = (↑x0 : Int) ∧ (↑y.length : Int) = (↑y.length : Int) ∧ y = y ∧ false = false ∧ y = y ∧ True ∧ True ∧ True) ∧ (KT.cust = 
  KT.cust ∧ T = T) ∧ (KT.cust = KT.cust ∧ U = U) ∧ True) ∧ ∀ (x : Nat), x.le (idsT T).length → (decide ((↑x : Int) < (↑y.length : Int)) = true → ((0 : Int) ≤ (↑x : Int) ∧ (↑x : Int) < (↑y.length : Int)) ∧ ∀ (y_2 : Int), 
  y[(↑x : Int).toNat]? = some y_2 → WfT T ∧ (True ∧ y_2 = y_2 ∧ True) ∧ ((KT.cust = KT.cust ∧ T = infoV.inn (T, y_2)) ∧ True) ∧ (∀ (y_3 : Info × Bool), Ran (infoR T y_2) y_3 → WfT U ∧ (True ∧ y_2 = y_2 ∧ True) ∧ 
  ((KT.cust = KT.cust ∧ U = infoV.inn (U, y_2)) ∧ True) ∧ (∀ (y_4 : Info × Bool), Ran (infoR U y_2) y_4 → WfT T ∧ (True ∧ y_2 = y_2 ∧ True) ∧ ((KT.cust = KT.cust ∧ T = listV.inn (T, y_2)) ∧ True) ∧ (∀ (y_5 : List Int × 
  Int), Ran (listR T y_2) y_5 → WfT U ∧ (True ∧ y_2 = y_2 ∧ True) ∧ ((KT.cust = KT.cust ∧ U = listV.inn (U, y_2)) ∧ True) ∧ (∀ (y_6 : List Int × Int), Ran (listR U y_2) y_6 → true = true ∧ ((!sameO (y_3.fst.fst, 
  y_3.fst.snd.fst, y_3.fst.snd.snd.fst, y_3.fst.snd.snd.snd.fst, y_3.fst.snd.snd.snd.snd.fst, y_3.fst.snd.snd.snd.snd.snd.fst, y_3.fst.snd.snd.snd.snd.snd.snd) (y_4.fst.fst, y_4.fst.snd.fst, y_4.fst.snd.snd.fst, 
  y_4.fst.snd.snd.snd.fst, y_4.fst.snd.snd.snd.snd.fst, y_4.fst.snd.snd.snd.snd.snd.fst, y_4.fst.snd.snd.snd.snd.snd.snd)) = false → ((y_5.snd != y_6.snd) = false → true = true ∧ ((!sameI y_5.fst y_6.fst) = true → ∃ (y : 
  Unit), True ∧ false = true ∧ ((KT.cust = KT.cust ∧ T = T) ∧ (KT.cust = KT.cust ∧ U = U) ∧ True) ∧ (True ∧ True ∧ True) ∧ True) ∧ ((!sameI y_5.fst y_6.fst) = false → ∃ (x' : Nat), x'.le (idsT T).length ∧ (idsT T).length 
  - x' < (idsT T).length - x ∧ ((True ∧ True ∧ True) ∧ True) ∧ (IntKind.i64.wrap ((↑x : Int) + (1 : Int)) = (↑x' : Int) ∧ (↑y.length : Int) = (↑y.length : Int) ∧ y = y ∧ false = false ∧ y = y ∧ True ∧ True ∧ True) ∧ 
  (KT.cust = KT.cust ∧ T = T) ∧ (KT.cust = KT.cust ∧ U = U) ∧ True)) ∧ ((y_5.snd != y_6.snd) = !false → ∃ (y : Unit), True ∧ false = true ∧ ((KT.cust = KT.cust ∧ T = T) ∧ (KT.cust = KT.cust ∧ U = U) ∧ True) ∧ (True ∧ 
  True ∧ True) ∧ True)) ∧ ((!sameO (y_3.fst.fst, y_3.fst.snd.fst, y_3.fst.snd.snd.fst, y_3.fst.snd.snd.snd.fst, y_3.fst.snd.snd.snd.snd.fst, y_3.fst.snd.snd.snd.snd.snd.fst, y_3.fst.snd.snd.snd.snd.snd.snd) (y_4.fst.fst, 
  y_4.fst.snd.fst, y_4.fst.snd.snd.fst, y_4.fst.snd.snd.snd.fst, y_4.fst.snd.snd.snd.snd.fst, y_4.fst.snd.snd.snd.snd.snd.fst, y_4.fst.snd.snd.snd.snd.snd.snd)) = !false → ∃ (y : Unit), True ∧ false = true ∧ ((KT.cust = 
  KT.cust ∧ T = T) ∧ (KT.cust = KT.cust ∧ U = U) ∧ True) ∧ (True ∧ True ∧ True) ∧ True)) ∧ True) ∧ True) ∧ True) ∧ True) ∧ (decide ((↑x : Int) < (↑y.length : Int)) = false → ∃ (y : Unit), True ∧ true = true ∧ ((KT.cust = 
  KT.cust ∧ T = T) ∧ (KT.cust = KT.cust ∧ U = U) ∧ True) ∧ (True ∧ True ∧ True) ∧ True))) ∧ True) ∧ True) := by kernel_rfl
end Go.Proofs.Ythoaelmomocohaa
namespace Go.Proofs.Ythoaelmomocohaa
open Go.Proofs.Ythoaelmomocohaa.Gx
set_option maxRecDepth 100000
set_option maxHeartbeats 4000000
set_option linter.unusedSimpArgs false
set_option linter.unusedVariables false
theorem no_new1 : ¬ NoNew 1 L1 := fun h => by have := h.bad; rw [g0] at this; cases this
theorem run_ok : runH.ok PP 19 := by
  refine hc_ofP finR mixed (fn := Try.f19) (c := c19) rfl rfl runH (fun x => rfl) ?_
  rintro sc -
  refine ⟨envC PP [] [s12, m11, s44] [] [] (runLoop sc) [16, 17], envC_ok .., rfl, hold (run_vc sc) ?_⟩
  simp only [true_and, and_true, toNat_cast, eq_self_iff_true]
  refine ⟨fun _ h _ => no_new1 h, fun T hT hA => ⟨(0, T), ⟨Nat.zero_le _, hT.wf, by rw [hT.eq]; rfl⟩, ⟨⟨rfl, rfl, rfl⟩, rfl⟩, ?_⟩⟩
  rintro ⟨i, T⟩ hx
  have hi : i ≤ sc.length := hx.le
  refine ⟨fun hlt => ?_, fun _ => ⟨T, hx.d, rfl⟩⟩
  have hlt : i < sc.length := by simpa using hlt
  refine ⟨⟨by simp only; omega, by simp only; omega⟩, fun o ho => ⟨_, rfl, fun _ => ⟨T, hx.d, rfl⟩, fun _ => ⟨hx.d.wf, fun U hU => ⟨(i + 1, U), ⟨hlt, hU.wf, hU.root.trans hx.d.root⟩, ?_, ?_, rfl⟩⟩⟩⟩
  · show sc.length - (i + 1) < sc.length - i
    omega
  · exact ⟨wrap_succ hlt hA, rfl, rfl⟩
theorem same_ok : sameH.ok PP 28 := by
  refine hc_ofP (Fin.perm fun _ => [0, 1]) mixed (fn := Try.f28) (c := c28) rfl rfl sameH (fun x => rfl) ?_
  rintro ⟨T, U⟩ (h : Alike T U)
  refine ⟨env PP [p49, p50] [m15, m22, m26] [] [] (sameTLoop (idsT T)), env_ok .., rfl, hold (same_vc T U) ?_⟩
  simp only [true_and, and_true, toNat_cast, Prod.eta, eq_self_iff_true]
  have hU := perm_wf h.wf h.perm h.root
  have hl : ∀ k, lookL U.1 k = lookL T.1 k := look_perm h.perm hU.a.nodup
  refine ⟨h.wf, rfl, fun y hy => ⟨hU, rfl, fun z hz => ?_⟩⟩
  have hyz : y = z := by
    rw [hy.eq, hz.eq]
    exact (sortI_perm (h.perm.map _) h.wf.a.nodup).symm
  subst hyz
  have e1 : y = idsT T := hy.eq
  subst e1
  have eI : ∀ a : List Int, sameI a a = true := fun a => by simp [sameI]
  refine ⟨fun hn => (by rw [eI] at hn; cases hn), fun _ hA => ⟨0, Nat.zero_le _, rfl, fun i hi => ⟨fun hlt => ?_, fun _ => ⟨(), trivial⟩⟩⟩⟩
  have hlt : i < (idsT T).length := by simpa using hlt
  refine ⟨⟨by omega, by omega⟩, fun k hk => ⟨h.wf, rfl, fun a ha => ⟨hU, rfl, fun b hb => ⟨h.wf, rfl, fun c hc => ⟨hU, rfl, fun d hd => ?_⟩⟩⟩⟩⟩
  have hab : a = b := by rw [ha.eq, hb.eq]; unfold infoR; rw [hl]
  have hcd : c = d := by rw [hc.eq, hd.eq]; unfold listR; rw [hl]
  subst hab; subst hcd
  have e2 : sameO a.1 a.1 = true := (sameO_iff _ _).2 rfl
  refine ⟨fun _ => ⟨fun _ => ⟨fun hn => (by rw [eI] at hn; cases hn), fun _ => ⟨i + 1, hlt, by omega, wrap_succ hlt hA⟩⟩, fun hn => (by simp at hn)⟩, fun hn => ?_⟩
  have hn : (!sameO a.1 a.1) = !false := hn
  rw [e2] at hn; cases hn
noncomputable def s19 : Sv PP := ⟨19, hspec runH [] fun ss S => match asArgs [.slice opT] ss with | some (sc, ()) => some ([], sc) | none => none, ⟨rfl, hspec_ok run_ok _ _⟩⟩
noncomputable def s28 : Sv PP := ⟨28, hspec sameH [] fun ss S => match ss with
  | [.ptr j 0, .ptr k 0] => match tbOf S j, tbOf S k with
    | some T, some U => some ([j, k], (T, U))
    | _, _ => none
  | _ => none, ⟨rfl, hspec_ok same_ok _ _⟩⟩
end Go.Proofs.Ythoaelmomocohaa
namespace Go.Proofs.Ythoaelmomocohaa
open Go.Proofs.Ythoaelmomocohaa.Gx
set_option maxRecDepth 100000
set_option linter.unusedVariables false
set_option maxHeartbeats 0
theorem refused_vc (sc : List Op1) (o : Op1) : (fvc PP (envC PP [p10] [s19, m20, s28, m13, m14, m16, m18, m27] [] [] [] [9, 13]) Try.f7 c7 (ofArgs [.slice opT, opT] (sc, o, ())) St0 (gives [.bool] (true, ()))) = (
  true = true ∧ True ∧ (sc = sc ∧ True) ∧ True ∧ (∀ (y : Tb), DoP ([], (1 : Int)) y → WfT y ∧ (True ∧ True) ∧ ((KT.cust = KT.cust ∧ y = copyC.inn y) ∧ True) ∧ (∀ (y_1 : Tb), CopyP y y_1 → ((o.fst == (1 : Int)) = true → 
  WfT y ∧ (True ∧ o.snd.fst = o.snd.fst ∧ o.snd.snd.fst = o.snd.snd.fst ∧ o.snd.snd.snd.fst = o.snd.snd.snd.fst ∧ o.snd.snd.snd.snd.fst = o.snd.snd.snd.snd.fst ∧ (o.snd.snd.snd.snd.snd.fst = o.snd.snd.snd.snd.snd.fst ∧ 
  o.snd.snd.snd.snd.snd.snd = o.snd.snd.snd.snd.snd.snd ∧ True) ∧ True) ∧ ((KT.cust = KT.cust ∧ y = makeV.inn (y, o.snd.fst, o.snd.snd.fst, o.snd.snd.snd.fst, o.snd.snd.snd.snd.fst, o.snd.snd.snd.snd.snd.fst, 
  o.snd.snd.snd.snd.snd.snd)) ∧ True) ∧ (∀ (y_2 : Int × List (Int × (Int × Int × Int × Int × Int × Int × List (Int × Int)) × List Int) × Int), Ran (makeT y o.snd.fst o.snd.snd.fst o.snd.snd.snd.fst o.snd.snd.snd.snd.fst 
  (o.snd.snd.snd.snd.snd.fst, o.snd.snd.snd.snd.snd.snd)) y_2 → ((y_2.fst == (0 : Int)) = false → Alike y_2.snd y_1 ∧ (True ∧ True ∧ True) ∧ ((KT.cust = KT.cust ∧ y_2.snd = y_2.snd) ∧ (KT.cust = KT.cust ∧ y_1 = y_1) ∧ 
  True) ∧ (∀ (y : Unit), True → true = true ∧ True) ∧ True) ∧ ((y_2.fst == (0 : Int)) = !false → true = true ∧ True)) ∧ True) ∧ ((o.fst == (1 : Int)) = false → ((o.fst == (2 : Int)) = true → WfT y ∧ (True ∧ o.snd.fst = 
  o.snd.fst ∧ o.snd.snd.fst = o.snd.snd.fst ∧ True) ∧ ((KT.cust = KT.cust ∧ y = linkV.inn (y, o.snd.fst, o.snd.snd.fst)) ∧ True) ∧ (∀ (y_2 : Int × List (Int × (Int × Int × Int × Int × Int × Int × List (Int × Int)) × List 
  Int) × Int), Ran (linkR y o.snd.fst o.snd.snd.fst) y_2 → ((y_2.fst == (0 : Int)) = false → Alike y_2.snd y_1 ∧ (True ∧ True ∧ True) ∧ ((KT.cust = KT.cust ∧ y_2.snd = y_2.snd) ∧ (KT.cust = KT.cust ∧ y_1 = y_1) ∧ True) ∧ 
  (∀ (y : Unit), True → true = true ∧ True) ∧ True) ∧ ((y_2.fst == (0 : Int)) = !false → true = true ∧ True)) ∧ True) ∧ ((o.fst == (2 : Int)) = false → ((o.fst == (3 : Int)) = true → WfT y ∧ (True ∧ o.snd.fst = o.snd.fst 
  ∧ o.snd.snd.fst = o.snd.snd.fst ∧ True) ∧ ((KT.cust = KT.cust ∧ y = dropV.inn (y, o.snd.fst, o.snd.snd.fst)) ∧ True) ∧ (∀ (y_2 : (List Int × Int) × List (Int × (Int × Int × Int × Int × Int × Int × List (Int × Int)) × 
  List Int) × Int), Ran (((dropR y o.snd.fst o.snd.snd.fst).fst, (dropR y o.snd.fst o.snd.snd.fst).snd.fst), (dropR y o.snd.fst o.snd.snd.fst).snd.snd) y_2 → ((y_2.fst.snd == (0 : Int)) = false → Alike y_2.snd y_1 ∧ 
  (True ∧ True ∧ True) ∧ ((KT.cust = KT.cust ∧ y_2.snd = y_2.snd) ∧ (KT.cust = KT.cust ∧ y_1 = y_1) ∧ True) ∧ (∀ (y : Unit), True → true = true ∧ True) ∧ True) ∧ ((y_2.fst.snd == (0 : Int)) = !false → true = true ∧ 
  True)) ∧ True) ∧ ((o.fst == (3 : Int)) = false → ((o.fst == (4 : Int)) = true → WfT y ∧ (True ∧ o.snd.fst = o.snd.fst ∧ o.snd.snd.fst = o.snd.snd.fst ∧ o.snd.snd.snd.snd.fst = o.snd.snd.snd.snd.fst ∧ True) ∧ ((KT.cust 
  = KT.cust ∧ y = shiftV.inn (y, o.snd.fst, o.snd.snd.fst, o.snd.snd.snd.snd.fst)) ∧ True) ∧ (∀ (y_2 : Int × List (Int × (Int × Int × Int × Int × Int × Int × List (Int × Int)) × List Int) × Int), Ran (shiftR y o.snd.fst 
  o.snd.snd.fst o.snd.snd.snd.snd.fst) y_2 → ((y_2.fst == (0 : Int)) = false → Alike y_2.snd y_1 ∧ (True ∧ True ∧ True) ∧ ((KT.cust = KT.cust ∧ y_2.snd = y_2.snd) ∧ (KT.cust = KT.cust ∧ y_1 = y_1) ∧ True) ∧ (∀ (y : 
  Unit), True → true = true ∧ True) ∧ True) ∧ ((y_2.fst == (0 : Int)) = !false → true = true ∧ True)) ∧ True) ∧ ((o.fst == (4 : Int)) = false → ((o.fst == (5 : Int)) = true → WfT y ∧ (True ∧ o.snd.snd.fst = o.snd.snd.fst 
  ∧ (o.snd.snd.snd.snd.snd.fst = o.snd.snd.snd.snd.snd.fst ∧ o.snd.snd.snd.snd.snd.snd = o.snd.snd.snd.snd.snd.snd ∧ True) ∧ True) ∧ ((KT.cust = KT.cust ∧ y = relabelV.inn (y, o.snd.snd.fst, o.snd.snd.snd.snd.snd.fst, 
  o.snd.snd.snd.snd.snd.snd)) ∧ True) ∧ (∀ (y_2 : Int × List (Int × (Int × Int × Int × Int × Int × Int × List (Int × Int)) × List Int) × Int), Ran (relabelR y o.snd.snd.fst (o.snd.snd.snd.snd.snd.fst, 
  o.snd.snd.snd.snd.snd.snd)) y_2 → ((y_2.fst == (0 : Int)) = false → Alike y_2.snd y_1 ∧ (True ∧ True ∧ True) ∧ ((KT.cust = KT.cust ∧ y_2.snd = y_2.snd) ∧ (KT.cust = KT.cust ∧ y_1 = y_1) ∧ True) ∧ (∀ (y : Unit), True → 
  true = true ∧ True) ∧ True) ∧ ((y_2.fst == (0 : Int)) = !false → true = true ∧ True)) ∧ True) ∧ ((o.fst == (5 : Int)) = false → (((0 : Int) == (0 : Int)) = false → Alike y y_1 ∧ (True ∧ True ∧ True) ∧ ((KT.cust = 
  KT.cust ∧ y = y) ∧ (KT.cust = KT.cust ∧ y_1 = y_1) ∧ True) ∧ (∀ (y : Unit), True → true = true ∧ True) ∧ True) ∧ (((0 : Int) == (0 : Int)) = !false → true = true ∧ True))))))) ∧ True) ∧ True) := by kernel_rfl
end Go.Proofs.Ythoaelmomocohaa
namespace Go.Proofs.Ythoaelmomocohaa
open Go.Proofs.Ythoaelmomocohaa.Gx
set_option maxRecDepth 100000
set_option maxHeartbeats 4000000
set_option linter.unusedSimpArgs false
set_option linter.unusedVariables false
theorem ref_end {y U V : Tb} {e : Int} (hwf : WfT y) (hU : CopyP y U) (h : e ≠ 0 → V = y) : (((e == (0 : Int)) = false → Alike V U ∧ ∀ (y : Unit), True → True) ∧ ((e == (0 : Int)) = !false → True)) := by
  refine ⟨fun he => ?_, fun _ => trivial⟩
  have he : e ≠ 0 := by simpa using he
  rw [h he]
  exact ⟨⟨hwf, hU.perm, hU.root⟩, fun _ _ => trivial⟩
theorem refused_ok : PSpecOk PP 7 (Q [.slice opT, opT] [.bool] (fun _ => true) (fun _ => (true, ()))) := by
  refine pspec_Q mixed (fn := Try.f7) (c := c7) rfl rfl _ _ rfl ?_
  rintro ⟨sc, o, ⟨⟩⟩ - -
  refine ⟨envC PP [p10] [s19, m20, s28, m13, m14, m16, m18, m27] [] [] [] [9, 13], envC_ok .., rfl, hold (refused_vc sc o) ?_⟩
  simp only [true_and, and_true]
  intro T hT
  have hwf := hT.wf
  refine ⟨hwf, rfl, fun U hU => ?_⟩
  refine ⟨fun _ => ⟨hwf, rfl, fun y hy => ref_end hwf hU ?_⟩, fun _ => ⟨fun _ => ⟨hwf, rfl, fun y hy => ref_end hwf hU ?_⟩, fun _ => ⟨fun _ => ⟨hwf, rfl, fun y hy => ref_end hwf hU ?_⟩, fun _ => ⟨fun _ => ⟨hwf, rfl, fun y hy => ref_end hwf hU ?_⟩, fun _ => ⟨fun _ => ⟨hwf, rfl, fun y hy => ref_end hwf hU ?_⟩, fun _ => ref_end hwf hU (fun _ => rfl)⟩⟩⟩⟩⟩
  · rw [hy.eq]; exact make_err _ _ _ _ _ _
  · rw [hy.eq]; exact linkR_err _ _ _
  · rw [hy.eq]; exact dropR_err _ _ _
  · rw [hy.eq]; exact shiftR_err _ _ _ _
  · rw [hy.eq]; exact relabelR_err _ _ _
end Go.Proofs.Ythoaelmomocohaa
