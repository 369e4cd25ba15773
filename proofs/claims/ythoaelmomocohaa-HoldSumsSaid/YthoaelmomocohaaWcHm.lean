/- What the functions of the program give, one by one, and the law. -/
import Derived.Test.YthoaelmomocohaaWbHm
namespace Go.Proofs.Ythoaelmomocohaa
open Go.Proofs.Ythoaelmomocohaa.Gx
set_option maxRecDepth 100000
set_option maxHeartbeats 4000000
set_option linter.unusedSimpArgs false
set_option linter.unusedVariables false
theorem make_root (T : Tb) (inn id kind quota : Int) (l : Lab) : (makeT T inn id kind quota l).2.2 = T.2 := by
  unfold makeT
  repeat' (split <;> try rfl)
theorem linkR_root (T : Tb) (inn id : Int) : (linkR T inn id).2.2 = T.2 := by
  unfold linkR
  repeat' (split <;> try rfl)
theorem shiftR_root (T : Tb) (inn id n : Int) : (shiftR T inn id n).2.2 = T.2 := by
  unfold shiftR
  repeat' (split <;> try rfl)
theorem relabelR_root (T : Tb) (id : Int) (l : Lab) : (relabelR T id l).2.2 = T.2 := by
  unfold relabelR
  repeat' (split <;> try rfl)
theorem dropR_root (T : Tb) (inn id : Int) : (dropR T inn id).2.2.2 = T.2 := by
  unfold dropR
  repeat' (split <;> try rfl)
theorem make_err (T : Tb) (inn id kind quota : Int) (l : Lab) : (makeT T inn id kind quota l).1 ≠ 0 → (makeT T inn id kind quota l).2 = T := by
  unfold makeT
  repeat' (split <;> try (intro _; rfl))
  all_goals (intro h; exact absurd rfl h)
theorem linkR_err (T : Tb) (inn id : Int) : (linkR T inn id).1 ≠ 0 → (linkR T inn id).2 = T := by
  unfold linkR
  repeat' (split <;> try (intro _; rfl))
  all_goals (intro h; exact absurd rfl h)
theorem shiftR_err (T : Tb) (inn id n : Int) : (shiftR T inn id n).1 ≠ 0 → (shiftR T inn id n).2 = T := by
  unfold shiftR
  repeat' (split <;> try (intro _; rfl))
  all_goals (intro h; exact absurd rfl h)
theorem relabelR_err (T : Tb) (id : Int) (l : Lab) : (relabelR T id l).1 ≠ 0 → (relabelR T id l).2 = T := by
  unfold relabelR
  repeat' (split <;> try (intro _; rfl))
  all_goals (intro h; exact absurd rfl h)
theorem dropR_err (T : Tb) (inn id : Int) : (dropR T inn id).2.1 ≠ 0 → (dropR T inn id).2.2 = T := by
  unfold dropR
  repeat' (split <;> try (intro _; rfl))
  all_goals (intro h; exact absurd rfl h)
theorem do_ok : doH.ok PP 44 := by
  refine hc_ofP finR mixed (fn := Try.f44) (c := c44) rfl rfl doH (fun x => rfl) ?_
  rintro ⟨T, o⟩ (hwf : WfT T)
  refine ⟨env PP [] [m13, m14, m16, m18, m20, m27] [] [] [], env_ok .., rfl, hold (do_vc T o) ?_⟩
  simp only [true_and, and_true]
  refine ⟨fun _ => ⟨hwf, rfl, fun y hy => ⟨_, ?_, rfl⟩⟩, fun _ => ⟨fun _ => ⟨hwf, rfl, fun y hy => ⟨_, ?_, rfl⟩⟩, fun _ => ⟨fun _ => ⟨hwf, rfl, fun y hy => ⟨_, ?_, rfl⟩⟩, fun _ => ⟨fun _ => ⟨hwf, rfl, fun y hy => ⟨_, ?_, rfl⟩⟩, fun _ => ⟨fun _ => ⟨hwf, rfl, fun y hy => ⟨_, ?_, rfl⟩⟩, fun _ => ⟨fun _ => ⟨hwf, rfl, fun y hy => ⟨_, ?_, rfl⟩⟩, fun _ => ⟨_, ⟨hwf, rfl⟩, rfl⟩⟩⟩⟩⟩⟩⟩
  · rw [hy.eq]; exact ⟨makeR_wf hwf .., make_root ..⟩
  · rw [hy.eq]; exact ⟨linkR_wf hwf .., linkR_root ..⟩
  · rw [hy.eq]; exact ⟨drop_wf hwf .., dropR_root ..⟩
  · rw [hy.eq]; exact ⟨shiftR_wf hwf .., shiftR_root ..⟩
  · rw [hy.eq]; exact ⟨relabelR_wf hwf .., relabelR_root ..⟩
  · exact ⟨perm_wf hwf hy.perm hy.root, hy.root⟩
def tbOf (S : St) (j : Nat) : Option tblT.den := match S.res[j]? with
  | some (.cust t _ x) => match decEq t tblT with
    | .isTrue h => some (h ▸ x)
    | _ => none
  | _ => none
noncomputable def s44 : Sv PP := ⟨44, hspec doH [] fun ss S => match ss with
  | .ptr j 0 :: rest => match tbOf S j, asArgs [opT] rest with
    | some T, some (o, ()) => some ([j], (T, o))
    | _, _ => none
  | _ => none, ⟨rfl, hspec_ok do_ok _ _⟩⟩
theorem sameO_iff (a b : Info) : sameO a b = true ↔ a = b := by
  obtain ⟨a1, a2, a3, a4, a5, a6⟩ := a
  obtain ⟨b1, b2, b3, b4, b5, b6⟩ := b
  simp [sameO, sameL]
theorem sameO_ok : PSpecOk PP 50 (Q [infoT, infoT] [.bool] (fun _ => true) (fun x => (sameO x.1 x.2.1, ()))) := by
  refine pspec_Q mixed (fn := Try.f50) (c := c50) rfl rfl _ _ rfl ?_
  rintro ⟨a, b, ⟨⟩⟩ - -
  refine ⟨eP [p25], env_ok .., rfl, hold (sameO_vc a b) ?_⟩
  simp only [true_and, and_true, Prod.eta, eq_self_iff_true, toNat_cast]
  refine ⟨sameO a b, ⟨fun h1 => ⟨fun h2 => ⟨fun h3 => ⟨fun h4 => ⟨fun h5 => ?_, fun h => ?_⟩, fun h => ?_⟩, fun h => ?_⟩, fun h => ?_⟩, fun h => ?_⟩, rfl⟩
  all_goals simp only [beq_iff_eq, Bool.not_true, beq_eq_false_iff_ne] at *
  all_goals simp [sameO, *]
noncomputable def p50 : Pv PP := ⟨50, _, ⟨rfl, sameO_ok⟩⟩
noncomputable def p49 : Pv PP := ⟨49, _, ⟨rfl, sameI_ok⟩⟩
end Go.Proofs.Ythoaelmomocohaa
namespace Go.Proofs.Ythoaelmomocohaa
open Go.Proofs.Ythoaelmomocohaa.Gx
set_option maxRecDepth 100000
set_option linter.unusedVariables false
set_option maxHeartbeats 0
structure RunInv (sc : List Op1) (x : Nat × Tb) : Prop where
  le : x.1 ≤ sc.length
  d : DoP ([], 1) x.2
def runLoop (sc : List Op1) : List (Nat × (St → Option LoopSpec)) :=
  [(3, fun S => match getT S.fr.tm 3 with
    | .ptr j 0 => some { α := Nat × Tb, inv := fun x => RunInv sc x, ov := fun x => [(10, .int .i64 (x.1 : Int)), (3, .ptr j 0)], rov := fun x => [(j, .cust tblT KT.cust x.2)], meas := fun x => sc.length - x.1 }
    | _ => none)]
theorem run_vc (sc : List Op1) : (fvc PP (envC PP [] [s12, m11, s44] [] [] (runLoop sc) [16, 17]) Try.f19 c19 (runH.ss sc) (St1 (runH.Rs sc)) (fun r S => finR.T r S fun r S => altsOk 0 sc r S runH.alts)) = (
  True ∧ ((1 : Int) = (1 : Int) ∧ ((2 : Int) = (2 : Int) ∧ ([] : List (Int × Int)) = [] ∧ True) ∧ True) ∧ True ∧ (∀ (y : Unit), NoNew (1 : Int) ((2 : Int), []) → sc.length ≤ maxLen → False) ∧ (∀ (y : Tb), NewP (1 : Int) 
  ((2 : Int), []) y → sc.length ≤ maxLen → ∃ (x0 : Nat × Tb), RunInv sc x0 ∧ ((True ∧ True) ∧ ((0 : Int) = (↑x0.fst : Int) ∧ True ∧ (↑sc.length : Int) = (↑sc.length : Int) ∧ sc = sc ∧ sc = sc ∧ True) ∧ ((2 : Int) = (2 : 
  Int) ∧ SV.val (Value.slice none (0 : Nat) (0 : Nat)) = SV.val (Value.slice none (0 : Nat) (0 : Nat)) ∧ True) ∧ (KT.cust = KT.cust ∧ y = x0.snd) ∧ True) ∧ ∀ (x : Nat × Tb), RunInv sc x → (decide ((↑x.fst : Int) < 
  (↑sc.length : Int)) = true → ((0 : Int) ≤ (↑x.fst : Int) ∧ (↑x.fst : Int) < (↑sc.length : Int)) ∧ ∀ (y : Int × Int × Int × Int × Int × Int × List (Int × Int)), sc[(↑x.fst : Int).toNat]? = some y → ∃ (v : Bool), decide 
  ((↑x.fst : Int) ≥ (100 : Int)) = v ∧ (v = true → ∃ (y : Tb), DoP ([], (1 : Int)) y ∧ True ∧ ((KT.cust = KT.cust ∧ x.snd = y) ∧ True) ∧ True ∧ True) ∧ (v = false → WfT x.snd ∧ (True ∧ (y.fst = y.fst ∧ y.snd.fst = 
  y.snd.fst ∧ y.snd.snd.fst = y.snd.snd.fst ∧ y.snd.snd.snd.fst = y.snd.snd.snd.fst ∧ y.snd.snd.snd.snd.fst = y.snd.snd.snd.snd.fst ∧ y.snd.snd.snd.snd.snd.fst = y.snd.snd.snd.snd.snd.fst ∧ y.snd.snd.snd.snd.snd.snd = 
  y.snd.snd.snd.snd.snd.snd ∧ True) ∧ True) ∧ ((KT.cust = KT.cust ∧ x.snd = x.snd) ∧ True) ∧ (∀ (y : Tb), DoP x.snd y → ∃ (x' : Nat × Tb), RunInv sc x' ∧ sc.length - x'.fst < sc.length - x.fst ∧ (True ∧ True) ∧ 
  (IntKind.i64.wrap ((↑x.fst : Int) + (1 : Int)) = (↑x'.fst : Int) ∧ True ∧ (↑sc.length : Int) = (↑sc.length : Int) ∧ sc = sc ∧ sc = sc ∧ True) ∧ ((2 : Int) = (2 : Int) ∧ SV.val (Value.slice none (0 : Nat) (0 : Nat)) = 
  SV.val (Value.slice none (0 : Nat) (0 : Nat)) ∧ True) ∧ (KT.cust = KT.cust ∧ y = x'.snd) ∧ True) ∧ True)) ∧ (decide ((↑x.fst : Int) < (↑sc.length : Int)) = false → ∃ (y : Tb), DoP ([], (1 : Int)) y ∧ True ∧ ((KT.cust = 
  KT.cust ∧ x.snd = y) ∧ True) ∧ True ∧ True)) ∧ True) := by kernel_rfl
structure Alike (T U : Tb) : Prop where
  wf : WfT T
  perm : U.1.Perm T.1
  root : U.2 = T.2
def sameH : HC where
  α := Tb × Tb
  m := 2
  ss := fun _ => [.ptr 0 0, .ptr 1 0]
  Rs := fun x => [.cust tblT KT.cust x.1, .cust tblT KT.cust x.2]
  pre := fun x => Alike x.1 x.2
  alts := [{ β := Unit, post := fun _ _ => True, r := fun _ _ => .bool true, res := fun x _ => [.cust tblT KT.cust x.1, .cust tblT KT.cust x.2], kp := [true, true] }]
def sameTLoop (ids : List Int) : List (Nat × (St → Option LoopSpec)) :=
  [(5, fun _ => some { α := Nat, inv := fun i => i ≤ ids.length, ov := fun i => [(25, .int .i64 (i : Int))], rov := fun _ => [], meas := fun i => ids.length - i })]
theorem same_vc (T U : Tb) : (fvc PP (env PP [p49, p50] [m15, m22, m26] [] [] (sameTLoop (idsT T))) Try.f28 c28 (sameH.ss (T, U)) (St1 (sameH.Rs (T, U))) (fun r S => (Fin.perm fun _ => [0, 1]).T r S fun r S => altsOk 2 (T, U) r S sameH.alts)) = (
  WfT T ∧ (True ∧ True) ∧ ((KT.cust = KT.cust ∧ T = idsC.inn T) ∧ True) ∧ (∀ (y : List Int), Ran (idsT T) y → WfT U ∧ (True ∧ True) ∧ ((KT.cust = KT.cust ∧ U = idsC.inn U) ∧ True) ∧ (∀ (y_1 : List Int), Ran (idsT U) y_1 
  → true = true ∧ ((!sameI y y_1) = true → ∃ (y : Unit), True ∧ false = true ∧ ((KT.cust = KT.cust ∧ T = T) ∧ (KT.cust = KT.cust ∧ U = U) ∧ True) ∧ (True ∧ True ∧ True) ∧ True) ∧ ((!sameI y y_1) = false → y.length ≤ 
  maxLen → ∃ (x0 : Nat), x0.le (idsT T).length ∧ (((True ∧ True ∧ True) ∧ True) ∧ ((0 : Int) = (↑x0 : Int) ∧ (↑y.length : Int) = (↑y.length : Int) ∧ y = y ∧ false = false ∧ y = y ∧ True ∧ True ∧ True) ∧ (KT.cust = 
  KT.cust ∧ T = T) ∧ (KT.cust = KT.cust ∧ U = U) ∧ True) ∧ ∀ (x : Nat), x.le (idsT T).length → (decide ((↑x : Int) < (↑y.length : Int)) = true → ((0 : Int) ≤ (↑x : Int) ∧ (↑x : Int) < (↑y.length : Int)) ∧ ∀ (y_2 : Int), 
  y[(↑x : Int).toNat]? = some y_2 → WfT T ∧ (True ∧ y_2 = y_2 ∧ True) ∧ ((KT.cust = KT.cust ∧ T = infoV.inn (T, y_2)) ∧ True) ∧ (∀ (y_3 : Info × Bool), Ran (infoR T y_2) y_3 → WfT U ∧ (True ∧ y_2 = y_2 ∧ True) ∧ 
  ((KT.cust = KT.cust ∧ U = infoV.inn (U, y_2)) ∧ True) ∧ (∀ (y_4 : Info × Bool), Ran (infoR U y_2) y_4 → WfT T ∧ (True ∧ y_2 = y_2 ∧ True) ∧ ((KT.cust = KT.cust ∧ T = listV.inn (T, y_2)) ∧ True) ∧ (∀ (y_5 : List Int × 
  Int), Ran (listR T y_2) y_5 → WfT U ∧ (True ∧ y_2 = y_2 ∧ True) ∧ ((KT.cust = KT.cust ∧ U = listV.inn (U, y_2)) ∧ True) ∧ (∀ (y_6 : List Int × Int), Ran (listR U y_2) y_6 → true = true ∧ ((!sameO (y_3.fst.fst, 
  y_3.fst.snd.fst, y_3.fst.snd.snd.fst, y_3.fst.snd.snd.snd.fst, y_3.fst.snd.snd.snd.snd.fst, y_3.fst.snd.snd.snd.snd.snd.fst, y_3.fst.snd.snd.snd.snd.snd.snd) (y_4.fst.fst, y_4.fst.snd.fst, y_4.fst.snd.snd.fst, 
  y_4.fst.snd.snd.snd.fst, y_4.fst.snd.snd.snd.snd.fst, y_4.fst.snd.snd.snd.snd.snd.fst, y_4.fst.snd.snd.snd.snd.snd.snd)) = false → ((y_5.snd != y_6.snd) = false → true = true ∧ ((!sameI y_5.fst y_6.fst) = true → ∃ (y : 
  Unit), True ∧ false = true ∧ ((KT.cust = KT.cust ∧ T = T) ∧ (KT.cust = KT.cust ∧ U = U) ∧ True) ∧ (True ∧ True ∧ True) ∧ True) ∧ ((!sameI y_5.fst y_6.fst) = false → ∃ (x' : Nat), x'.le (idsT T).length ∧ (idsT T).length 
  - x' < (idsT T).length - x ∧ ((True ∧ True ∧ True) ∧ True) ∧ (IntKind.i64.wrap ((↑x : Int) + (1 : Int)) = (↑x' : Int) ∧ (↑y.length : Int) = (↑y.length : Int) ∧ y = y ∧ false = false ∧ y = y ∧ True ∧ True ∧ True) ∧ 
  (KT.cust = KT.cust ∧ T = T) ∧ (KT.cust = KT.cust ∧ U = U) ∧ True)) ∧ ((y_5.snd != y_6.snd) = !false → ∃ (y : Unit), True ∧ false = true ∧ ((KT.cust = KT.cust ∧ T = T) ∧ (KT.cust = KT.cust ∧ U = U) ∧ True) ∧ (True ∧ 
  True ∧ True) ∧ True)) ∧ ((!sameO (y_3.fst.fst, y_3.fst.snd.fst, y_3.fst.snd.snd.fst, y_3.fst.snd.snd.snd.fst, y_3.fst.snd.snd.snd.snd.fst, y_3.fst.snd.snd.snd.snd.snd.fst, y_3.fst.snd.snd.snd.snd.snd.snd) (y_4.fst.fst, 
  y_4.fst.snd.fst, y_4.fst.snd.snd.fst, y_4.fst.snd.snd.snd.fst, y_4.fst.snd.snd.snd.snd.fst, y_4.fst.snd.snd.snd.snd.snd.fst, y_4.fst.snd.snd.snd.snd.snd.snd)) = !false → ∃ (y : Unit), True ∧ false = true ∧ ((KT.cust = 
  KT.cust ∧ T = T) ∧ (KT.cust = KT.cust ∧ U = U) ∧ True) ∧ (True ∧ True ∧ True) ∧ True)) ∧ True) ∧ True) ∧ True) ∧ True) ∧ (decide ((↑x : Int) < (↑y.length : Int)) = false → ∃ (y : Unit), True ∧ true = true ∧ ((KT.cust = 
  KT.cust ∧ T = T) ∧ (KT.cust = KT.cust ∧ U = U) ∧ True) ∧ (True ∧ True ∧ True) ∧ True))) ∧ True) ∧ True) := by kernel_rfl
end Go.Proofs.Ythoaelmomocohaa
namespace Go.Proofs.Ythoaelmomocohaa
open Go.Proofs.Ythoaelmomocohaa.Gx
set_option maxRecDepth 100000
set_option maxHeartbeats 4000000
set_option linter.unusedSimpArgs false
set_option linter.unusedVariables false
theorem no_new1 : ¬ NoNew 1 L1 := fun h => by have := h.bad; rw [g0] at this; cases this
theorem run_ok : runH.ok PP 19 := by
  refine hc_ofP finR mixed (fn := Try.f19) (c := c19) rfl rfl runH (fun x => rfl) ?_
  rintro sc -
  refine ⟨envC PP [] [s12, m11, s44] [] [] (runLoop sc) [16, 17], envC_ok .., rfl, hold (run_vc sc) ?_⟩
  simp only [true_and, and_true, toNat_cast, eq_self_iff_true]
  refine ⟨fun _ h _ => no_new1 h, fun T hT hA => ⟨(0, T), ⟨Nat.zero_le _, hT.wf, by rw [hT.eq]; rfl⟩, ⟨⟨rfl, rfl, rfl⟩, rfl⟩, ?_⟩⟩
  rintro ⟨i, T⟩ hx
  have hi : i ≤ sc.length := hx.le
  refine ⟨fun hlt => ?_, fun _ => ⟨T, hx.d, rfl⟩⟩
  have hlt : i < sc.length := by simpa using hlt
  refine ⟨⟨by simp only; omega, by simp only; omega⟩, fun o ho => ⟨_, rfl, fun _ => ⟨T, hx.d, rfl⟩, fun _ => ⟨hx.d.wf, fun U hU => ⟨(i + 1, U), ⟨hlt, hU.wf, hU.root.trans hx.d.root⟩, ?_, ?_, rfl⟩⟩⟩⟩
  · show sc.length - (i + 1) < sc.length - i
    omega
  · exact ⟨wrap_succ hlt hA, rfl, rfl⟩
theorem same_ok : sameH.ok PP 28 := by
  refine hc_ofP (Fin.perm fun _ => [0, 1]) mixed (fn := Try.f28) (c := c28) rfl rfl sameH (fun x => rfl) ?_
  rintro ⟨T, U⟩ (h : Alike T U)
  refine ⟨env PP [p49, p50] [m15, m22, m26] [] [] (sameTLoop (idsT T)), env_ok .., rfl, hold (same_vc T U) ?_⟩
  simp only [true_and, and_true, toNat_cast, Prod.eta, eq_self_iff_true]
  have hU := perm_wf h.wf h.perm h.root
  have hl : ∀ k, lookL U.1 k = lookL T.1 k := look_perm h.perm hU.a.nodup
  refine ⟨h.wf, rfl, fun y hy => ⟨hU, rfl, fun z hz => ?_⟩⟩
  have hyz : y = z := by
    rw [hy.eq, hz.eq]
    exact (sortI_perm (h.perm.map _) h.wf.a.nodup).symm
  subst hyz
  have e1 : y = idsT T := hy.eq
  subst e1
  have eI : ∀ a : List Int, sameI a a = true := fun a => by simp [sameI]
  refine ⟨fun hn => (by rw [eI] at hn; cases hn), fun _ hA => ⟨0, Nat.zero_le _, rfl, fun i hi => ⟨fun hlt => ?_, fun _ => ⟨(), trivial⟩⟩⟩⟩
  have hlt : i < (idsT T).length := by simpa using hlt
  refine ⟨⟨by omega, by omega⟩, fun k hk => ⟨h.wf, rfl, fun a ha => ⟨hU, rfl, fun b hb => ⟨h.wf, rfl, fun c hc => ⟨hU, rfl, fun d hd => ?_⟩⟩⟩⟩⟩
  have hab : a = b := by rw [ha.eq, hb.eq]; unfold infoR; rw [hl]
  have hcd : c = d := by rw [hc.eq, hd.eq]; unfold listR; rw [hl]
  subst hab; subst hcd
  have e2 : sameO a.1 a.1 = true := (sameO_iff _ _).2 rfl
  refine ⟨fun _ => ⟨fun _ => ⟨fun hn => (by rw [eI] at hn; cases hn), fun _ => ⟨i + 1, hlt, by omega, wrap_succ hlt hA⟩⟩, fun hn => (by simp at hn)⟩, fun hn => ?_⟩
  have hn : (!sameO a.1 a.1) = !false := hn
  rw [e2] at hn; cases hn
noncomputable def s19 : Sv PP := ⟨19, hspec runH [] fun ss S => match asArgs [.slice opT] ss with | some (sc, ()) => some ([], sc) | none => none, ⟨rfl, hspec_ok run_ok _ _⟩⟩
noncomputable def s28 : Sv PP := ⟨28, hspec sameH [] fun ss S => match ss with
  | [.ptr j 0, .ptr k 0] => match tbOf S j, tbOf S k with
    | some T, some U => some ([j, k], (T, U))
    | _, _ => none
  | _ => none, ⟨rfl, hspec_ok same_ok _ _⟩⟩
end Go.Proofs.Ythoaelmomocohaa
namespace Go.Proofs.Ythoaelmomocohaa
open Go.Proofs.Ythoaelmomocohaa.Gx
set_option maxRecDepth 100000
set_option linter.unusedVariables false
set_option maxHeartbeats 0
def rowT (T : Tb) (k : Int) : List Int := (obL T.1 k).2
def oneIf (b : Bool) : Int := if b then 1 else 0
/-- How often something is linked to from what is done, and from a part of a row. -/
def cntL (T : Tb) (done : List Int) (l : List Int) (x : Int) : Int := oneIf (x == 1) + ((done.countP fun p => (rowT T p).contains x : Nat) : Int) + oneIf (l.contains x)
/-- What is reached when i are done, and of the next one the entries l. -/
structure SuB (T : Tb) (i : Nat) (l : List Int) (R L : List Int) : Prop where
  le : i ≤ R.length
  nodup : R.Nodup
  keys : ∀ x ∈ R, x ∈ T.1.map (·.1)
  one : R[0]? = some 1
  len : L.length = R.length
  cnt : ∀ (j : Nat) (x n : Int), R[j]? = some x → L[j]? = some n → n = cntL T (R.take i) l x
  clo : ∀ p ∈ R.take i, ∀ x ∈ rowT T p, x ∈ R
  clo2 : ∀ x ∈ l, x ∈ R
structure SuC (T : Tb) (i : Int) (R0 : List Int) (l : List Int) (k : Nat) (R L : List Int) : Prop where
  le : k ≤ l.length
  b : SuB T i.toNat (l.take k) R L
  hd : R0 <+: R
structure SuA (R : List Int) (id : Int) (j : Nat) (a : Int) : Prop where
  le : j ≤ R.length
  at' : (a = -1 ∧ id ∉ R.take j) ∨ ∃ m : Nat, m < j ∧ a = (m : Int) ∧ R[m]? = some id
def suLoop : List (Nat × (St → Option LoopSpec)) :=
  [(10, fun S => match getT S.fr.tm 3, getT S.fr.tm 5, getT S.fr.tm 6 with
     | .ptr j 0, .row r, .row q => match tbOf S j with
       | some T => some { α := Nat × List Int × List Int, inv := fun x => SuB T x.1 [] x.2.1 x.2.2, ov := fun x => [(7, .int .i64 (x.1 : Int)), (5, .row r), (6, .row q)], rov := fun x => [(r, .row 0 i64 x.2.1), (q, .row 0 i64 x.2.2)], meas := fun x => List.length T.1 - x.1 }
       | none => none
     | _, _, _ => none),
   (18, fun S => match getT S.fr.tm 3, getT S.fr.tm 5, getT S.fr.tm 6, getT S.fr.tm 7, getT S.fr.tm 77 with
     | .ptr j 0, .row r, .row q, .int _ i, .rs (.int .i64) l => match tbOf S j, S.res[r]? with
       | some T, some (.row _ (.int .i64) R0) => some { α := Nat × List Int × List Int, inv := fun x => SuC T i R0 l x.1 x.2.1 x.2.2, ov := fun x => [(79, .int .i64 (x.1 : Int)), (12, .int .i64 (sumQ T.1 (List.take x.1 l))), (5, .row r), (6, .row q)], rov := fun x => [(r, .row 0 i64 x.2.1), (q, .row 0 i64 x.2.2)], meas := fun x => List.length l - x.1 }
       | _, _ => none
     | _, _, _, _, _ => none),
   (26, fun S => match getT S.fr.tm 5, getT S.fr.tm 14 with
     | .row r, .int _ id => match S.res[r]? with
       | some (.row _ (.int .i64) R) => some { α := Nat × Int, inv := fun x => SuA R id x.1 x.2, ov := fun x => [(105, .int .i64 (x.1 : Int)), (17, .int .i64 x.2)], rov := fun _ => [], meas := fun x => List.length R - x.1 }
       | _ => none
     | _, _ => none),
   (42, fun S => match getT S.fr.tm 5 with
     | .row r => match S.res[r]? with
       | some (.row _ (.int .i64) R) => some { α := Nat, inv := fun i => Nat.le i (List.length R), ov := fun i => [(158, .int .i64 (i : Int))], rov := fun _ => [], meas := fun i => List.length R - i }
       | _ => none
     | _ => none)]
theorem sums_vc (sc : List Op1) : (fvc PP (envC PP [p10, p24] [s19, m22, m23, m26, m15] [] [] suLoop [25, 29]) Try.f6 c6 (ofArgs [.slice opT] (sc, ())) St0 (gives [.bool] (true, ()))) = (
  true = true ∧ True ∧ (sc = sc ∧ True) ∧ True ∧ (∀ (y : Tb), DoP ([], (1 : Int)) y → WfT y ∧ (True ∧ True) ∧ ((KT.cust = KT.cust ∧ y = idsC.inn y) ∧ True) ∧ (∀ (y_1 : List Int), Ran (idsT y) y_1 → ∃ (x0 : Nat × List Int 
  × List Int), SuB y x0.fst [] x0.snd.fst x0.snd.snd ∧ ((True ∧ True) ∧ ((0 : Int) = (↑x0.fst : Int) ∧ True ∧ True ∧ y_1 = y_1 ∧ false = false ∧ True ∧ false = false ∧ sc = sc ∧ True) ∧ (KT.cust = KT.cust ∧ y = y) ∧ [(1 
  : Int)] = x0.snd.fst ∧ [(1 : Int)] = x0.snd.snd ∧ True) ∧ ∀ (x : Nat × List Int × List Int), SuB y x.fst [] x.snd.fst x.snd.snd → x.snd.fst.length ≤ maxLen → (decide ((↑x.fst : Int) < (↑x.snd.fst.length : Int)) = true 
  → ((0 : Int) ≤ (↑x.fst : Int) ∧ (↑x.fst : Int) < (↑x.snd.fst.length : Int)) ∧ (↑x.fst : Int).toNat < x.snd.fst.length ∧ ∀ (y_2 : Int), x.snd.fst[(↑x.fst : Int).toNat]? = some y_2 → WfT y ∧ (True ∧ y_2 = y_2 ∧ True) ∧ 
  ((KT.cust = KT.cust ∧ y = listV.inn (y, y_2)) ∧ True) ∧ (∀ (y_3 : List Int × Int), Ran (listR y y_2) y_3 → ((0 : Int) ≤ (↑x.fst : Int) ∧ (↑x.fst : Int) < (↑x.snd.fst.length : Int)) ∧ (↑x.fst : Int).toNat < 
  x.snd.fst.length ∧ ∀ (y_4 : Int), x.snd.fst[(↑x.fst : Int).toNat]? = some y_4 → WfT y ∧ (True ∧ y_4 = y_4 ∧ True) ∧ ((KT.cust = KT.cust ∧ y = infoV.inn (y, y_4)) ∧ True) ∧ (∀ (y_5 : Info × Bool), Ran (infoR y y_4) y_5 
  → ∃ (v : Bool), (((!y_5.snd) = false → ((!(y_3.snd == (0 : Int)) == (y_5.fst.snd.fst == (1 : Int))) = false → ((y_3.snd != (0 : Int)) = true → (y_5.fst.snd.snd.snd.fst != (0 : Int)) = v) ∧ ((y_3.snd != (0 : Int)) = 
  !true → false = v)) ∧ ((!(y_3.snd == (0 : Int)) == (y_5.fst.snd.fst == (1 : Int))) = !false → true = v)) ∧ ((!y_5.snd) = !false → true = v)) ∧ (v = true → false = true ∧ True) ∧ (v = false → y_3.fst.length ≤ maxLen → ∃ 
  (x0 : Nat × List Int × List Int), SuC y (↑x.fst : Int) x.snd.fst y_3.fst x0.fst x0.snd.fst x0.snd.snd ∧ ((True ∧ True) ∧ ((0 : Int) = (↑x0.fst : Int) ∧ (0 : Int) = sumQ y.fst (List.take x0.fst y_3.fst) ∧ True ∧ True ∧ 
  (↑y_3.fst.length : Int) = (↑y_3.fst.length : Int) ∧ y_3.fst = y_3.fst ∧ false = false ∧ y_5.snd = y_5.snd ∧ True ∧ y_3.snd = y_3.snd ∧ y_3.fst = y_3.fst ∧ true = true ∧ (↑x.fst : Int) = (↑x.fst : Int) ∧ y_1 = y_1 ∧ 
  false = false ∧ True ∧ false = false ∧ sc = sc ∧ True) ∧ (KT.cust = KT.cust ∧ y = y) ∧ x.snd.fst = x0.snd.fst ∧ x.snd.snd = x0.snd.snd ∧ (y_5.fst.fst = y_5.fst.fst ∧ y_5.fst.snd.fst = y_5.fst.snd.fst ∧ 
  y_5.fst.snd.snd.fst = y_5.fst.snd.snd.fst ∧ y_5.fst.snd.snd.snd.fst = y_5.fst.snd.snd.snd.fst ∧ y_5.fst.snd.snd.snd.snd.fst = y_5.fst.snd.snd.snd.snd.fst ∧ y_5.fst.snd.snd.snd.snd.snd.fst = 
  y_5.fst.snd.snd.snd.snd.snd.fst ∧ y_5.fst.snd.snd.snd.snd.snd.snd = y_5.fst.snd.snd.snd.snd.snd.snd ∧ True) ∧ True) ∧ ∀ (x_1 : Nat × List Int × List Int), SuC y (↑x.fst : Int) x.snd.fst y_3.fst x_1.fst x_1.snd.fst 
  x_1.snd.snd → (decide ((↑x_1.fst : Int) < (↑y_3.fst.length : Int)) = true → ((0 : Int) ≤ (↑x_1.fst : Int) ∧ (↑x_1.fst : Int) < (↑y_3.fst.length : Int)) ∧ ∀ (y_6 : Int), y_3.fst[(↑x_1.fst : Int).toNat]? = some y_6 → WfT 
  y ∧ (True ∧ y_6 = y_6 ∧ True) ∧ ((KT.cust = KT.cust ∧ y = infoV.inn (y, y_6)) ∧ True) ∧ (∀ (y_7 : Info × Bool), Ran (infoR y y_6) y_7 → ((!y_7.snd) = false → ((0 : Int) ≤ (some (↑x_1.fst : Int)).getD (↑y_3.fst.length : 
  Int) ∧ (some (↑x_1.fst : Int)).getD (↑y_3.fst.length : Int) ≤ (↑y_3.fst.length : Int) ∧ (0 : Int) ≤ none.getD (0 : Int) ∧ none.getD (0 : Int) ≤ (some (↑x_1.fst : Int)).getD (↑y_3.fst.length : Int)) ∧ true = true ∧ (inL 
  (List.drop (0 : Nat) (List.take ((some (↑x_1.fst : Int)).getD (↑y_3.fst.length : Int)).toNat y_3.fst)) y_6 = true → false = true ∧ True) ∧ (inL (List.drop (0 : Nat) (List.take ((some (↑x_1.fst : Int)).getD 
  (↑y_3.fst.length : Int)).toNat y_3.fst)) y_6 = false → x_1.snd.fst.length ≤ maxLen → ∃ (x0 : Nat × Int), SuA x_1.snd.fst y_6 x0.fst x0.snd ∧ ((True ∧ True) ∧ ((0 : Int) = (↑x0.fst : Int) ∧ (-1 : Int) = x0.snd ∧ 
  (↑x_1.snd.fst.length : Int) = (↑x_1.snd.fst.length : Int) ∧ True ∧ IntKind.i64.wrap (sumQ y.fst (List.take x_1.fst y_3.fst) + y_7.fst.snd.snd.fst) = IntKind.i64.wrap (sumQ y.fst (List.take x_1.fst y_3.fst) + 
  y_7.fst.snd.snd.fst) ∧ false = false ∧ y_7.snd = y_7.snd ∧ True ∧ y_6 = y_6 ∧ (↑x_1.fst : Int) = (↑x_1.fst : Int) ∧ true = true ∧ (↑x_1.fst : Int) = (↑x_1.fst : Int) ∧ True ∧ True ∧ (↑y_3.fst.length : Int) = 
  (↑y_3.fst.length : Int) ∧ y_3.fst = y_3.fst ∧ false = false ∧ y_5.snd = y_5.snd ∧ True ∧ y_3.snd = y_3.snd ∧ y_3.fst = y_3.fst ∧ true = true ∧ (↑x.fst : Int) = (↑x.fst : Int) ∧ y_1 = y_1 ∧ false = false ∧ True ∧ false 
  = false ∧ sc = sc ∧ True) ∧ (KT.cust = KT.cust ∧ y = y) ∧ x_1.snd.fst = x_1.snd.fst ∧ x_1.snd.snd = x_1.snd.snd ∧ (y_5.fst.fst = y_5.fst.fst ∧ y_5.fst.snd.fst = y_5.fst.snd.fst ∧ y_5.fst.snd.snd.fst = 
  y_5.fst.snd.snd.fst ∧ y_5.fst.snd.snd.snd.fst = y_5.fst.snd.snd.snd.fst ∧ y_5.fst.snd.snd.snd.snd.fst = y_5.fst.snd.snd.snd.snd.fst ∧ y_5.fst.snd.snd.snd.snd.snd.fst = y_5.fst.snd.snd.snd.snd.snd.fst ∧ 
  y_5.fst.snd.snd.snd.snd.snd.snd = y_5.fst.snd.snd.snd.snd.snd.snd ∧ True) ∧ (y_7.fst.fst = y_7.fst.fst ∧ y_7.fst.snd.fst = y_7.fst.snd.fst ∧ y_7.fst.snd.snd.fst = y_7.fst.snd.snd.fst ∧ y_7.fst.snd.snd.snd.fst = 
  y_7.fst.snd.snd.snd.fst ∧ y_7.fst.snd.snd.snd.snd.fst = y_7.fst.snd.snd.snd.snd.fst ∧ y_7.fst.snd.snd.snd.snd.snd.fst = y_7.fst.snd.snd.snd.snd.snd.fst ∧ y_7.fst.snd.snd.snd.snd.snd.snd = 
  y_7.fst.snd.snd.snd.snd.snd.snd ∧ True) ∧ True) ∧ ∀ (x_2 : Nat × Int), SuA x_1.snd.fst y_6 x_2.fst x_2.snd → (decide ((↑x_2.fst : Int) < (↑x_1.snd.fst.length : Int)) = true → ((0 : Int) ≤ (↑x_2.fst : Int) ∧ (↑x_2.fst : 
  Int) < (↑x_1.snd.fst.length : Int)) ∧ (↑x_2.fst : Int).toNat < x_1.snd.fst.length ∧ ∀ (y_8 : Int), x_1.snd.fst[(↑x_2.fst : Int).toNat]? = some y_8 → ((y_8 == y_6) = true → ∃ (x' : Nat × Int), SuA x_1.snd.fst y_6 x'.fst 
  x'.snd ∧ x_1.snd.fst.length - x'.fst < x_1.snd.fst.length - x_2.fst ∧ (True ∧ True) ∧ (IntKind.i64.wrap ((↑x_2.fst : Int) + (1 : Int)) = (↑x'.fst : Int) ∧ (↑x_2.fst : Int) = x'.snd ∧ (↑x_1.snd.fst.length : Int) = 
  (↑x_1.snd.fst.length : Int) ∧ True ∧ IntKind.i64.wrap (sumQ y.fst (List.take x_1.fst y_3.fst) + y_7.fst.snd.snd.fst) = IntKind.i64.wrap (sumQ y.fst (List.take x_1.fst y_3.fst) + y_7.fst.snd.snd.fst) ∧ false = false ∧ 
  y_7.snd = y_7.snd ∧ True ∧ y_6 = y_6 ∧ (↑x_1.fst : Int) = (↑x_1.fst : Int) ∧ true = true ∧ (↑x_1.fst : Int) = (↑x_1.fst : Int) ∧ True ∧ True ∧ (↑y_3.fst.length : Int) = (↑y_3.fst.length : Int) ∧ y_3.fst = y_3.fst ∧ 
  false = false ∧ y_5.snd = y_5.snd ∧ True ∧ y_3.snd = y_3.snd ∧ y_3.fst = y_3.fst ∧ true = true ∧ (↑x.fst : Int) = (↑x.fst : Int) ∧ y_1 = y_1 ∧ false = false ∧ True ∧ false = false ∧ sc = sc ∧ True) ∧ (KT.cust = KT.cust 
  ∧ y = y) ∧ x_1.snd.fst = x_1.snd.fst ∧ x_1.snd.snd = x_1.snd.snd ∧ (y_5.fst.fst = y_5.fst.fst ∧ y_5.fst.snd.fst = y_5.fst.snd.fst ∧ y_5.fst.snd.snd.fst = y_5.fst.snd.snd.fst ∧ y_5.fst.snd.snd.snd.fst = 
  y_5.fst.snd.snd.snd.fst ∧ y_5.fst.snd.snd.snd.snd.fst = y_5.fst.snd.snd.snd.snd.fst ∧ y_5.fst.snd.snd.snd.snd.snd.fst = y_5.fst.snd.snd.snd.snd.snd.fst ∧ y_5.fst.snd.snd.snd.snd.snd.snd = 
  y_5.fst.snd.snd.snd.snd.snd.snd ∧ True) ∧ (y_7.fst.fst = y_7.fst.fst ∧ y_7.fst.snd.fst = y_7.fst.snd.fst ∧ y_7.fst.snd.snd.fst = y_7.fst.snd.snd.fst ∧ y_7.fst.snd.snd.snd.fst = y_7.fst.snd.snd.snd.fst ∧ 
  y_7.fst.snd.snd.snd.snd.fst = y_7.fst.snd.snd.snd.snd.fst ∧ y_7.fst.snd.snd.snd.snd.snd.fst = y_7.fst.snd.snd.snd.snd.snd.fst ∧ y_7.fst.snd.snd.snd.snd.snd.snd = y_7.fst.snd.snd.snd.snd.snd.snd ∧ True) ∧ True) ∧ ((y_8 
  == y_6) = false → ∃ (x' : Nat × Int), SuA x_1.snd.fst y_6 x'.fst x'.snd ∧ x_1.snd.fst.length - x'.fst < x_1.snd.fst.length - x_2.fst ∧ (True ∧ True) ∧ (IntKind.i64.wrap ((↑x_2.fst : Int) + (1 : Int)) = (↑x'.fst : Int) 
  ∧ x_2.snd = x'.snd ∧ (↑x_1.snd.fst.length : Int) = (↑x_1.snd.fst.length : Int) ∧ True ∧ IntKind.i64.wrap (sumQ y.fst (List.take x_1.fst y_3.fst) + y_7.fst.snd.snd.fst) = IntKind.i64.wrap (sumQ y.fst (List.take x_1.fst 
  y_3.fst) + y_7.fst.snd.snd.fst) ∧ false = false ∧ y_7.snd = y_7.snd ∧ True ∧ y_6 = y_6 ∧ (↑x_1.fst : Int) = (↑x_1.fst : Int) ∧ true = true ∧ (↑x_1.fst : Int) = (↑x_1.fst : Int) ∧ True ∧ True ∧ (↑y_3.fst.length : Int) = 
  (↑y_3.fst.length : Int) ∧ y_3.fst = y_3.fst ∧ false = false ∧ y_5.snd = y_5.snd ∧ True ∧ y_3.snd = y_3.snd ∧ y_3.fst = y_3.fst ∧ true = true ∧ (↑x.fst : Int) = (↑x.fst : Int) ∧ y_1 = y_1 ∧ false = false ∧ True ∧ false 
  = false ∧ sc = sc ∧ True) ∧ (KT.cust = KT.cust ∧ y = y) ∧ x_1.snd.fst = x_1.snd.fst ∧ x_1.snd.snd = x_1.snd.snd ∧ (y_5.fst.fst = y_5.fst.fst ∧ y_5.fst.snd.fst = y_5.fst.snd.fst ∧ y_5.fst.snd.snd.fst = 
  y_5.fst.snd.snd.fst ∧ y_5.fst.snd.snd.snd.fst = y_5.fst.snd.snd.snd.fst ∧ y_5.fst.snd.snd.snd.snd.fst = y_5.fst.snd.snd.snd.snd.fst ∧ y_5.fst.snd.snd.snd.snd.snd.fst = y_5.fst.snd.snd.snd.snd.snd.fst ∧ 
  y_5.fst.snd.snd.snd.snd.snd.snd = y_5.fst.snd.snd.snd.snd.snd.snd ∧ True) ∧ (y_7.fst.fst = y_7.fst.fst ∧ y_7.fst.snd.fst = y_7.fst.snd.fst ∧ y_7.fst.snd.snd.fst = y_7.fst.snd.snd.fst ∧ y_7.fst.snd.snd.snd.fst = 
  y_7.fst.snd.snd.snd.fst ∧ y_7.fst.snd.snd.snd.snd.fst = y_7.fst.snd.snd.snd.snd.fst ∧ y_7.fst.snd.snd.snd.snd.snd.fst = y_7.fst.snd.snd.snd.snd.snd.fst ∧ y_7.fst.snd.snd.snd.snd.snd.snd = 
  y_7.fst.snd.snd.snd.snd.snd.snd ∧ True) ∧ True)) ∧ (decide ((↑x_2.fst : Int) < (↑x_1.snd.fst.length : Int)) = false → (decide (x_2.snd < (0 : Int)) = true → x_1.snd.fst.length ≤ maxLen → (x_1.snd.fst.length + 
  [y_6].length) * (8 : Nat) ≤ (140737488355328 : Nat) ∧ (x_1.snd.snd.length + (1 : Nat)) * (8 : Nat) ≤ (140737488355328 : Nat) ∧ ((0 : Int) ≤ (↑x_1.snd.fst.length : Int) ∧ (↑x_1.snd.fst.length : Int) < (↑(x_1.snd.snd ++ 
  [(0 : Int)]).length : Int)) ∧ (↑x_1.snd.fst.length : Int).toNat < (x_1.snd.snd ++ [(0 : Int)]).length ∧ ∀ (y_8 : Int), (x_1.snd.snd ++ [(0 : Int)])[(↑x_1.snd.fst.length : Int).toNat]? = some y_8 → ((0 : Int) ≤ 
  (↑x_1.snd.fst.length : Int) ∧ (↑x_1.snd.fst.length : Int) < (↑(x_1.snd.snd ++ [(0 : Int)]).length : Int)) ∧ (↑x_1.snd.fst.length : Int).toNat < (x_1.snd.snd ++ [(0 : Int)]).length ∧ ∃ (x' : Nat × List Int × List Int), 
  SuC y (↑x.fst : Int) x.snd.fst y_3.fst x'.fst x'.snd.fst x'.snd.snd ∧ y_3.fst.length - x'.fst < y_3.fst.length - x_1.fst ∧ (True ∧ True) ∧ (IntKind.i64.wrap ((↑x_1.fst : Int) + (1 : Int)) = (↑x'.fst : Int) ∧ 
  IntKind.i64.wrap (sumQ y.fst (List.take x_1.fst y_3.fst) + y_7.fst.snd.snd.fst) = sumQ y.fst (List.take x'.fst y_3.fst) ∧ True ∧ True ∧ (↑y_3.fst.length : Int) = (↑y_3.fst.length : Int) ∧ y_3.fst = y_3.fst ∧ false = 
  false ∧ y_5.snd = y_5.snd ∧ True ∧ y_3.snd = y_3.snd ∧ y_3.fst = y_3.fst ∧ true = true ∧ (↑x.fst : Int) = (↑x.fst : Int) ∧ y_1 = y_1 ∧ false = false ∧ True ∧ false = false ∧ sc = sc ∧ True) ∧ (KT.cust = KT.cust ∧ y = 
  y) ∧ x_1.snd.fst ++ [y_6] = x'.snd.fst ∧ (x_1.snd.snd ++ [(0 : Int)]).set (↑x_1.snd.fst.length : Int).toNat (IntKind.i64.wrap (y_8 + (1 : Int))) = x'.snd.snd ∧ (y_5.fst.fst = y_5.fst.fst ∧ y_5.fst.snd.fst = 
  y_5.fst.snd.fst ∧ y_5.fst.snd.snd.fst = y_5.fst.snd.snd.fst ∧ y_5.fst.snd.snd.snd.fst = y_5.fst.snd.snd.snd.fst ∧ y_5.fst.snd.snd.snd.snd.fst = y_5.fst.snd.snd.snd.snd.fst ∧ y_5.fst.snd.snd.snd.snd.snd.fst = 
  y_5.fst.snd.snd.snd.snd.snd.fst ∧ y_5.fst.snd.snd.snd.snd.snd.snd = y_5.fst.snd.snd.snd.snd.snd.snd ∧ True) ∧ True) ∧ (decide (x_2.snd < (0 : Int)) = false → ((0 : Int) ≤ x_2.snd ∧ x_2.snd < (↑x_1.snd.snd.length : 
  Int)) ∧ x_2.snd.toNat < x_1.snd.snd.length ∧ ∀ (y_8 : Int), x_1.snd.snd[x_2.snd.toNat]? = some y_8 → ((0 : Int) ≤ x_2.snd ∧ x_2.snd < (↑x_1.snd.snd.length : Int)) ∧ x_2.snd.toNat < x_1.snd.snd.length ∧ ∃ (x' : Nat × 
  List Int × List Int), SuC y (↑x.fst : Int) x.snd.fst y_3.fst x'.fst x'.snd.fst x'.snd.snd ∧ y_3.fst.length - x'.fst < y_3.fst.length - x_1.fst ∧ (True ∧ True) ∧ (IntKind.i64.wrap ((↑x_1.fst : Int) + (1 : Int)) = 
  (↑x'.fst : Int) ∧ IntKind.i64.wrap (sumQ y.fst (List.take x_1.fst y_3.fst) + y_7.fst.snd.snd.fst) = sumQ y.fst (List.take x'.fst y_3.fst) ∧ True ∧ True ∧ (↑y_3.fst.length : Int) = (↑y_3.fst.length : Int) ∧ y_3.fst = 
  y_3.fst ∧ false = false ∧ y_5.snd = y_5.snd ∧ True ∧ y_3.snd = y_3.snd ∧ y_3.fst = y_3.fst ∧ true = true ∧ (↑x.fst : Int) = (↑x.fst : Int) ∧ y_1 = y_1 ∧ false = false ∧ True ∧ false = false ∧ sc = sc ∧ True) ∧ (KT.cust 
  = KT.cust ∧ y = y) ∧ x_1.snd.fst = x'.snd.fst ∧ x_1.snd.snd.set x_2.snd.toNat (IntKind.i64.wrap (y_8 + (1 : Int))) = x'.snd.snd ∧ (y_5.fst.fst = y_5.fst.fst ∧ y_5.fst.snd.fst = y_5.fst.snd.fst ∧ y_5.fst.snd.snd.fst = 
  y_5.fst.snd.snd.fst ∧ y_5.fst.snd.snd.snd.fst = y_5.fst.snd.snd.snd.fst ∧ y_5.fst.snd.snd.snd.snd.fst = y_5.fst.snd.snd.snd.snd.fst ∧ y_5.fst.snd.snd.snd.snd.snd.fst = y_5.fst.snd.snd.snd.snd.snd.fst ∧ 
  y_5.fst.snd.snd.snd.snd.snd.snd = y_5.fst.snd.snd.snd.snd.snd.snd ∧ True) ∧ True)))) ∧ ((!y_7.snd) = !false → false = true ∧ True)) ∧ True) ∧ (decide ((↑x_1.fst : Int) < (↑y_3.fst.length : Int)) = false → ∃ (v : Bool), 
  (((y_5.fst.snd.snd.snd.fst != sumQ y.fst (List.take x_1.fst y_3.fst)) = false → decide (y_5.fst.snd.snd.snd.fst > y_5.fst.snd.snd.fst) = v) ∧ ((y_5.fst.snd.snd.snd.fst != sumQ y.fst (List.take x_1.fst y_3.fst)) = 
  !false → true = v)) ∧ (v = true → false = true ∧ True) ∧ (v = false → ∃ (x' : Nat × List Int × List Int), SuB y x'.fst [] x'.snd.fst x'.snd.snd ∧ y.fst.length - x'.fst < y.fst.length - x.fst ∧ (True ∧ True) ∧ 
  (IntKind.i64.wrap ((↑x.fst : Int) + (1 : Int)) = (↑x'.fst : Int) ∧ True ∧ True ∧ y_1 = y_1 ∧ false = false ∧ True ∧ false = false ∧ sc = sc ∧ True) ∧ (KT.cust = KT.cust ∧ y = y) ∧ x_1.snd.fst = x'.snd.fst ∧ x_1.snd.snd 
  = x'.snd.snd ∧ True)))) ∧ True) ∧ True) ∧ (decide ((↑x.fst : Int) < (↑x.snd.fst.length : Int)) = false → x.snd.fst.length ≤ maxLen → y_1.length ≤ maxLen → (((↑x.snd.fst.length : Int) != (↑y_1.length : Int)) = false → 
  WfT y ∧ (True ∧ True) ∧ ((KT.cust = KT.cust ∧ y = lenV.inn y) ∧ True) ∧ (∀ (y_2 : Int), Ran (↑y.fst.length : Int) y_2 → y_1.length ≤ maxLen → ((y_2 != (↑y_1.length : Int)) = true → false = true ∧ True) ∧ ((y_2 != 
  (↑y_1.length : Int)) = false → x.snd.fst.length ≤ maxLen → ∃ (x0 : Nat), x0.le x.snd.fst.length ∧ ((True ∧ True) ∧ ((0 : Int) = (↑x0 : Int) ∧ (↑x.snd.fst.length : Int) = (↑x.snd.fst.length : Int) ∧ True ∧ false = false 
  ∧ false = false ∧ (↑x.fst : Int) = (↑x.fst : Int) ∧ True ∧ True ∧ y_1 = y_1 ∧ false = false ∧ True ∧ false = false ∧ sc = sc ∧ True) ∧ (KT.cust = KT.cust ∧ y = y) ∧ x.snd.fst = x.snd.fst ∧ x.snd.snd = x.snd.snd ∧ True) 
  ∧ ∀ (x_1 : Nat), x_1.le x.snd.fst.length → (decide ((↑x_1 : Int) < (↑x.snd.fst.length : Int)) = true → ((0 : Int) ≤ (↑x_1 : Int) ∧ (↑x_1 : Int) < (↑x.snd.fst.length : Int)) ∧ (↑x_1 : Int).toNat < x.snd.fst.length ∧ ∀ 
  (y_3 : Int), x.snd.fst[(↑x_1 : Int).toNat]? = some y_3 → WfT y ∧ (True ∧ y_3 = y_3 ∧ True) ∧ ((KT.cust = KT.cust ∧ y = infoV.inn (y, y_3)) ∧ True) ∧ (∀ (y_4 : Info × Bool), Ran (infoR y y_3) y_4 → ∃ (v : Bool), (((0 : 
  Int) ≤ (↑x_1 : Int) ∧ (↑x_1 : Int) < (↑x.snd.snd.length : Int)) ∧ (↑x_1 : Int).toNat < x.snd.snd.length ∧ ∀ (y : Int), x.snd.snd[(↑x_1 : Int).toNat]? = some y → ((y_4.fst.snd.snd.snd.snd.fst != y) = false → 
  ((y_4.fst.fst != y_3) = false → decide (y_4.fst.snd.snd.fst < (1 : Int)) = v) ∧ ((y_4.fst.fst != y_3) = !false → true = v)) ∧ ((y_4.fst.snd.snd.snd.snd.fst != y) = !false → true = v)) ∧ (v = true → false = true ∧ True) 
  ∧ (v = false → ∃ (x' : Nat), x'.le x.snd.fst.length ∧ x.snd.fst.length - x' < x.snd.fst.length - x_1 ∧ (True ∧ True) ∧ (IntKind.i64.wrap ((↑x_1 : Int) + (1 : Int)) = (↑x' : Int) ∧ (↑x.snd.fst.length : Int) = 
  (↑x.snd.fst.length : Int) ∧ True ∧ false = false ∧ false = false ∧ (↑x.fst : Int) = (↑x.fst : Int) ∧ True ∧ True ∧ y_1 = y_1 ∧ false = false ∧ True ∧ false = false ∧ sc = sc ∧ True) ∧ (KT.cust = KT.cust ∧ y = y) ∧ 
  x.snd.fst = x.snd.fst ∧ x.snd.snd = x.snd.snd ∧ True)) ∧ True) ∧ (decide ((↑x_1 : Int) < (↑x.snd.fst.length : Int)) = false → true = true ∧ True))) ∧ True) ∧ (((↑x.snd.fst.length : Int) != (↑y_1.length : Int)) = !false 
  → false = true ∧ True))) ∧ True) ∧ True) := by kernel_rfl
end Go.Proofs.Ythoaelmomocohaa
namespace Go.Proofs.Ythoaelmomocohaa
open Go.Proofs.Ythoaelmomocohaa.Gx
set_option maxRecDepth 100000
set_option maxHeartbeats 4000000
set_option linter.unusedSimpArgs false
set_option linter.unusedVariables false
variable {T : Tb} {R L R0 l : List Int} {i k : Nat} {x id : Int}
theorem key_some {A : Al} {k : Int} (h : k ∈ A.map (·.1)) : ∃ o, lookL A k = some o := by
  cases ho : lookL A k with
  | none => exact absurd h ((lookL_none _).1 ho)
  | some o => exact ⟨o, rfl⟩
theorem some_key {A : Al} {k : Int} {o : Ob} (h : lookL A k = some o) : k ∈ A.map (·.1) := List.mem_map.2 ⟨_, lookL_mem h, rfl⟩
theorem su_init (h : WfT T) (hr : T.2 = 1) : SuB T 0 [] [1] [1] := by
  obtain ⟨o, ho, _⟩ := h.root
  rw [hr] at ho
  refine ⟨Nat.zero_le _, by simp, ?_, rfl, rfl, ?_, ?_, ?_⟩
  · intro x hx; obtain rfl := List.mem_singleton.1 hx; exact some_key ho
  · intro j x n hj hn
    cases j with
    | zero => simp at hj hn; subst hj; subst hn; rfl
    | succ j => simp at hj
  · intro p hp; simp at hp
  · intro x hx; cases hx
theorem SuB.few (h : SuB T i l R L) (hw : WfT T) : R.length ≤ T.1.length := by
  have := h.nodup.length_le_of_subset h.keys
  simpa using this
theorem SuB.start (h : SuB T i [] R L) (m : List Int) : SuC T (i : Int) R m 0 R L := ⟨Nat.zero_le _, h, List.prefix_refl _⟩
theorem take_one {l : List Int} {k : Nat} {x : Int} (h : l[k]? = some x) : l.take (k + 1) = l.take k ++ [x] := by
  rw [List.take_add_one, h]; rfl
theorem cnt_small (hw : WfT T) (h : SuB T i l R L) (x : Int) : 0 ≤ cntL T (R.take i) l x ∧ cntL T (R.take i) l x ≤ 4098 := by
  have h1 : (R.take i).countP (fun p => (rowT T p).contains x) ≤ (R.take i).length := List.countP_le_length
  have h2 := h.few hw
  have h3 := hw.a.few
  have h4 : (R.take i).length ≤ R.length := by rw [List.length_take]; omega
  unfold cntL oneIf
  split <;> split <;> omega
theorem contains_snoc (l : List Int) (x z : Int) : (l ++ [x]).contains z = (l.contains z || (z == x)) := by
  rw [Bool.eq_iff_iff]; simp
theorem su_new (hw : WfT T) (h : SuC T (i : Int) R0 l k R L) (hk : l[k]? = some x) (hx : x ∉ R) (hT : x ∈ T.1.map (·.1)) : SuC T (i : Int) R0 l (k + 1) (R ++ [x]) (L ++ [1]) := by
  have hb : SuB T i (l.take k) R L := h.b
  have hkl := (List.getElem?_eq_some_iff.1 hk).1
  have ht : (R ++ [x]).take i = R.take i := List.take_append_of_le_length hb.le
  refine ⟨hkl, ?_, h.hd.trans (List.prefix_append _ _)⟩
  show SuB T i (l.take (k + 1)) (R ++ [x]) (L ++ [1])
  rw [take_one hk]
  refine ⟨by rw [List.length_append]; have := hb.le; omega, ?_, ?_, ?_, by rw [List.length_append, List.length_append, hb.len]; rfl, ?_, ?_, ?_⟩
  · rw [List.nodup_append]
    refine ⟨hb.nodup, by simp, fun a ha b hb2 => ?_⟩
    obtain rfl := List.mem_singleton.1 hb2
    rintro rfl; exact hx ha
  · intro z hz
    rcases List.mem_append.1 hz with hz | hz
    · exact hb.keys z hz
    · obtain rfl := List.mem_singleton.1 hz; exact hT
  · have := (List.getElem?_eq_some_iff.1 hb.one).1
    rw [List.getElem?_append_left this]; exact hb.one
  · intro j z n hj hn
    rw [ht]
    by_cases hjl : j < R.length
    · rw [List.getElem?_append_left hjl] at hj
      rw [List.getElem?_append_left (by rw [hb.len]; exact hjl)] at hn
      have hne : z ≠ x := fun e => hx (e ▸ List.mem_of_getElem? hj)
      rw [hb.cnt j z n hj hn]
      unfold cntL
      rw [contains_snoc, show (z == x) = false by simpa using hne, Bool.or_false]
    · have hj2 := (List.getElem?_eq_some_iff.1 hj).1
      rw [List.length_append] at hj2
      have e : j = R.length := by simp at hj2; omega
      subst e
      rw [List.getElem?_append_right (Nat.le_refl _), Nat.sub_self] at hj
      rw [← hb.len, List.getElem?_append_right (Nat.le_refl _), Nat.sub_self] at hn
      have hj : z = x := by simpa using hj.symm
      have hn : n = 1 := by simpa using hn.symm
      subst hj; subst hn
      have h1 : z ≠ 1 := fun e => hx (e ▸ List.mem_of_getElem? hb.one)
      have h2 : (R.take i).countP (fun p => (rowT T p).contains z) = 0 := List.countP_eq_zero.2 fun p hp hc => hx (hb.clo p hp z (by simpa using hc))
      unfold cntL
      rw [h2, contains_snoc, show (z == 1) = false by simpa using h1]
      simp [oneIf]
  · intro p hp z hz
    rw [ht] at hp
    exact List.mem_append.2 (.inl (hb.clo p hp z hz))
  · intro z hz
    rcases List.mem_append.1 hz with hz | hz
    · exact List.mem_append.2 (.inl (hb.clo2 z hz))
    · exact List.mem_append.2 (.inr hz)
theorem su_old (hw : WfT T) (h : SuC T (i : Int) R0 l k R L) (hk : l[k]? = some x) {m : Nat} {n : Int} (hm : R[m]? = some x) (hn : L[m]? = some n) (hno : x ∉ l.take k) : SuC T (i : Int) R0 l (k + 1) R (L.set m (IntKind.i64.wrap (n + 1))) := by
  have hb : SuB T i (l.take k) R L := h.b
  have hkl := (List.getElem?_eq_some_iff.1 hk).1
  refine ⟨hkl, ?_, h.hd⟩
  show SuB T i (l.take (k + 1)) R _
  rw [take_one hk]
  have hsm := cnt_small hw hb x
  have en := hb.cnt m x n hm hn
  have hwr : IntKind.i64.wrap (n + 1) = n + 1 := wrap64 (by omega) (by omega)
  rw [hwr]
  refine ⟨hb.le, hb.nodup, hb.keys, hb.one, by rw [List.length_set]; exact hb.len, ?_, hb.clo, ?_⟩
  · intro j z n' hj hn'
    rw [List.getElem?_set] at hn'
    have hml := (List.getElem?_eq_some_iff.1 hn).1
    split at hn'
    · rename_i e; subst e
      rw [hm] at hj
      obtain rfl := Option.some.inj hj
      have hn' : n + 1 = n' := Option.some.inj hn'
      rw [← hn', en]
      unfold cntL
      have hc : (l.take k).contains x = false := by
        rw [Bool.eq_false_iff]; intro h; exact hno (by simpa using h)
      rw [contains_snoc, hc]
      simp [oneIf]
    · rename_i e
      have hne : z ≠ x := fun e2 => by
        subst e2
        obtain ⟨a1, a2⟩ := List.getElem?_eq_some_iff.1 hj
        obtain ⟨b1, b2⟩ := List.getElem?_eq_some_iff.1 hm
        exact e ((List.getElem_inj hb.nodup).1 (b2.trans a2.symm))
      rw [hb.cnt j z n' hj hn']
      unfold cntL
      rw [contains_snoc, show (z == x) = false by simpa using hne, Bool.or_false]
  · intro z hz
    rcases List.mem_append.1 hz with hz | hz
    · exact hb.clo2 z hz
    · obtain rfl := List.mem_singleton.1 hz; exact List.mem_of_getElem? hm
theorem su_end (h : SuC T (i : Int) R0 l k R L) (hk : k = l.length) (hid : R0[i]? = some id) (hl : l = rowT T id) : SuB T (i + 1) [] R L := by
  have hb : SuB T i (l.take k) R L := h.b
  rw [hk, List.take_length] at hb
  have hi0 := (List.getElem?_eq_some_iff.1 hid).1
  have hR : R[i]? = some id := by
    obtain ⟨t, rfl⟩ := h.hd
    rw [List.getElem?_append_left hi0]; exact hid
  have hi := (List.getElem?_eq_some_iff.1 hR).1
  refine ⟨hi, hb.nodup, hb.keys, hb.one, hb.len, ?_, ?_, fun x hx => by cases hx⟩
  · intro j x n hj hn
    rw [hb.cnt j x n hj hn, take_one hR]
    unfold cntL
    rw [List.countP_append, hl]
    by_cases hc : x ∈ rowT T id
    · simp [hc, oneIf]; omega
    · simp [hc, oneIf]
  · intro p hp x hx
    rw [take_one hR] at hp
    rcases List.mem_append.1 hp with hp | hp
    · exact hb.clo p hp x hx
    · obtain rfl := List.mem_singleton.1 hp
      exact hb.clo2 x (hl ▸ hx)
theorem rowT_of {o : Ob} {k : Int} (h : lookL T.1 k = some o) : rowT T k = o.2 := by unfold rowT; rw [ob_of h]
theorem su_all (hw : WfT T) (hr : T.2 = 1) (h : SuB T i [] R L) (hi : i = R.length) : R.Perm (T.1.map (·.1)) := by
  have hclo : ∀ p ∈ R, ∀ x ∈ rowT T p, x ∈ R := fun p hp => h.clo p (by rw [hi, List.take_length]; exact hp)
  obtain ⟨r, hrk⟩ := hw.a.rank
  have all : ∀ (n : Nat) (k : Int), r k < n → k ∈ T.1.map (·.1) → k ∈ R := by
    intro n
    induction n with
    | zero => intro k hk; omega
    | succ n ih =>
      intro k hk hm
      obtain ⟨o, ho⟩ := key_some hm
      by_cases e : k = T.2
      · rw [e, hr]; exact List.mem_of_getElem? h.one
      · have h1 := hw.live k o ho
        have h2 := hw.a.lnk k o ho
        rw [if_neg e] at h2
        have h3 : 0 < cntA T.1 k := by omega
        obtain ⟨⟨p, op⟩, hp, hc⟩ := List.countP_pos_iff.1 h3
        have hlp := lookL_some hw.a.nodup hp
        have hkp : k ∈ op.2 := by simpa using hc
        have := hrk p op hlp k hkp
        have hpR := ih p (by omega) (some_key hlp)
        exact hclo p hpR k (by rw [rowT_of hlp]; exact hkp)
  exact (List.perm_ext_iff_of_nodup h.nodup hw.a.nodup).2 fun k => ⟨h.keys k, fun hk => all _ k (Nat.lt_succ_self _) hk⟩
theorem su_links (hw : WfT T) (hr : T.2 = 1) (h : SuB T i [] R L) (hi : i = R.length) {j : Nat} {x n : Int} {o : Ob} (hx : R[j]? = some x) (hn : L[j]? = some n) (ho : lookL T.1 x = some o) : linksOf o = n := by
  have hp := su_all hw hr h hi
  rw [h.cnt j x n hx hn, hw.a.lnk x o ho, hi, List.take_length]
  unfold cntL
  rw [hp.countP_eq, List.countP_map]
  have : T.1.countP ((fun p => (rowT T p).contains x) ∘ fun e => e.1) = cntA T.1 x := by
    unfold cntA
    refine List.countP_congr fun e he => ?_
    have := lookL_some hw.a.nodup he
    simp only [Function.comp]
    rw [rowT_of this]
  rw [this, hr]
  by_cases e : x = 1
  · simp [e, oneIf]; omega
  · simp [e, oneIf]
end Go.Proofs.Ythoaelmomocohaa
namespace Go.Proofs.Ythoaelmomocohaa
open Go.Proofs.Ythoaelmomocohaa.Gx
set_option maxRecDepth 100000
set_option maxHeartbeats 4000000
set_option linter.unusedSimpArgs false
set_option linter.unusedVariables false
theorem run_prefix : (n : Nat) → (D : DrS) → D.gone <+: (dropRun n D).gone
  | 0, D => List.prefix_refl _
  | n + 1, D => by
    unfold dropRun
    split
    · exact List.prefix_refl _
    · rename_i p s hs
      refine List.IsPrefix.trans ?_ (run_prefix n _)
      unfold dropStep
      rw [hs]
      simp only
      split
      · exact List.prefix_refl _
      · exact List.prefix_append _ _
theorem run_nil (n : Nat) {D : DrS} (h : D.stk = []) : dropRun n D = D := by
  cases n with
  | zero => rfl
  | succ n => unfold dropRun; rw [h]
structure DropF (T : Tb) (inn id : Int) (gone : List Int) (T' : Tb) : Prop where
  no : hasT T' inn id = false
  first : ∀ x, gone[0]? = some x → x = id
  len : T'.1.length + gone.length = T.1.length
  out : ∀ g ∈ gone, g ∉ T'.1.map (·.1)
  had : ∀ g ∈ gone, g ∈ T.1.map (·.1)
  nodup : gone.Nodup
  less : ∀ k o', lookL T'.1 k = some o' → ∃ o, lookL T.1 k = some o ∧ LessO o' o
theorem DropF.err {T : Tb} {inn id : Int} (h : hasT T inn id = false) : DropF T inn id [] T :=
  ⟨h, fun x hx => (by simp at hx), rfl, fun g hg => (by cases hg), fun g hg => (by cases hg), List.nodup_nil, fun k o hk => ⟨o, hk, LessO.refl o⟩⟩
theorem alive_len {A : Al} (hn : (A.map (·.1)).Nodup) : (gone : List Int) → gone.Nodup → (∀ g ∈ gone, g ∈ A.map (·.1)) → (aliveT A gone).length + gone.length = A.length
  | [], _, _ => by simp [aliveT]
  | g :: gone, hd, hm => by
    rw [List.nodup_cons] at hd
    have ih := alive_len hn gone hd.2 (fun z hz => hm z (by simp [hz]))
    have e : aliveT A (g :: gone) = (aliveT A gone).filter fun x => x.1 != g := by
      unfold aliveT
      rw [List.filter_filter]
      refine List.filter_congr fun x _ => ?_
      simp only [List.contains_cons, Bool.not_or, bne]
    have hg : g ∈ (aliveT A gone).map (·.1) := by
      obtain ⟨x, hx, rfl⟩ := List.mem_map.1 (hm g (by simp))
      refine List.mem_map.2 ⟨x, ?_, rfl⟩
      unfold aliveT
      rw [List.mem_filter]
      exact ⟨hx, by simpa using hd.1⟩
    have hnl : ((aliveT A gone).map (·.1)).Nodup := by
      unfold aliveT
      exact (List.filter_sublist.map _).nodup hn
    have key : ∀ l : Al, (l.map (·.1)).Nodup → g ∈ l.map (·.1) → (l.filter fun x => x.1 != g).length + 1 = l.length := by
      intro l
      induction l with
      | nil => intro _ h; cases h
      | cons x l ih =>
        intro h1 h2
        simp only [List.map_cons, List.nodup_cons, List.mem_cons] at h1 h2
        by_cases ex : x.1 = g
        · have : l.filter (fun x => x.1 != g) = l := List.filter_eq_self.2 fun z hz => by
            have : z.1 ≠ g := fun e2 => h1.1 (by rw [ex, ← e2]; exact List.mem_map.2 ⟨z, hz, rfl⟩)
            simp [this]
          rw [List.filter_cons_of_neg (by simp [ex]), this]; rfl
        · rw [List.filter_cons_of_pos (by simp [ex])]
          have := ih h1.2 (h2.resolve_left fun e2 => ex e2.symm)
          simp only [List.length_cons]; omega
    have := key _ hnl hg
    rw [e, List.length_cons]; omega
theorem drop_facts {T : Tb} (h : WfT T) (inn id : Int) : ((dropR T inn id).2.1 == 0) = hasT T inn id ∧ DropF T inn id (dropR T inn id).1 (dropR T inn id).2.2 := by
  unfold dropR
  cases hl : lookL T.1 inn with
  | none =>
    have : hasT T inn id = false := by simp [hasT, hl]
    exact ⟨by rw [this]; rfl, DropF.err this⟩
  | some c =>
    simp only
    split
    · rename_i hk
      have : hasT T inn id = false := by simp [hasT, hl, hk]
      exact ⟨by rw [this]; rfl, DropF.err this⟩
    · rename_i hk
      split
      · rename_i hc
        have : hasT T inn id = false := by simp only [hasT, hl, hc, Bool.and_false]
        exact ⟨by rw [this]; rfl, DropF.err this⟩
      · rename_i hc
        have hc : c.2.contains id = true := by simpa using hc
        have hin : id ∈ c.2 := by simpa using hc
        have hk : kindOf c = 1 := by simpa using hk
        refine ⟨by simp [hasT, hl, hc, hk, hin], ?_⟩
        have hD0 := drop_init (inn := inn) (id := id) h hl hin
        obtain ⟨hstk, hD⟩ := run_done _ _ hD0 (Nat.le_refl _)
        have hless : LessA (dropEnd ⟨T.1, [], [(inn, id)]⟩).A T.1 := run_less _ _ hD0
        have hD : DInv T.2 inn id (dropEnd ⟨T.1, [], [(inn, id)]⟩) := hD
        -- one step
        obtain ⟨a, b, H⟩ := hD0.head (s := []) rfl
        have ha : a = c := by have := H.hf; rw [hl] at this; exact (Option.some.inj this).symm
        subst ha
        obtain ⟨hD1, hw1⟩ := hD0.step (s := []) rfl H
        have hend : dropEnd ⟨T.1, [], [(inn, id)]⟩ = dropEnd (dropStep ⟨T.1, [], [(inn, id)]⟩) := (end_step hD0 rfl).symm
        have hA1 : (dropStep ⟨T.1, [], [(inn, id)]⟩).A = unlinkA T.1 inn id := by
          unfold dropStep; simp only; split <;> rfl
        have hid := h.a.ids _ _ H.ht
        have hne := h.a.ne hl hin
        have hlook := look_un hl H.ht hne
        have hrow : ∀ o, lookL (dropEnd ⟨T.1, [], [(inn, id)]⟩).A inn = some o → id ∉ o.2 := fun o ho hm => by
          rw [hend] at ho
          have hless1 : LessA (dropEnd (dropStep ⟨T.1, [], [(inn, id)]⟩)).A (dropStep ⟨T.1, [], [(inn, id)]⟩).A := run_less _ _ hD1
          obtain ⟨o1, h1, h2⟩ := hless1.obs _ _ ho
          rw [hA1, hlook, if_neg hne, if_pos rfl] at h1
          cases h1
          have := h2.row.subset hm
          rw [hid] at this
          simp at this
        refine ⟨?_, ?_, ?_, ?_, ?_, hD.gn, ?_⟩
        · unfold hasT
          show (match lookL (aliveT _ _) inn with | none => false | some c => _) = false
          rw [look_aliveT]
          split
          · rfl
          · rename_i c2 h2
            split at h2
            · cases h2
            · have := hrow _ h2
              simp [this]
        · intro x hx
          rw [hend] at hx
          have hg : (dropStep ⟨T.1, [], [(inn, id)]⟩).gone = [] ∧ (dropStep ⟨T.1, [], [(inn, id)]⟩).stk = [] ∨ (dropStep ⟨T.1, [], [(inn, id)]⟩).gone = [id] := by
            unfold dropStep; simp only; split
            · exact .inl ⟨rfl, rfl⟩
            · exact .inr rfl
          rcases hg with ⟨g1, g2⟩ | g1
          · rw [end_nil g2, g1] at hx; simp at hx
          · obtain ⟨t, ht⟩ := run_prefix (wtA (dropStep ⟨T.1, [], [(inn, id)]⟩).A) (dropStep ⟨T.1, [], [(inn, id)]⟩)
            have hx : (dropRun (wtA (dropStep ⟨T.1, [], [(inn, id)]⟩).A) (dropStep ⟨T.1, [], [(inn, id)]⟩)).gone[0]? = some x := hx
            rw [← ht, g1] at hx
            simpa using hx.symm
        · have hkeys := hless.keys
          have e1 := alive_len hD.a.nodup (dropEnd ⟨T.1, [], [(inn, id)]⟩).gone hD.gn (fun g hg => by
            have := (hD.dead g hg).1
            apply Classical.byContradiction
            intro hm
            rw [(lookL_none _).2 hm] at this; cases this)
          have e2 := congrArg List.length hkeys
          simp only [List.length_map] at e2
          exact e1.trans e2
        · intro g hg hm
          have : lookL (aliveT (dropEnd ⟨T.1, [], [(inn, id)]⟩).A (dropEnd ⟨T.1, [], [(inn, id)]⟩).gone) g = none := by rw [look_aliveT, if_pos hg]
          exact (lookL_none _).1 this hm
        · intro g hg
          have := (hD.dead g hg).1
          rw [← hless.keys]
          apply Classical.byContradiction
          intro hm
          rw [(lookL_none _).2 hm] at this; cases this
        · intro k o' hk
          have hk : lookL (aliveT (dropEnd ⟨T.1, [], [(inn, id)]⟩).A (dropEnd ⟨T.1, [], [(inn, id)]⟩).gone) k = some o' := hk
          rw [look_aliveT] at hk
          split at hk
          · cases hk
          · exact hless.obs _ _ hk
end Go.Proofs.Ythoaelmomocohaa
namespace Go.Proofs.Ythoaelmomocohaa
open Go.Proofs.Ythoaelmomocohaa.Gx
set_option maxRecDepth 100000
set_option maxHeartbeats 4000000
set_option linter.unusedSimpArgs false
set_option linter.unusedVariables false
theorem list_row {T : Tb} (hw : WfT T) {k : Int} {o : Ob} (ho : lookL T.1 k = some o) : (listR T k).1 = rowT T k ∧ ((listR T k).2 == 0) = (kindOf o == 1) := by
  unfold listR
  rw [ho]
  simp only
  split
  · rename_i h
    refine ⟨(rowT_of ho).trans (hw.kin k o ho h) |>.symm, ?_⟩
    rw [Bool.eq_iff_iff]; simp; exact h
  · rename_i h
    have h : kindOf o = 1 := by simpa using h
    exact ⟨(rowT_of ho).symm, by simp [h]⟩
theorem sums_ok : PSpecOk PP 6 (Q [.slice opT] [.bool] (fun _ => true) (fun _ => (true, ()))) := by
  refine pspec_Q mixed (fn := Try.f6) (c := c6) rfl rfl _ _ rfl ?_
  rintro ⟨sc, ⟨⟩⟩ - -
  refine ⟨envC PP [p10, p24] [s19, m22, m23, m26, m15] [] [] suLoop [25, 29], envC_ok .., rfl, hold (sums_vc sc) ?_⟩
  simp only [true_and, and_true, eq_self_iff_true, toNat_cast]
  intro T hT
  have hw := hT.wf
  have hr : T.2 = 1 := hT.root
  have hfew := hw.a.few
  refine ⟨hw, rfl, fun ids hids => ⟨(0, [1], [1]), su_init hw hr, ⟨rfl, rfl, rfl⟩, ?_⟩⟩
  rintro ⟨i, R, L⟩ (hb : SuB T i [] R L)
  simp only
  intro hRl
  have hRf := hb.few hw
  refine ⟨fun hlt => ?_, fun hge => ?_⟩
  · have hlt : i < R.length := by simpa using hlt
    refine ⟨⟨by omega, by omega⟩, hlt, fun id hid => ⟨hw, rfl, fun d hd => ⟨⟨by omega, by omega⟩, hlt, fun id' hid' => ⟨hw, rfl, fun e he => ?_⟩⟩⟩⟩
    have : id' = id := by rw [hid] at hid'; exact (Option.some.inj hid').symm
    subst this
    obtain ⟨o, ho⟩ := key_some (hb.keys id' (List.mem_of_getElem? hid))
    obtain ⟨q1, q2⟩ := list_row hw ho
    rw [← hd.eq] at q1 q2
    have eo : e = (o.1, true) := by rw [he.eq]; unfold infoR; rw [ho]
    rw [eo]
    simp only
    have hk : o.1.2.1 = kindOf o := rfl
    have hu : o.1.2.2.2.1 = usedOf o := rfl
    have hq : o.1.2.2.1 = quotaOf o := rfl
    rw [hk, hu, hq, q2]
    have husd : usedOf o = sumQ T.1 d.1 := by rw [q1, rowT_of ho]; exact hw.a.usd _ _ ho
    have hrow : d.1 = o.2 := q1.trans (rowT_of ho)
    refine ⟨false, ⟨⟨fun _ => ⟨fun _ => ⟨fun hne => ?_, fun _ => rfl⟩, fun h => ?_⟩, fun h => (by simp at h)⟩, fun h => (by cases h), fun _ hdl => ⟨(0, R, L), hb.start _, ⟨⟨rfl, by simp [sumQ]⟩, rfl, rfl⟩, ?_⟩⟩⟩
    · have h1 : kindOf o ≠ 1 := by
        intro e2
        rw [e2] at q2
        simp at q2
        rw [q2] at hne; simp at hne
      have h2 := hw.kin _ _ ho h1
      rw [husd, hrow, h2]; simp [sumQ]
    · simp at h
    rintro ⟨k, R1, L1⟩ (hc : SuC T (i : Int) R d.1 k R1 L1)
    simp only
    have hb1 : SuB T i (d.1.take k) R1 L1 := hc.b
    have hR1 := hb1.few hw
    refine ⟨fun hlt2 => ?_, fun hge2 => ?_⟩
    · have hlt2 : k < d.1.length := by simpa using hlt2
      refine ⟨⟨by omega, by omega⟩, fun x hx => ⟨hw, rfl, fun f hf => ?_⟩⟩
      have hxm : x ∈ o.2 := hrow ▸ List.mem_of_getElem? hx
      obtain ⟨hxs, hxr⟩ := hw.a.ent _ _ ho x hxm
      obtain ⟨ox, hox⟩ : ∃ ox, lookL T.1 x = some ox := by
        cases h : lookL T.1 x with
        | none => rw [h] at hxs; cases hxs
        | some ox => exact ⟨ox, rfl⟩
      have ef : f = (ox.1, true) := by rw [hf.eq]; unfold infoR; rw [hox]
      have hno : x ∉ d.1.take k := fun hm => by
        obtain ⟨j, hj, e2⟩ := List.getElem_of_mem hm
        have hj2 : j < k := by simp at hj; omega
        rw [List.getElem_take] at e2
        obtain ⟨a1, a2⟩ := List.getElem?_eq_some_iff.1 hx
        have hnd : d.1.Nodup := hrow ▸ hw.a.rnd _ _ ho
        have := (List.getElem_inj hnd).1 (e2.trans a2.symm)
        omega
      have hsum : IntKind.i64.wrap (sumQ T.1 (d.1.take k) + f.1.2.2.1) = sumQ T.1 (d.1.take (k + 1)) := by
        have e1 : sumQ T.1 (d.1.take (k + 1)) = sumQ T.1 (d.1.take k) + quotaOf (obL T.1 x) := by
          rw [take_one hx]; simp [sumQ]
        have e2 : f.1.2.2.1 = quotaOf (obL T.1 x) := by rw [ef, ob_of hox]
        have hb2 := sumQ_bound (A := T.1) (row := d.1.take (k + 1)) (fun j hj => by
          have hj2 : j ∈ o.2 := hrow ▸ List.mem_of_mem_take hj
          have := (hw.a.ent _ _ ho j hj2).1
          cases hlj : lookL T.1 j with
          | none => rw [hlj] at this; cases this
          | some oj => rw [ob_of hlj]; have := hw.a.quo _ _ hlj; omega)
        have hfl := row_few (hw.a.rnd _ _ ho) (fun j hj => (hw.a.ent _ _ ho j hj).1)
        have hll : (d.1.take (k + 1)).length ≤ 4096 := by rw [List.length_take, hrow]; omega
        rw [e2, ← e1, wrap64 (by omega) (by omega)]
      refine ⟨fun _ => ⟨⟨by simp, by simp; omega, by simp, by simp⟩, fun h => ?_, fun _ hl1 => ⟨(0, -1), ⟨Nat.zero_le _, .inl ⟨rfl, by simp⟩⟩, ⟨rfl, rfl⟩, ?_⟩⟩, fun h => (by rw [ef] at h; simp at h)⟩
      · exact absurd (by simpa [inL] using h) hno
      rintro ⟨j, a⟩ (ha : SuA R1 x j a)
      simp only
      refine ⟨fun hlt3 => ?_, fun hge3 => ?_⟩
      · have hlt3 : j < R1.length := by simpa using hlt3
        refine ⟨⟨by omega, by omega⟩, hlt3, fun y hy => ⟨fun e2 => ⟨(j + 1, (j : Int)), ⟨hlt3, .inr ⟨j, Nat.lt_succ_self j, rfl, ?_⟩⟩, by simp only; omega, wrap_succ hlt3 hl1, rfl⟩, fun e2 => ⟨(j + 1, a), ⟨hlt3, ?_⟩, by simp only; omega, wrap_succ hlt3 hl1, rfl⟩⟩⟩
        · have e2 : y = x := by simpa using e2
          rw [← e2]; exact hy
        · have e2 : y ≠ x := by simpa using e2
          rcases ha.at' with ⟨g1, g2⟩ | ⟨m, g1, g2, g3⟩
          · refine .inl ⟨g1, fun hm => ?_⟩
            rw [take_one hy] at hm
            rcases List.mem_append.1 hm with hm | hm
            · exact g2 hm
            · exact e2 (List.mem_singleton.1 hm).symm
          · exact .inr ⟨m, by omega, g2, g3⟩
      · have hje : j = R1.length := by have := ha.le; simp at hge3; omega
        refine ⟨fun hneg hl2 => ?_, fun hneg => ?_⟩
        · have hneg : a < 0 := by simpa using hneg
          have hnx : x ∉ R1 := by
            rcases ha.at' with ⟨g1, g2⟩ | ⟨m, g1, g2, g3⟩
            · rw [hje, List.take_length] at g2; exact g2
            · omega
          refine ⟨by simp only [List.length_singleton]; omega, by rw [hb1.len]; omega, ⟨by omega, by rw [List.length_append, hb1.len]; simp; omega⟩, by rw [List.length_append, hb1.len]; simp, fun y8 hy8 => ⟨⟨by omega, by rw [List.length_append, hb1.len]; simp; omega⟩, by rw [List.length_append, hb1.len]; simp, ?_⟩⟩
          have hy0 : y8 = 0 := by
            rw [← hb1.len, List.getElem?_append_right (Nat.le_refl _), Nat.sub_self] at hy8
            simpa using hy8.symm
          subst hy0
          refine ⟨(k + 1, R1 ++ [x], L1 ++ [1]), su_new hw hc hx hnx (some_key hox), by simp only; omega, ⟨wrap_succ hlt2 hdl, hsum⟩, rfl, ?_⟩
          rw [← hb1.len, List.set_append_right _ _ (Nat.le_refl _), Nat.sub_self]
          rfl
        · have hneg : ¬ a < 0 := by simpa using hneg
          rcases ha.at' with ⟨g1, g2⟩ | ⟨m, g1, g2, g3⟩
          · omega
          · have hml := (List.getElem?_eq_some_iff.1 g3).1
            subst g2
            simp only [toNat_cast]
            refine ⟨⟨by omega, by rw [hb1.len]; omega⟩, by rw [hb1.len]; exact hml, fun n hn => ⟨⟨by omega, by rw [hb1.len]; omega⟩, by rw [hb1.len]; exact hml, (k + 1, R1, L1.set m (IntKind.i64.wrap (n + 1))), su_old hw hc hx g3 hn hno, by simp only; omega, ⟨wrap_succ hlt2 hdl, hsum⟩, rfl, rfl⟩⟩
    · have hke : k = d.1.length := by have := hc.le; simp at hge2; omega
      subst hke
      rw [List.take_length, ← husd]
      have hcap := hw.cap _ _ ho
      refine ⟨false, ⟨fun _ => by simp; omega, fun h => (by simp at h)⟩, fun h => (by cases h), fun _ => ⟨(i + 1, R1, L1), su_end hc rfl hid q1, by simp only; omega, wrap_succ hlt hRl, rfl, rfl⟩⟩
  · have hie : i = R.length := by have := hb.le; simp at hge; omega
    have hp := su_all hw hr hb hie
    have hlen : R.length = ids.length := by
      have h1 := hp.length_eq
      rw [hids.eq]
      show _ = (sortI _).length
      rw [(List.mergeSort_perm _ _ : (sortI (T.1.map (·.1))).Perm _).length_eq]; exact h1
    have hlenT : T.1.length = ids.length := by rw [← hlen]; have := hp.length_eq; simpa using this.symm
    refine fun _ hil => ⟨fun _ => ⟨hw, rfl, fun n hn _ => ⟨fun h => ?_, fun _ _ => ⟨0, Nat.zero_le _, rfl, fun j hj => ⟨fun hlt => ?_, fun _ => trivial⟩⟩⟩⟩, fun h => ?_⟩
    · rw [hn.eq, hlenT] at h; simp at h
    · have hlt : j < R.length := by simpa using hlt
      refine ⟨⟨by omega, by omega⟩, hlt, fun x hx => ⟨hw, rfl, fun f hf => ?_⟩⟩
      obtain ⟨o, ho⟩ := key_some (hb.keys x (List.mem_of_getElem? hx))
      have ef : f = (o.1, true) := by rw [hf.eq]; unfold infoR; rw [ho]
      rw [ef]
      have h1 : o.1.1 = x := hw.a.ids _ _ ho
      have h2 : 1 ≤ o.1.2.2.1 := (hw.a.quo _ _ ho).1
      refine ⟨false, ⟨⟨by omega, by rw [hb.len]; omega⟩, by rw [hb.len]; exact hlt, fun n hn => ⟨fun _ => ⟨fun _ => ?_, fun h => ?_⟩, fun h => ?_⟩⟩, fun h => (by cases h), fun _ => ⟨j + 1, hlt, by omega, wrap_succ hlt hRl⟩⟩
      · simp; omega
      · simp [h1] at h
      · have h3 : o.1.2.2.2.2.1 = n := su_links hw hr hb hie hx hn ho
        simp [h3] at h
    · rw [hlen] at h; simp at h
end Go.Proofs.Ythoaelmomocohaa
