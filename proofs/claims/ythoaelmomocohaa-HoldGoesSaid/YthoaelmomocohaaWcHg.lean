/- What the functions of the program give, one by one, and the law. -/
import Derived.Test.YthoaelmomocohaaWbHg
namespace Go.Proofs.Ythoaelmomocohaa
open Go.Proofs.Ythoaelmomocohaa.Gx
set_option maxRecDepth 100000
set_option maxHeartbeats 4000000
set_option linter.unusedSimpArgs false
set_option linter.unusedVariables false
theorem make_root (T : Tb) (inn id kind quota : Int) (l : Lab) : (makeT T inn id kind quota l).2.2 = T.2 := by
  unfold makeT
  repeat' (split <;> try rfl)
theorem linkR_root (T : Tb) (inn id : Int) : (linkR T inn id).2.2 = T.2 := by
  unfold linkR
  repeat' (split <;> try rfl)
theorem shiftR_root (T : Tb) (inn id n : Int) : (shiftR T inn id n).2.2 = T.2 := by
  unfold shiftR
  repeat' (split <;> try rfl)
theorem relabelR_root (T : Tb) (id : Int) (l : Lab) : (relabelR T id l).2.2 = T.2 := by
  unfold relabelR
  repeat' (split <;> try rfl)
theorem dropR_root (T : Tb) (inn id : Int) : (dropR T inn id).2.2.2 = T.2 := by
  unfold dropR
  repeat' (split <;> try rfl)
theorem make_err (T : Tb) (inn id kind quota : Int) (l : Lab) : (makeT T inn id kind quota l).1 ≠ 0 → (makeT T inn id kind quota l).2 = T := by
  unfold makeT
  repeat' (split <;> try (intro _; rfl))
  all_goals (intro h; exact absurd rfl h)
theorem linkR_err (T : Tb) (inn id : Int) : (linkR T inn id).1 ≠ 0 → (linkR T inn id).2 = T := by
  unfold linkR
  repeat' (split <;> try (intro _; rfl))
  all_goals (intro h; exact absurd rfl h)
theorem shiftR_err (T : Tb) (inn id n : Int) : (shiftR T inn id n).1 ≠ 0 → (shiftR T inn id n).2 = T := by
  unfold shiftR
  repeat' (split <;> try (intro _; rfl))
  all_goals (intro h; exact absurd rfl h)
theorem relabelR_err (T : Tb) (id : Int) (l : Lab) : (relabelR T id l).1 ≠ 0 → (relabelR T id l).2 = T := by
  unfold relabelR
  repeat' (split <;> try (intro _; rfl))
  all_goals (intro h; exact absurd rfl h)
theorem dropR_err (T : Tb) (inn id : Int) : (dropR T inn id).2.1 ≠ 0 → (dropR T inn id).2.2 = T := by
  unfold dropR
  repeat' (split <;> try (intro _; rfl))
  all_goals (intro h; exact absurd rfl h)
theorem do_ok : doH.ok PP 44 := by
  refine hc_ofP finR mixed (fn := Try.f44) (c := c44) rfl rfl doH (fun x => rfl) ?_
  rintro ⟨T, o⟩ (hwf : WfT T)
  refine ⟨env PP [] [m13, m14, m16, m18, m20, m27] [] [] [], env_ok .., rfl, hold (do_vc T o) ?_⟩
  simp only [true_and, and_true]
  refine ⟨fun _ => ⟨hwf, rfl, fun y hy => ⟨_, ?_, rfl⟩⟩, fun _ => ⟨fun _ => ⟨hwf, rfl, fun y hy => ⟨_, ?_, rfl⟩⟩, fun _ => ⟨fun _ => ⟨hwf, rfl, fun y hy => ⟨_, ?_, rfl⟩⟩, fun _ => ⟨fun _ => ⟨hwf, rfl, fun y hy => ⟨_, ?_, rfl⟩⟩, fun _ => ⟨fun _ => ⟨hwf, rfl, fun y hy => ⟨_, ?_, rfl⟩⟩, fun _ => ⟨fun _ => ⟨hwf, rfl, fun y hy => ⟨_, ?_, rfl⟩⟩, fun _ => ⟨_, ⟨hwf, rfl⟩, rfl⟩⟩⟩⟩⟩⟩⟩
  · rw [hy.eq]; exact ⟨makeR_wf hwf .., make_root ..⟩
  · rw [hy.eq]; exact ⟨linkR_wf hwf .., linkR_root ..⟩
  · rw [hy.eq]; exact ⟨drop_wf hwf .., dropR_root ..⟩
  · rw [hy.eq]; exact ⟨shiftR_wf hwf .., shiftR_root ..⟩
  · rw [hy.eq]; exact ⟨relabelR_wf hwf .., relabelR_root ..⟩
  · exact ⟨perm_wf hwf hy.perm hy.root, hy.root⟩
def tbOf (S : St) (j : Nat) : Option tblT.den := match S.res[j]? with
  | some (.cust t _ x) => match decEq t tblT with
    | .isTrue h => some (h ▸ x)
    | _ => none
  | _ => none
noncomputable def s44 : Sv PP := ⟨44, hspec doH [] fun ss S => match ss with
  | .ptr j 0 :: rest => match tbOf S j, asArgs [opT] rest with
    | some T, some (o, ()) => some ([j], (T, o))
    | _, _ => none
  | _ => none, ⟨rfl, hspec_ok do_ok _ _⟩⟩
theorem sameO_iff (a b : Info) : sameO a b = true ↔ a = b := by
  obtain ⟨a1, a2, a3, a4, a5, a6⟩ := a
  obtain ⟨b1, b2, b3, b4, b5, b6⟩ := b
  simp [sameO, sameL]
theorem sameO_ok : PSpecOk PP 50 (Q [infoT, infoT] [.bool] (fun _ => true) (fun x => (sameO x.1 x.2.1, ()))) := by
  refine pspec_Q mixed (fn := Try.f50) (c := c50) rfl rfl _ _ rfl ?_
  rintro ⟨a, b, ⟨⟩⟩ - -
  refine ⟨eP [p25], env_ok .., rfl, hold (sameO_vc a b) ?_⟩
  simp only [true_and, and_true, Prod.eta, eq_self_iff_true, toNat_cast]
  refine ⟨sameO a b, ⟨fun h1 => ⟨fun h2 => ⟨fun h3 => ⟨fun h4 => ⟨fun h5 => ?_, fun h => ?_⟩, fun h => ?_⟩, fun h => ?_⟩, fun h => ?_⟩, fun h => ?_⟩, rfl⟩
  all_goals simp only [beq_iff_eq, Bool.not_true, beq_eq_false_iff_ne] at *
  all_goals simp [sameO, *]
noncomputable def p50 : Pv PP := ⟨50, _, ⟨rfl, sameO_ok⟩⟩
noncomputable def p49 : Pv PP := ⟨49, _, ⟨rfl, sameI_ok⟩⟩
end Go.Proofs.Ythoaelmomocohaa
namespace Go.Proofs.Ythoaelmomocohaa
open Go.Proofs.Ythoaelmomocohaa.Gx
set_option maxRecDepth 100000
set_option linter.unusedVariables false
set_option maxHeartbeats 0
structure RunInv (sc : List Op1) (x : Nat × Tb) : Prop where
  le : x.1 ≤ sc.length
  d : DoP ([], 1) x.2
def runLoop (sc : List Op1) : List (Nat × (St → Option LoopSpec)) :=
  [(3, fun S => match getT S.fr.tm 3 with
    | .ptr j 0 => some { α := Nat × Tb, inv := fun x => RunInv sc x, ov := fun x => [(10, .int .i64 (x.1 : Int)), (3, .ptr j 0)], rov := fun x => [(j, .cust tblT KT.cust x.2)], meas := fun x => sc.length - x.1 }
    | _ => none)]
theorem run_vc (sc : List Op1) : (fvc PP (envC PP [] [s12, m11, s44] [] [] (runLoop sc) [16, 17]) Try.f19 c19 (runH.ss sc) (St1 (runH.Rs sc)) (fun r S => finR.T r S fun r S => altsOk 0 sc r S runH.alts)) = (
  True ∧ ((1 : Int) = (1 : Int) ∧ ((2 : Int) = (2 : Int) ∧ ([] : List (Int × Int)) = [] ∧ True) ∧ True) ∧ True ∧ (∀ (y : Unit), NoNew (1 : Int) ((2 : Int), []) → sc.length ≤ maxLen → False) ∧ (∀ (y : Tb), NewP (1 : Int) 
  ((2 : Int), []) y → sc.length ≤ maxLen → ∃ (x0 : Nat × Tb), RunInv sc x0 ∧ ((True ∧ True) ∧ ((0 : Int) = (↑x0.fst : Int) ∧ True ∧ (↑sc.length : Int) = (↑sc.length : Int) ∧ sc = sc ∧ sc = sc ∧ True) ∧ ((2 : Int) = (2 : 
  Int) ∧ SV.val (Value.slice none (0 : Nat) (0 : Nat)) = SV.val (Value.slice none (0 : Nat) (0 : Nat)) ∧ True) ∧ (KT.cust = KT.cust ∧ y = x0.snd) ∧ True) ∧ ∀ (x : Nat × Tb), RunInv sc x → (decide ((↑x.fst : Int) < 
  (↑sc.length : Int)) = true → ((0 : Int) ≤ (↑x.fst : Int) ∧ (↑x.fst : Int) < (↑sc.length : Int)) ∧ ∀ (y : Int × Int × Int × Int × Int × Int × List (Int × Int)), sc[(↑x.fst : Int).toNat]? = some y → ∃ (v : Bool), decide 
  ((↑x.fst : Int) ≥ (100 : Int)) = v ∧ (v = true → ∃ (y : Tb), DoP ([], (1 : Int)) y ∧ True ∧ ((KT.cust = KT.cust ∧ x.snd = y) ∧ True) ∧ True ∧ True) ∧ (v = false → WfT x.snd ∧ (True ∧ (y.fst = y.fst ∧ y.snd.fst = 
  y.snd.fst ∧ y.snd.snd.fst = y.snd.snd.fst ∧ y.snd.snd.snd.fst = y.snd.snd.snd.fst ∧ y.snd.snd.snd.snd.fst = y.snd.snd.snd.snd.fst ∧ y.snd.snd.snd.snd.snd.fst = y.snd.snd.snd.snd.snd.fst ∧ y.snd.snd.snd.snd.snd.snd = 
  y.snd.snd.snd.snd.snd.snd ∧ True) ∧ True) ∧ ((KT.cust = KT.cust ∧ x.snd = x.snd) ∧ True) ∧ (∀ (y : Tb), DoP x.snd y → ∃ (x' : Nat × Tb), RunInv sc x' ∧ sc.length - x'.fst < sc.length - x.fst ∧ (True ∧ True) ∧ 
  (IntKind.i64.wrap ((↑x.fst : Int) + (1 : Int)) = (↑x'.fst : Int) ∧ True ∧ (↑sc.length : Int) = (↑sc.length : Int) ∧ sc = sc ∧ sc = sc ∧ True) ∧ ((2 : Int) = (2 : Int) ∧ SV.val (Value.slice none (0 : Nat) (0 : Nat)) = 
  SV.val (Value.slice none (0 : Nat) (0 : Nat)) ∧ True) ∧ (KT.cust = KT.cust ∧ y = x'.snd) ∧ True) ∧ True)) ∧ (decide ((↑x.fst : Int) < (↑sc.length : Int)) = false → ∃ (y : Tb), DoP ([], (1 : Int)) y ∧ True ∧ ((KT.cust = 
  KT.cust ∧ x.snd = y) ∧ True) ∧ True ∧ True)) ∧ True) := by kernel_rfl
structure Alike (T U : Tb) : Prop where
  wf : WfT T
  perm : U.1.Perm T.1
  root : U.2 = T.2
def sameH : HC where
  α := Tb × Tb
  m := 2
  ss := fun _ => [.ptr 0 0, .ptr 1 0]
  Rs := fun x => [.cust tblT KT.cust x.1, .cust tblT KT.cust x.2]
  pre := fun x => Alike x.1 x.2
  alts := [{ β := Unit, post := fun _ _ => True, r := fun _ _ => .bool true, res := fun x _ => [.cust tblT KT.cust x.1, .cust tblT KT.cust x.2], kp := [true, true] }]
def sameTLoop (ids : List Int) : List (Nat × (St → Option LoopSpec)) :=
  [(5, fun _ => some { α := Nat, inv := fun i => i ≤ ids.length, ov := fun i => [(25, .int .i64 (i : Int))], rov := fun _ => [], meas := fun i => ids.length - i })]
theorem same_vc (T U : Tb) : (fvc PP (env PP [p49, p50] [m15, m22, m26] [] [] (sameTLoop (idsT T))) Try.f28 c28 (sameH.ss (T, U)) (St1 (sameH.Rs (T, U))) (fun r S => (Fin.perm fun _ => [0, 1]).T r S fun r S => altsOk 2 (T, U) r S sameH.alts)) = (
  WfT T ∧ (True ∧ True) ∧ ((KT.cust = KT.cust ∧ T = idsC.inn T) ∧ True) ∧ (∀ (y : List Int), Ran (idsT T) y → WfT U ∧ (True ∧ True) ∧ ((KT.cust = KT.cust ∧ U = idsC.inn U) ∧ True) ∧ (∀ (y_1 : List Int), Ran (idsT U) y_1 
  → true = true ∧ ((!sameI y y_1) = true → ∃ (y : Unit), True ∧ false = true ∧ ((KT.cust = KT.cust ∧ T = T) ∧ (KT.cust = KT.cust ∧ U = U) ∧ True) ∧ (True ∧ True ∧ True) ∧ True) ∧ ((!sameI y y_1) = false → y.length ≤ 
  maxLen → ∃ (x0 : Nat), x0.le (idsT T).length ∧ (((True ∧ True ∧ True) ∧ True) ∧ ((0 : Int) = (↑x0 : Int) ∧ (↑y.length : Int) = (↑y.length : Int) ∧ y = y ∧ false = false ∧ y = y ∧ True ∧ True ∧ True) ∧ (KT.cust = 
  KT.cust ∧ T = T) ∧ (KT.cust = KT.cust ∧ U = U) ∧ True) ∧ ∀ (x : Nat), x.le (idsT T).length → (decide ((↑x : Int) < (↑y.length : Int)) = true → ((0 : Int) ≤ (↑x : Int) ∧ (↑x : Int) < (↑y.length : Int)) ∧ ∀ (y_2 : Int), 
  y[(↑x : Int).toNat]? = some y_2 → WfT T ∧ (True ∧ y_2 = y_2 ∧ True) ∧ ((KT.cust = KT.cust ∧ T = infoV.inn (T, y_2)) ∧ True) ∧ (∀ (y_3 : Info × Bool), Ran (infoR T y_2) y_3 → WfT U ∧ (True ∧ y_2 = y_2 ∧ True) ∧ 
  ((KT.cust = KT.cust ∧ U = infoV.inn (U, y_2)) ∧ True) ∧ (∀ (y_4 : Info × Bool), Ran (infoR U y_2) y_4 → WfT T ∧ (True ∧ y_2 = y_2 ∧ True) ∧ ((KT.cust = KT.cust ∧ T = listV.inn (T, y_2)) ∧ True) ∧ (∀ (y_5 : List Int × 
  Int), Ran (listR T y_2) y_5 → WfT U ∧ (True ∧ y_2 = y_2 ∧ True) ∧ ((KT.cust = KT.cust ∧ U = listV.inn (U, y_2)) ∧ True) ∧ (∀ (y_6 : List Int × Int), Ran (listR U y_2) y_6 → true = true ∧ ((!sameO (y_3.fst.fst, 
  y_3.fst.snd.fst, y_3.fst.snd.snd.fst, y_3.fst.snd.snd.snd.fst, y_3.fst.snd.snd.snd.snd.fst, y_3.fst.snd.snd.snd.snd.snd.fst, y_3.fst.snd.snd.snd.snd.snd.snd) (y_4.fst.fst, y_4.fst.snd.fst, y_4.fst.snd.snd.fst, 
  y_4.fst.snd.snd.snd.fst, y_4.fst.snd.snd.snd.snd.fst, y_4.fst.snd.snd.snd.snd.snd.fst, y_4.fst.snd.snd.snd.snd.snd.snd)) = false → ((y_5.snd != y_6.snd) = false → true = true ∧ ((!sameI y_5.fst y_6.fst) = true → ∃ (y : 
  Unit), True ∧ false = true ∧ ((KT.cust = KT.cust ∧ T = T) ∧ (KT.cust = KT.cust ∧ U = U) ∧ True) ∧ (True ∧ True ∧ True) ∧ True) ∧ ((!sameI y_5.fst y_6.fst) = false → ∃ (x' : Nat), x'.le (idsT T).length ∧ (idsT T).length 
  - x' < (idsT T).length - x ∧ ((True ∧ True ∧ True) ∧ True) ∧ (IntKind.i64.wrap ((↑x : Int) + (1 : Int)) = (↑x' : Int) ∧ (↑y.length : Int) = (↑y.length : Int) ∧ y = y ∧ false = false ∧ y = y ∧ True ∧ True ∧ True) ∧ 
  (KT.cust = KT.cust ∧ T = T) ∧ (KT.cust = KT.cust ∧ U = U) ∧ True)) ∧ ((y_5.snd != y_6.snd) = !false → ∃ (y : Unit), True ∧ false = true ∧ ((KT.cust = KT.cust ∧ T = T) ∧ (KT.cust = KT.cust ∧ U = U) ∧ True) ∧ (True ∧ 
  True ∧ True) ∧ True)) ∧ ((!sameO (y_3.fst.fst, y_3.fst.snd.fst, y_3.fst.snd.snd.fst, y_3.fst.snd.snd.snd.fst, y_3.fst.snd.snd.snd.snd.fst, y_3.fst.snd.snd.snd.snd.snd.fst, y_3.fst.snd.snd.snd.snd.snd.snd) (y_4.fst.fst, 
  y_4.fst.snd.fst, y_4.fst.snd.snd.fst, y_4.fst.snd.snd.snd.fst, y_4.fst.snd.snd.snd.snd.fst, y_4.fst.snd.snd.snd.snd.snd.fst, y_4.fst.snd.snd.snd.snd.snd.snd)) = !false → ∃ (y : Unit), True ∧ false = true ∧ ((KT.cust = 
  KT.cust ∧ T = T) ∧ (KT.cust = KT.cust ∧ U = U) ∧ True) ∧ (True ∧ True ∧ True) ∧ True)) ∧ True) ∧ True) ∧ True) ∧ True) ∧ (decide ((↑x : Int) < (↑y.length : Int)) = false → ∃ (y : Unit), True ∧ true = true ∧ ((KT.cust = 
  KT.cust ∧ T = T) ∧ (KT.cust = KT.cust ∧ U = U) ∧ True) ∧ (True ∧ True ∧ True) ∧ True))) ∧ True) ∧ True) := by kernel_rfl
end Go.Proofs.Ythoaelmomocohaa
namespace Go.Proofs.Ythoaelmomocohaa
open Go.Proofs.Ythoaelmomocohaa.Gx
set_option maxRecDepth 100000
set_option maxHeartbeats 4000000
set_option linter.unusedSimpArgs false
set_option linter.unusedVariables false
theorem no_new1 : ¬ NoNew 1 L1 := fun h => by have := h.bad; rw [g0] at this; cases this
theorem run_ok : runH.ok PP 19 := by
  refine hc_ofP finR mixed (fn := Try.f19) (c := c19) rfl rfl runH (fun x => rfl) ?_
  rintro sc -
  refine ⟨envC PP [] [s12, m11, s44] [] [] (runLoop sc) [16, 17], envC_ok .., rfl, hold (run_vc sc) ?_⟩
  simp only [true_and, and_true, toNat_cast, eq_self_iff_true]
  refine ⟨fun _ h _ => no_new1 h, fun T hT hA => ⟨(0, T), ⟨Nat.zero_le _, hT.wf, by rw [hT.eq]; rfl⟩, ⟨⟨rfl, rfl, rfl⟩, rfl⟩, ?_⟩⟩
  rintro ⟨i, T⟩ hx
  have hi : i ≤ sc.length := hx.le
  refine ⟨fun hlt => ?_, fun _ => ⟨T, hx.d, rfl⟩⟩
  have hlt : i < sc.length := by simpa using hlt
  refine ⟨⟨by simp only; omega, by simp only; omega⟩, fun o ho => ⟨_, rfl, fun _ => ⟨T, hx.d, rfl⟩, fun _ => ⟨hx.d.wf, fun U hU => ⟨(i + 1, U), ⟨hlt, hU.wf, hU.root.trans hx.d.root⟩, ?_, ?_, rfl⟩⟩⟩⟩
  · show sc.length - (i + 1) < sc.length - i
    omega
  · exact ⟨wrap_succ hlt hA, rfl, rfl⟩
theorem same_ok : sameH.ok PP 28 := by
  refine hc_ofP (Fin.perm fun _ => [0, 1]) mixed (fn := Try.f28) (c := c28) rfl rfl sameH (fun x => rfl) ?_
  rintro ⟨T, U⟩ (h : Alike T U)
  refine ⟨env PP [p49, p50] [m15, m22, m26] [] [] (sameTLoop (idsT T)), env_ok .., rfl, hold (same_vc T U) ?_⟩
  simp only [true_and, and_true, toNat_cast, Prod.eta, eq_self_iff_true]
  have hU := perm_wf h.wf h.perm h.root
  have hl : ∀ k, lookL U.1 k = lookL T.1 k := look_perm h.perm hU.a.nodup
  refine ⟨h.wf, rfl, fun y hy => ⟨hU, rfl, fun z hz => ?_⟩⟩
  have hyz : y = z := by
    rw [hy.eq, hz.eq]
    exact (sortI_perm (h.perm.map _) h.wf.a.nodup).symm
  subst hyz
  have e1 : y = idsT T := hy.eq
  subst e1
  have eI : ∀ a : List Int, sameI a a = true := fun a => by simp [sameI]
  refine ⟨fun hn => (by rw [eI] at hn; cases hn), fun _ hA => ⟨0, Nat.zero_le _, rfl, fun i hi => ⟨fun hlt => ?_, fun _ => ⟨(), trivial⟩⟩⟩⟩
  have hlt : i < (idsT T).length := by simpa using hlt
  refine ⟨⟨by omega, by omega⟩, fun k hk => ⟨h.wf, rfl, fun a ha => ⟨hU, rfl, fun b hb => ⟨h.wf, rfl, fun c hc => ⟨hU, rfl, fun d hd => ?_⟩⟩⟩⟩⟩
  have hab : a = b := by rw [ha.eq, hb.eq]; unfold infoR; rw [hl]
  have hcd : c = d := by rw [hc.eq, hd.eq]; unfold listR; rw [hl]
  subst hab; subst hcd
  have e2 : sameO a.1 a.1 = true := (sameO_iff _ _).2 rfl
  refine ⟨fun _ => ⟨fun _ => ⟨fun hn => (by rw [eI] at hn; cases hn), fun _ => ⟨i + 1, hlt, by omega, wrap_succ hlt hA⟩⟩, fun hn => (by simp at hn)⟩, fun hn => ?_⟩
  have hn : (!sameO a.1 a.1) = !false := hn
  rw [e2] at hn; cases hn
noncomputable def s19 : Sv PP := ⟨19, hspec runH [] fun ss S => match asArgs [.slice opT] ss with | some (sc, ()) => some ([], sc) | none => none, ⟨rfl, hspec_ok run_ok _ _⟩⟩
noncomputable def s28 : Sv PP := ⟨28, hspec sameH [] fun ss S => match ss with
  | [.ptr j 0, .ptr k 0] => match tbOf S j, tbOf S k with
    | some T, some U => some ([j, k], (T, U))
    | _, _ => none
  | _ => none, ⟨rfl, hspec_ok same_ok _ _⟩⟩
end Go.Proofs.Ythoaelmomocohaa
namespace Go.Proofs.Ythoaelmomocohaa
open Go.Proofs.Ythoaelmomocohaa.Gx
set_option maxRecDepth 100000
set_option linter.unusedVariables false
set_option maxHeartbeats 0
def goLoop : List (Nat × (St → Option LoopSpec)) :=
  [(15, fun S => match getT S.fr.tm 75 with
     | .int _ g => some { α := Nat, inv := fun i => Nat.le i g.toNat, ov := fun i => [(76, .int .i64 (i : Int))], rov := fun _ => [], meas := fun i => g.toNat - i }
     | _ => none),
   (24, fun S => match getT S.fr.tm 101 with
     | .int _ l => some { α := Nat, inv := fun i => Nat.le i l.toNat, ov := fun i => [(102, .int .i64 (i : Int))], rov := fun _ => [], meas := fun i => l.toNat - i }
     | _ => none)]
theorem goes_vc (sc : List Op1) (inn id : Int) : (fvc PP (envC PP [p10, p24, p25] [s19, m20, m21, m16, m22, m23, m15] [] [] goLoop [24, 28]) Try.f5 c5 (ofArgs [.slice opT, i64, i64] (sc, inn, id, ())) St0 (gives [.bool] (true, ()))) = (
  true = true ∧ True ∧ (sc = sc ∧ True) ∧ True ∧ (∀ (y : Tb), DoP ([], (1 : Int)) y → WfT y ∧ (True ∧ True) ∧ ((KT.cust = KT.cust ∧ y = copyC.inn y) ∧ True) ∧ (∀ (y_1 : Tb), CopyP y y_1 → WfT y ∧ (True ∧ inn = inn ∧ id = 
  id ∧ True) ∧ ((KT.cust = KT.cust ∧ y = hasV.inn (y, inn, id)) ∧ True) ∧ (∀ (y_2 : Bool), Ran (hasT y inn id) y_2 → WfT y ∧ (True ∧ inn = inn ∧ id = id ∧ True) ∧ ((KT.cust = KT.cust ∧ y = dropV.inn (y, inn, id)) ∧ True) 
  ∧ (∀ (y_3 : (List Int × Int) × List (Int × (Int × Int × Int × Int × Int × Int × List (Int × Int)) × List Int) × Int), Ran (((dropR y inn id).fst, (dropR y inn id).snd.fst), (dropR y inn id).snd.snd) y_3 → 
  ((!(y_3.fst.snd == (0 : Int)) == y_2) = false → WfT y_3.snd ∧ (True ∧ inn = inn ∧ id = id ∧ True) ∧ ((KT.cust = KT.cust ∧ y_3.snd = hasV.inn (y_3.snd, inn, id)) ∧ True) ∧ (∀ (y : Bool), Ran (hasT y_3.snd inn id) y → (y 
  = false → y_3.fst.fst.length ≤ maxLen → (decide ((↑y_3.fst.fst.length : Int) > (0 : Int)) = true → ((0 : Int) ≤ (0 : Int) ∧ (0 : Int) < (↑y_3.fst.fst.length : Int)) ∧ ∀ (y : Int), y_3.fst.fst[(0 : Nat)]? = some y → ((y 
  != id) = true → false = true ∧ True) ∧ ((y != id) = false → WfT y_3.snd ∧ (True ∧ True) ∧ ((KT.cust = KT.cust ∧ y_3.snd = idsC.inn y_3.snd) ∧ True) ∧ (∀ (y : List Int), Ran (idsT y_3.snd) y → y.length ≤ maxLen → 
  y_3.fst.fst.length ≤ maxLen → WfT y_1 ∧ (True ∧ True) ∧ ((KT.cust = KT.cust ∧ y_1 = lenV.inn y_1) ∧ True) ∧ (∀ (y_4 : Int), Ran (↑y_1.fst.length : Int) y_4 → ((IntKind.i64.wrap ((↑y.length : Int) + (↑y_3.fst.fst.length 
  : Int)) != y_4) = true → false = true ∧ True) ∧ ((IntKind.i64.wrap ((↑y.length : Int) + (↑y_3.fst.fst.length : Int)) != y_4) = false → y_3.fst.fst.length ≤ maxLen → ∃ (x0 : Nat), x0.le (↑y_3.fst.fst.length : Int).toNat 
  ∧ ((True ∧ True) ∧ ((0 : Int) = (↑x0 : Int) ∧ (↑y_3.fst.fst.length : Int) = (↑y_3.fst.fst.length : Int) ∧ y_3.fst.fst = y_3.fst.fst ∧ false = false ∧ y = y ∧ false = false ∧ y_3.fst.snd = y_3.fst.snd ∧ y_3.fst.fst = 
  y_3.fst.fst ∧ y_2 = y_2 ∧ True ∧ false = false ∧ True ∧ false = false ∧ sc = sc ∧ inn = inn ∧ id = id ∧ True) ∧ (KT.cust = KT.cust ∧ y_3.snd = y_3.snd) ∧ (KT.cust = KT.cust ∧ y_1 = y_1) ∧ True) ∧ ∀ (x : Nat), x.le 
  (↑y_3.fst.fst.length : Int).toNat → (decide ((↑x : Int) < (↑y_3.fst.fst.length : Int)) = true → ((0 : Int) ≤ (↑x : Int) ∧ (↑x : Int) < (↑y_3.fst.fst.length : Int)) ∧ ∀ (y_5 : Int), y_3.fst.fst[(↑x : Int).toNat]? = some 
  y_5 → true = true ∧ (inL y y_5 = false → ((0 : Int) ≤ (some (↑x : Int)).getD (↑y_3.fst.fst.length : Int) ∧ (some (↑x : Int)).getD (↑y_3.fst.fst.length : Int) ≤ (↑y_3.fst.fst.length : Int) ∧ (0 : Int) ≤ none.getD (0 : 
  Int) ∧ none.getD (0 : Int) ≤ (some (↑x : Int)).getD (↑y_3.fst.fst.length : Int)) ∧ true = true ∧ (inL (List.drop (0 : Nat) (List.take ((some (↑x : Int)).getD (↑y_3.fst.fst.length : Int)).toNat y_3.fst.fst)) y_5 = true 
  → false = true ∧ True) ∧ (inL (List.drop (0 : Nat) (List.take ((some (↑x : Int)).getD (↑y_3.fst.fst.length : Int)).toNat y_3.fst.fst)) y_5 = false → WfT y_1 ∧ (True ∧ y_5 = y_5 ∧ True) ∧ ((KT.cust = KT.cust ∧ y_1 = 
  infoV.inn (y_1, y_5)) ∧ True) ∧ (∀ (y_6 : Info × Bool), Ran (infoR y_1 y_5) y_6 → ((!y_6.snd) = true → false = true ∧ True) ∧ ((!y_6.snd) = false → ∃ (x' : Nat), x'.le (↑y_3.fst.fst.length : Int).toNat ∧ 
  (↑y_3.fst.fst.length : Int).toNat - x' < (↑y_3.fst.fst.length : Int).toNat - x ∧ (True ∧ True) ∧ (IntKind.i64.wrap ((↑x : Int) + (1 : Int)) = (↑x' : Int) ∧ (↑y_3.fst.fst.length : Int) = (↑y_3.fst.fst.length : Int) ∧ 
  y_3.fst.fst = y_3.fst.fst ∧ false = false ∧ y = y ∧ false = false ∧ y_3.fst.snd = y_3.fst.snd ∧ y_3.fst.fst = y_3.fst.fst ∧ y_2 = y_2 ∧ True ∧ false = false ∧ True ∧ false = false ∧ sc = sc ∧ inn = inn ∧ id = id ∧ 
  True) ∧ (KT.cust = KT.cust ∧ y_3.snd = y_3.snd) ∧ (KT.cust = KT.cust ∧ y_1 = y_1) ∧ True)) ∧ True)) ∧ (inL y y_5 = !false → false = true ∧ True)) ∧ (decide ((↑x : Int) < (↑y_3.fst.fst.length : Int)) = false → y.length 
  ≤ maxLen → ∃ (x0 : Nat), x0.le (↑y.length : Int).toNat ∧ ((True ∧ True) ∧ ((0 : Int) = (↑x0 : Int) ∧ (↑y.length : Int) = (↑y.length : Int) ∧ y = y ∧ false = false ∧ (↑x : Int) = (↑x : Int) ∧ (↑y_3.fst.fst.length : Int) 
  = (↑y_3.fst.fst.length : Int) ∧ y_3.fst.fst = y_3.fst.fst ∧ false = false ∧ y = y ∧ false = false ∧ y_3.fst.snd = y_3.fst.snd ∧ y_3.fst.fst = y_3.fst.fst ∧ y_2 = y_2 ∧ True ∧ false = false ∧ True ∧ false = false ∧ sc = 
  sc ∧ inn = inn ∧ id = id ∧ True) ∧ (KT.cust = KT.cust ∧ y_3.snd = y_3.snd) ∧ (KT.cust = KT.cust ∧ y_1 = y_1) ∧ True) ∧ ∀ (x_1 : Nat), x_1.le (↑y.length : Int).toNat → (decide ((↑x_1 : Int) < (↑y.length : Int)) = true → 
  ((0 : Int) ≤ (↑x_1 : Int) ∧ (↑x_1 : Int) < (↑y.length : Int)) ∧ ∀ (y_5 : Int), y[(↑x_1 : Int).toNat]? = some y_5 → WfT y_1 ∧ (True ∧ y_5 = y_5 ∧ True) ∧ ((KT.cust = KT.cust ∧ y_1 = infoV.inn (y_1, y_5)) ∧ True) ∧ (∀ 
  (y_6 : Info × Bool), Ran (infoR y_1 y_5) y_6 → WfT y_3.snd ∧ (True ∧ y_5 = y_5 ∧ True) ∧ ((KT.cust = KT.cust ∧ y_3.snd = infoV.inn (y_3.snd, y_5)) ∧ True) ∧ (∀ (y_7 : Info × Bool), Ran (infoR y_3.snd y_5) y_7 → ∃ (v : 
  Bool), (((y_6.fst.snd.fst != y_7.fst.snd.fst) = false → ((y_6.fst.snd.snd.fst != y_7.fst.snd.snd.fst) = false → true = true ∧ ((!sameL (y_6.fst.snd.snd.snd.snd.snd.fst, y_6.fst.snd.snd.snd.snd.snd.snd) 
  (y_7.fst.snd.snd.snd.snd.snd.fst, y_7.fst.snd.snd.snd.snd.snd.snd)) = false → (decide (y_7.fst.snd.snd.snd.snd.fst < (1 : Int)) = false → (decide (y_7.fst.snd.snd.snd.snd.fst > y_6.fst.snd.snd.snd.snd.fst) = false → 
  decide (y_7.fst.snd.snd.snd.fst > y_6.fst.snd.snd.snd.fst) = v ∧ True) ∧ (decide (y_7.fst.snd.snd.snd.snd.fst > y_6.fst.snd.snd.snd.snd.fst) = !false → true = v ∧ True)) ∧ (decide (y_7.fst.snd.snd.snd.snd.fst < (1 : 
  Int)) = !false → true = v ∧ True)) ∧ ((!sameL (y_6.fst.snd.snd.snd.snd.snd.fst, y_6.fst.snd.snd.snd.snd.snd.snd) (y_7.fst.snd.snd.snd.snd.snd.fst, y_7.fst.snd.snd.snd.snd.snd.snd)) = !false → true = v ∧ True)) ∧ 
  ((y_6.fst.snd.snd.fst != y_7.fst.snd.snd.fst) = !false → true = v ∧ True)) ∧ ((y_6.fst.snd.fst != y_7.fst.snd.fst) = !false → true = v ∧ True)) ∧ (v = true → false = true ∧ True) ∧ (v = false → ∃ (x' : Nat), x'.le 
  (↑y.length : Int).toNat ∧ (↑y.length : Int).toNat - x' < (↑y.length : Int).toNat - x_1 ∧ (True ∧ True) ∧ (IntKind.i64.wrap ((↑x_1 : Int) + (1 : Int)) = (↑x' : Int) ∧ (↑y.length : Int) = (↑y.length : Int) ∧ y = y ∧ 
  false = false ∧ (↑x : Int) = (↑x : Int) ∧ (↑y_3.fst.fst.length : Int) = (↑y_3.fst.fst.length : Int) ∧ y_3.fst.fst = y_3.fst.fst ∧ false = false ∧ y = y ∧ false = false ∧ y_3.fst.snd = y_3.fst.snd ∧ y_3.fst.fst = 
  y_3.fst.fst ∧ y_2 = y_2 ∧ True ∧ false = false ∧ True ∧ false = false ∧ sc = sc ∧ inn = inn ∧ id = id ∧ True) ∧ (KT.cust = KT.cust ∧ y_3.snd = y_3.snd) ∧ (KT.cust = KT.cust ∧ y_1 = y_1) ∧ True)) ∧ True) ∧ True) ∧ 
  (decide ((↑x_1 : Int) < (↑y.length : Int)) = false → true = true ∧ True)))) ∧ True) ∧ True)) ∧ (decide ((↑y_3.fst.fst.length : Int) > (0 : Int)) = !true → WfT y_3.snd ∧ (True ∧ True) ∧ ((KT.cust = KT.cust ∧ y_3.snd = 
  idsC.inn y_3.snd) ∧ True) ∧ (∀ (y : List Int), Ran (idsT y_3.snd) y → y.length ≤ maxLen → y_3.fst.fst.length ≤ maxLen → WfT y_1 ∧ (True ∧ True) ∧ ((KT.cust = KT.cust ∧ y_1 = lenV.inn y_1) ∧ True) ∧ (∀ (y_4 : Int), Ran 
  (↑y_1.fst.length : Int) y_4 → ((IntKind.i64.wrap ((↑y.length : Int) + (↑y_3.fst.fst.length : Int)) != y_4) = true → false = true ∧ True) ∧ ((IntKind.i64.wrap ((↑y.length : Int) + (↑y_3.fst.fst.length : Int)) != y_4) = 
  false → y_3.fst.fst.length ≤ maxLen → ∃ (x0 : Nat), x0.le (↑y_3.fst.fst.length : Int).toNat ∧ ((True ∧ True) ∧ ((0 : Int) = (↑x0 : Int) ∧ (↑y_3.fst.fst.length : Int) = (↑y_3.fst.fst.length : Int) ∧ y_3.fst.fst = 
  y_3.fst.fst ∧ false = false ∧ y = y ∧ false = false ∧ y_3.fst.snd = y_3.fst.snd ∧ y_3.fst.fst = y_3.fst.fst ∧ y_2 = y_2 ∧ True ∧ false = false ∧ True ∧ false = false ∧ sc = sc ∧ inn = inn ∧ id = id ∧ True) ∧ (KT.cust = 
  KT.cust ∧ y_3.snd = y_3.snd) ∧ (KT.cust = KT.cust ∧ y_1 = y_1) ∧ True) ∧ ∀ (x : Nat), x.le (↑y_3.fst.fst.length : Int).toNat → (decide ((↑x : Int) < (↑y_3.fst.fst.length : Int)) = true → ((0 : Int) ≤ (↑x : Int) ∧ (↑x : 
  Int) < (↑y_3.fst.fst.length : Int)) ∧ ∀ (y_5 : Int), y_3.fst.fst[(↑x : Int).toNat]? = some y_5 → true = true ∧ (inL y y_5 = false → ((0 : Int) ≤ (some (↑x : Int)).getD (↑y_3.fst.fst.length : Int) ∧ (some (↑x : 
  Int)).getD (↑y_3.fst.fst.length : Int) ≤ (↑y_3.fst.fst.length : Int) ∧ (0 : Int) ≤ none.getD (0 : Int) ∧ none.getD (0 : Int) ≤ (some (↑x : Int)).getD (↑y_3.fst.fst.length : Int)) ∧ true = true ∧ (inL (List.drop (0 : 
  Nat) (List.take ((some (↑x : Int)).getD (↑y_3.fst.fst.length : Int)).toNat y_3.fst.fst)) y_5 = true → false = true ∧ True) ∧ (inL (List.drop (0 : Nat) (List.take ((some (↑x : Int)).getD (↑y_3.fst.fst.length : 
  Int)).toNat y_3.fst.fst)) y_5 = false → WfT y_1 ∧ (True ∧ y_5 = y_5 ∧ True) ∧ ((KT.cust = KT.cust ∧ y_1 = infoV.inn (y_1, y_5)) ∧ True) ∧ (∀ (y_6 : Info × Bool), Ran (infoR y_1 y_5) y_6 → ((!y_6.snd) = true → false = 
  true ∧ True) ∧ ((!y_6.snd) = false → ∃ (x' : Nat), x'.le (↑y_3.fst.fst.length : Int).toNat ∧ (↑y_3.fst.fst.length : Int).toNat - x' < (↑y_3.fst.fst.length : Int).toNat - x ∧ (True ∧ True) ∧ (IntKind.i64.wrap ((↑x : 
  Int) + (1 : Int)) = (↑x' : Int) ∧ (↑y_3.fst.fst.length : Int) = (↑y_3.fst.fst.length : Int) ∧ y_3.fst.fst = y_3.fst.fst ∧ false = false ∧ y = y ∧ false = false ∧ y_3.fst.snd = y_3.fst.snd ∧ y_3.fst.fst = y_3.fst.fst ∧ 
  y_2 = y_2 ∧ True ∧ false = false ∧ True ∧ false = false ∧ sc = sc ∧ inn = inn ∧ id = id ∧ True) ∧ (KT.cust = KT.cust ∧ y_3.snd = y_3.snd) ∧ (KT.cust = KT.cust ∧ y_1 = y_1) ∧ True)) ∧ True)) ∧ (inL y y_5 = !false → 
  false = true ∧ True)) ∧ (decide ((↑x : Int) < (↑y_3.fst.fst.length : Int)) = false → y.length ≤ maxLen → ∃ (x0 : Nat), x0.le (↑y.length : Int).toNat ∧ ((True ∧ True) ∧ ((0 : Int) = (↑x0 : Int) ∧ (↑y.length : Int) = 
  (↑y.length : Int) ∧ y = y ∧ false = false ∧ (↑x : Int) = (↑x : Int) ∧ (↑y_3.fst.fst.length : Int) = (↑y_3.fst.fst.length : Int) ∧ y_3.fst.fst = y_3.fst.fst ∧ false = false ∧ y = y ∧ false = false ∧ y_3.fst.snd = 
  y_3.fst.snd ∧ y_3.fst.fst = y_3.fst.fst ∧ y_2 = y_2 ∧ True ∧ false = false ∧ True ∧ false = false ∧ sc = sc ∧ inn = inn ∧ id = id ∧ True) ∧ (KT.cust = KT.cust ∧ y_3.snd = y_3.snd) ∧ (KT.cust = KT.cust ∧ y_1 = y_1) ∧ 
  True) ∧ ∀ (x_1 : Nat), x_1.le (↑y.length : Int).toNat → (decide ((↑x_1 : Int) < (↑y.length : Int)) = true → ((0 : Int) ≤ (↑x_1 : Int) ∧ (↑x_1 : Int) < (↑y.length : Int)) ∧ ∀ (y_5 : Int), y[(↑x_1 : Int).toNat]? = some 
  y_5 → WfT y_1 ∧ (True ∧ y_5 = y_5 ∧ True) ∧ ((KT.cust = KT.cust ∧ y_1 = infoV.inn (y_1, y_5)) ∧ True) ∧ (∀ (y_6 : Info × Bool), Ran (infoR y_1 y_5) y_6 → WfT y_3.snd ∧ (True ∧ y_5 = y_5 ∧ True) ∧ ((KT.cust = KT.cust ∧ 
  y_3.snd = infoV.inn (y_3.snd, y_5)) ∧ True) ∧ (∀ (y_7 : Info × Bool), Ran (infoR y_3.snd y_5) y_7 → ∃ (v : Bool), (((y_6.fst.snd.fst != y_7.fst.snd.fst) = false → ((y_6.fst.snd.snd.fst != y_7.fst.snd.snd.fst) = false → 
  true = true ∧ ((!sameL (y_6.fst.snd.snd.snd.snd.snd.fst, y_6.fst.snd.snd.snd.snd.snd.snd) (y_7.fst.snd.snd.snd.snd.snd.fst, y_7.fst.snd.snd.snd.snd.snd.snd)) = false → (decide (y_7.fst.snd.snd.snd.snd.fst < (1 : Int)) 
  = false → (decide (y_7.fst.snd.snd.snd.snd.fst > y_6.fst.snd.snd.snd.snd.fst) = false → decide (y_7.fst.snd.snd.snd.fst > y_6.fst.snd.snd.snd.fst) = v ∧ True) ∧ (decide (y_7.fst.snd.snd.snd.snd.fst > 
  y_6.fst.snd.snd.snd.snd.fst) = !false → true = v ∧ True)) ∧ (decide (y_7.fst.snd.snd.snd.snd.fst < (1 : Int)) = !false → true = v ∧ True)) ∧ ((!sameL (y_6.fst.snd.snd.snd.snd.snd.fst, y_6.fst.snd.snd.snd.snd.snd.snd) 
  (y_7.fst.snd.snd.snd.snd.snd.fst, y_7.fst.snd.snd.snd.snd.snd.snd)) = !false → true = v ∧ True)) ∧ ((y_6.fst.snd.snd.fst != y_7.fst.snd.snd.fst) = !false → true = v ∧ True)) ∧ ((y_6.fst.snd.fst != y_7.fst.snd.fst) = 
  !false → true = v ∧ True)) ∧ (v = true → false = true ∧ True) ∧ (v = false → ∃ (x' : Nat), x'.le (↑y.length : Int).toNat ∧ (↑y.length : Int).toNat - x' < (↑y.length : Int).toNat - x_1 ∧ (True ∧ True) ∧ 
  (IntKind.i64.wrap ((↑x_1 : Int) + (1 : Int)) = (↑x' : Int) ∧ (↑y.length : Int) = (↑y.length : Int) ∧ y = y ∧ false = false ∧ (↑x : Int) = (↑x : Int) ∧ (↑y_3.fst.fst.length : Int) = (↑y_3.fst.fst.length : Int) ∧ 
  y_3.fst.fst = y_3.fst.fst ∧ false = false ∧ y = y ∧ false = false ∧ y_3.fst.snd = y_3.fst.snd ∧ y_3.fst.fst = y_3.fst.fst ∧ y_2 = y_2 ∧ True ∧ false = false ∧ True ∧ false = false ∧ sc = sc ∧ inn = inn ∧ id = id ∧ 
  True) ∧ (KT.cust = KT.cust ∧ y_3.snd = y_3.snd) ∧ (KT.cust = KT.cust ∧ y_1 = y_1) ∧ True)) ∧ True) ∧ True) ∧ (decide ((↑x_1 : Int) < (↑y.length : Int)) = false → true = true ∧ True)))) ∧ True) ∧ True)) ∧ (y = !false → 
  false = true ∧ True)) ∧ True) ∧ ((!(y_3.fst.snd == (0 : Int)) == y_2) = !false → false = true ∧ True)) ∧ True) ∧ True) ∧ True) ∧ True) := by kernel_rfl
end Go.Proofs.Ythoaelmomocohaa
namespace Go.Proofs.Ythoaelmomocohaa
open Go.Proofs.Ythoaelmomocohaa.Gx
set_option maxRecDepth 100000
set_option maxHeartbeats 4000000
set_option linter.unusedSimpArgs false
set_option linter.unusedVariables false
theorem run_prefix : (n : Nat) → (D : DrS) → D.gone <+: (dropRun n D).gone
  | 0, D => List.prefix_refl _
  | n + 1, D => by
    unfold dropRun
    split
    · exact List.prefix_refl _
    · rename_i p s hs
      refine List.IsPrefix.trans ?_ (run_prefix n _)
      unfold dropStep
      rw [hs]
      simp only
      split
      · exact List.prefix_refl _
      · exact List.prefix_append _ _
theorem run_nil (n : Nat) {D : DrS} (h : D.stk = []) : dropRun n D = D := by
  cases n with
  | zero => rfl
  | succ n => unfold dropRun; rw [h]
structure DropF (T : Tb) (inn id : Int) (gone : List Int) (T' : Tb) : Prop where
  no : hasT T' inn id = false
  first : ∀ x, gone[0]? = some x → x = id
  len : T'.1.length + gone.length = T.1.length
  out : ∀ g ∈ gone, g ∉ T'.1.map (·.1)
  had : ∀ g ∈ gone, g ∈ T.1.map (·.1)
  nodup : gone.Nodup
  less : ∀ k o', lookL T'.1 k = some o' → ∃ o, lookL T.1 k = some o ∧ LessO o' o
theorem DropF.err {T : Tb} {inn id : Int} (h : hasT T inn id = false) : DropF T inn id [] T :=
  ⟨h, fun x hx => (by simp at hx), rfl, fun g hg => (by cases hg), fun g hg => (by cases hg), List.nodup_nil, fun k o hk => ⟨o, hk, LessO.refl o⟩⟩
theorem alive_len {A : Al} (hn : (A.map (·.1)).Nodup) : (gone : List Int) → gone.Nodup → (∀ g ∈ gone, g ∈ A.map (·.1)) → (aliveT A gone).length + gone.length = A.length
  | [], _, _ => by simp [aliveT]
  | g :: gone, hd, hm => by
    rw [List.nodup_cons] at hd
    have ih := alive_len hn gone hd.2 (fun z hz => hm z (by simp [hz]))
    have e : aliveT A (g :: gone) = (aliveT A gone).filter fun x => x.1 != g := by
      unfold aliveT
      rw [List.filter_filter]
      refine List.filter_congr fun x _ => ?_
      simp only [List.contains_cons, Bool.not_or, bne]
    have hg : g ∈ (aliveT A gone).map (·.1) := by
      obtain ⟨x, hx, rfl⟩ := List.mem_map.1 (hm g (by simp))
      refine List.mem_map.2 ⟨x, ?_, rfl⟩
      unfold aliveT
      rw [List.mem_filter]
      exact ⟨hx, by simpa using hd.1⟩
    have hnl : ((aliveT A gone).map (·.1)).Nodup := by
      unfold aliveT
      exact (List.filter_sublist.map _).nodup hn
    have key : ∀ l : Al, (l.map (·.1)).Nodup → g ∈ l.map (·.1) → (l.filter fun x => x.1 != g).length + 1 = l.length := by
      intro l
      induction l with
      | nil => intro _ h; cases h
      | cons x l ih =>
        intro h1 h2
        simp only [List.map_cons, List.nodup_cons, List.mem_cons] at h1 h2
        by_cases ex : x.1 = g
        · have : l.filter (fun x => x.1 != g) = l := List.filter_eq_self.2 fun z hz => by
            have : z.1 ≠ g := fun e2 => h1.1 (by rw [ex, ← e2]; exact List.mem_map.2 ⟨z, hz, rfl⟩)
            simp [this]
          rw [List.filter_cons_of_neg (by simp [ex]), this]; rfl
        · rw [List.filter_cons_of_pos (by simp [ex])]
          have := ih h1.2 (h2.resolve_left fun e2 => ex e2.symm)
          simp only [List.length_cons]; omega
    have := key _ hnl hg
    rw [e, List.length_cons]; omega
theorem drop_facts {T : Tb} (h : WfT T) (inn id : Int) : ((dropR T inn id).2.1 == 0) = hasT T inn id ∧ DropF T inn id (dropR T inn id).1 (dropR T inn id).2.2 := by
  unfold dropR
  cases hl : lookL T.1 inn with
  | none =>
    have : hasT T inn id = false := by simp [hasT, hl]
    exact ⟨by rw [this]; rfl, DropF.err this⟩
  | some c =>
    simp only
    split
    · rename_i hk
      have : hasT T inn id = false := by simp [hasT, hl, hk]
      exact ⟨by rw [this]; rfl, DropF.err this⟩
    · rename_i hk
      split
      · rename_i hc
        have : hasT T inn id = false := by simp only [hasT, hl, hc, Bool.and_false]
        exact ⟨by rw [this]; rfl, DropF.err this⟩
      · rename_i hc
        have hc : c.2.contains id = true := by simpa using hc
        have hin : id ∈ c.2 := by simpa using hc
        have hk : kindOf c = 1 := by simpa using hk
        refine ⟨by simp [hasT, hl, hc, hk, hin], ?_⟩
        have hD0 := drop_init (inn := inn) (id := id) h hl hin
        obtain ⟨hstk, hD⟩ := run_done _ _ hD0 (Nat.le_refl _)
        have hless : LessA (dropEnd ⟨T.1, [], [(inn, id)]⟩).A T.1 := run_less _ _ hD0
        have hD : DInv T.2 inn id (dropEnd ⟨T.1, [], [(inn, id)]⟩) := hD
        -- one step
        obtain ⟨a, b, H⟩ := hD0.head (s := []) rfl
        have ha : a = c := by have := H.hf; rw [hl] at this; exact (Option.some.inj this).symm
        subst ha
        obtain ⟨hD1, hw1⟩ := hD0.step (s := []) rfl H
        have hend : dropEnd ⟨T.1, [], [(inn, id)]⟩ = dropEnd (dropStep ⟨T.1, [], [(inn, id)]⟩) := (end_step hD0 rfl).symm
        have hA1 : (dropStep ⟨T.1, [], [(inn, id)]⟩).A = unlinkA T.1 inn id := by
          unfold dropStep; simp only; split <;> rfl
        have hid := h.a.ids _ _ H.ht
        have hne := h.a.ne hl hin
        have hlook := look_un hl H.ht hne
        have hrow : ∀ o, lookL (dropEnd ⟨T.1, [], [(inn, id)]⟩).A inn = some o → id ∉ o.2 := fun o ho hm => by
          rw [hend] at ho
          have hless1 : LessA (dropEnd (dropStep ⟨T.1, [], [(inn, id)]⟩)).A (dropStep ⟨T.1, [], [(inn, id)]⟩).A := run_less _ _ hD1
          obtain ⟨o1, h1, h2⟩ := hless1.obs _ _ ho
          rw [hA1, hlook, if_neg hne, if_pos rfl] at h1
          cases h1
          have := h2.row.subset hm
          rw [hid] at this
          simp at this
        refine ⟨?_, ?_, ?_, ?_, ?_, hD.gn, ?_⟩
        · unfold hasT
          show (match lookL (aliveT _ _) inn with | none => false | some c => _) = false
          rw [look_aliveT]
          split
          · rfl
          · rename_i c2 h2
            split at h2
            · cases h2
            · have := hrow _ h2
              simp [this]
        · intro x hx
          rw [hend] at hx
          have hg : (dropStep ⟨T.1, [], [(inn, id)]⟩).gone = [] ∧ (dropStep ⟨T.1, [], [(inn, id)]⟩).stk = [] ∨ (dropStep ⟨T.1, [], [(inn, id)]⟩).gone = [id] := by
            unfold dropStep; simp only; split
            · exact .inl ⟨rfl, rfl⟩
            · exact .inr rfl
          rcases hg with ⟨g1, g2⟩ | g1
          · rw [end_nil g2, g1] at hx; simp at hx
          · obtain ⟨t, ht⟩ := run_prefix (wtA (dropStep ⟨T.1, [], [(inn, id)]⟩).A) (dropStep ⟨T.1, [], [(inn, id)]⟩)
            have hx : (dropRun (wtA (dropStep ⟨T.1, [], [(inn, id)]⟩).A) (dropStep ⟨T.1, [], [(inn, id)]⟩)).gone[0]? = some x := hx
            rw [← ht, g1] at hx
            simpa using hx.symm
        · have hkeys := hless.keys
          have e1 := alive_len hD.a.nodup (dropEnd ⟨T.1, [], [(inn, id)]⟩).gone hD.gn (fun g hg => by
            have := (hD.dead g hg).1
            apply Classical.byContradiction
            intro hm
            rw [(lookL_none _).2 hm] at this; cases this)
          have e2 := congrArg List.length hkeys
          simp only [List.length_map] at e2
          exact e1.trans e2
        · intro g hg hm
          have : lookL (aliveT (dropEnd ⟨T.1, [], [(inn, id)]⟩).A (dropEnd ⟨T.1, [], [(inn, id)]⟩).gone) g = none := by rw [look_aliveT, if_pos hg]
          exact (lookL_none _).1 this hm
        · intro g hg
          have := (hD.dead g hg).1
          rw [← hless.keys]
          apply Classical.byContradiction
          intro hm
          rw [(lookL_none _).2 hm] at this; cases this
        · intro k o' hk
          have hk : lookL (aliveT (dropEnd ⟨T.1, [], [(inn, id)]⟩).A (dropEnd ⟨T.1, [], [(inn, id)]⟩).gone) k = some o' := hk
          rw [look_aliveT] at hk
          split at hk
          · cases hk
          · exact hless.obs _ _ hk
end Go.Proofs.Ythoaelmomocohaa
namespace Go.Proofs.Ythoaelmomocohaa
open Go.Proofs.Ythoaelmomocohaa.Gx
set_option maxRecDepth 100000
set_option maxHeartbeats 4000000
set_option linter.unusedSimpArgs false
set_option linter.unusedVariables false
theorem inL_iff (l : List Int) (x : Int) : inL l x = true ↔ x ∈ l := by simp [inL]
theorem inL_no {l : List Int} {x : Int} (h : x ∉ l) : inL l x = false := by
  rw [Bool.eq_false_iff]; exact fun e => h ((inL_iff _ _).1 e)
theorem sortI_len (l : List Int) : (sortI l).length = l.length := (List.mergeSort_perm l _).length_eq
/-- The end of the law, behind the first look at what is gone. -/
theorem goes_tail {T B T' : Tb} {inn id : Int} {gone : List Int} (hB : WfT B) (hp : CopyP T B) (hT : WfT T) (hT' : WfT T') (hF : DropF T inn id gone T') :
    WfT T' ∧ T' = idsC.inn T' ∧ ∀ (y : List Int), Ran (idsT T') y → y.length ≤ maxLen → gone.length ≤ maxLen → WfT B ∧ B = lenV.inn B ∧ ∀ (y_4 : Int), Ran (B.1.length : Int) y_4 →
      ((IntKind.i64.wrap ((y.length : Int) + (gone.length : Int)) != y_4) = true → false = true) ∧
      ((IntKind.i64.wrap ((y.length : Int) + (gone.length : Int)) != y_4) = false → gone.length ≤ maxLen →
        ∃ (x0 : Nat), x0.le (gone.length : Int).toNat ∧ (0 : Int) = (x0 : Int) ∧ ∀ (x : Nat), x.le (gone.length : Int).toNat →
          (decide ((x : Int) < (gone.length : Int)) = true → ((0 : Int) ≤ (x : Int) ∧ (x : Int) < (gone.length : Int)) ∧ ∀ (y_5 : Int), gone[(x : Int).toNat]? = some y_5 →
            (inL y y_5 = false → ((0 : Int) ≤ (some (x : Int)).getD (gone.length : Int) ∧ (some (x : Int)).getD (gone.length : Int) ≤ (gone.length : Int) ∧ (0 : Int) ≤ none.getD (0 : Int) ∧ none.getD (0 : Int) ≤ (some (x : Int)).getD (gone.length : Int)) ∧
              (inL (List.drop (0 : Nat) (List.take ((some (x : Int)).getD (gone.length : Int)).toNat gone)) y_5 = true → false = true) ∧
              (inL (List.drop (0 : Nat) (List.take ((some (x : Int)).getD (gone.length : Int)).toNat gone)) y_5 = false → WfT B ∧ B = infoV.inn (B, y_5) ∧ ∀ (y : Info × Bool), Ran (infoR B y_5) y →
                ((!y.2) = true → false = true) ∧ ((!y.2) = false → ∃ (x' : Nat), x'.le (gone.length : Int).toNat ∧ (gone.length : Int).toNat - x' < (gone.length : Int).toNat - x ∧ IntKind.i64.wrap ((x : Int) + (1 : Int)) = (x' : Int)))) ∧
            (inL y y_5 = !false → false = true)) ∧
          (decide ((x : Int) < (gone.length : Int)) = false → y.length ≤ maxLen → ∃ (x0 : Nat), x0.le (y.length : Int).toNat ∧ (0 : Int) = (x0 : Int) ∧ ∀ (x : Nat), x.le (y.length : Int).toNat →
            (decide ((x : Int) < (y.length : Int)) = true → ((0 : Int) ≤ (x : Int) ∧ (x : Int) < (y.length : Int)) ∧ ∀ (y_5 : Int), y[(x : Int).toNat]? = some y_5 → WfT B ∧ B = infoV.inn (B, y_5) ∧ ∀ (y_6 : Info × Bool), Ran (infoR B y_5) y_6 →
              WfT T' ∧ T' = infoV.inn (T', y_5) ∧ ∀ (y_7 : Info × Bool), Ran (infoR T' y_5) y_7 → ∃ (v : Bool),
                (((y_6.1.2.1 != y_7.1.2.1) = false → ((y_6.1.2.2.1 != y_7.1.2.2.1) = false → ((!sameL (y_6.1.2.2.2.2.2.1, y_6.1.2.2.2.2.2.2) (y_7.1.2.2.2.2.2.1, y_7.1.2.2.2.2.2.2)) = false →
                  (decide (y_7.1.2.2.2.2.1 < (1 : Int)) = false → (decide (y_7.1.2.2.2.2.1 > y_6.1.2.2.2.2.1) = false → decide (y_7.1.2.2.2.1 > y_6.1.2.2.2.1) = v) ∧ (decide (y_7.1.2.2.2.2.1 > y_6.1.2.2.2.2.1) = !false → true = v)) ∧
                  (decide (y_7.1.2.2.2.2.1 < (1 : Int)) = !false → true = v)) ∧ ((!sameL (y_6.1.2.2.2.2.2.1, y_6.1.2.2.2.2.2.2) (y_7.1.2.2.2.2.2.1, y_7.1.2.2.2.2.2.2)) = !false → true = v)) ∧ ((y_6.1.2.2.1 != y_7.1.2.2.1) = !false → true = v)) ∧ ((y_6.1.2.1 != y_7.1.2.1) = !false → true = v)) ∧
                (v = true → false = true) ∧ (v = false → ∃ (x' : Nat), x'.le (y.length : Int).toNat ∧ (y.length : Int).toNat - x' < (y.length : Int).toNat - x ∧ IntKind.i64.wrap ((x : Int) + (1 : Int)) = (x' : Int))) ∧
            (decide ((x : Int) < (y.length : Int)) = false → True))) := by
  refine ⟨hT', rfl, fun y hy hyl hgl => ⟨hB, rfl, fun n hn => ?_⟩⟩
  have ey : y = sortI (T'.1.map (·.1)) := hy.eq
  have hlen : (y.length : Int) + gone.length = B.1.length := by
    have h1 := hF.len
    have h2 := hp.perm.length_eq
    rw [ey, sortI_len, List.length_map]; omega
  have hfew := hB.a.few
  have hl : ∀ k, lookL B.1 k = lookL T.1 k := look_perm hp.perm hB.a.nodup
  have hw : IntKind.i64.wrap ((y.length : Int) + gone.length) = n := by
    rw [hn.eq, hlen, wrap64 (by omega) (by omega)]
  rw [hw]
  refine ⟨fun h => (by simp at h), fun _ _ => ⟨0, Nat.zero_le _, rfl, fun i hi => ⟨fun hlt => ?_, fun _ _ => ⟨0, Nat.zero_le _, rfl, fun i hi => ⟨fun hlt => ?_, fun _ => trivial⟩⟩⟩⟩⟩
  · have hlt : i < gone.length := by simpa using hlt
    refine ⟨⟨by omega, by omega⟩, fun g hg => ?_⟩
    have hg : gone[i]? = some g := hg
    have hm : g ∈ gone := List.mem_of_getElem? hg
    have hno : inL y g = false := inL_no (by rw [ey, mem_sortI]; exact hF.out g hm)
    refine ⟨fun _ => ⟨⟨by simp, by simp; omega, by simp, by simp⟩, fun h => ?_, fun _ => ⟨hB, rfl, fun z hz => ⟨fun h => ?_, fun _ => ⟨i + 1, by show i + 1 ≤ _; simp; omega, by simp; omega, wrap_succ hlt hgl⟩⟩⟩⟩, fun h => (by rw [hno] at h; cases h)⟩
    · have h : g ∈ gone.take i := by simpa [inL] using h
      obtain ⟨j, hj, e⟩ := List.getElem_of_mem h
      have hj2 : j < i := by simp at hj; omega
      rw [List.getElem_take] at e
      obtain ⟨hi2, e2⟩ := List.getElem?_eq_some_iff.1 hg
      have := (List.getElem_inj hF.nodup).1 (e.trans e2.symm)
      omega
    · have hz2 : z.2 = (infoR B g).2 := by rw [hz.eq]
      rw [hz2] at h
      unfold infoR at h
      rw [hl] at h
      cases ho : lookL T.1 g with
      | none => exact absurd (hF.had g hm) ((lookL_none _).1 ho)
      | some o => rw [ho] at h; simp at h
  · have hlt : i < y.length := by simpa using hlt
    refine ⟨⟨by omega, by omega⟩, fun k hk => ⟨hB, rfl, fun a ha => ⟨hT', rfl, fun b hb => ?_⟩⟩⟩
    have hk : y[i]? = some k := hk
    have hm : k ∈ T'.1.map (·.1) := by
      have := List.mem_of_getElem? hk
      rw [ey, mem_sortI] at this; exact this
    cases ho' : lookL T'.1 k with
    | none => exact absurd hm ((lookL_none _).1 ho')
    | some o' =>
      obtain ⟨o, ho, hless⟩ := hF.less k o' ho'
      have ea : a.1 = o.1 := by rw [ha.eq]; unfold infoR; rw [hl, ho]
      have eb : b.1 = o'.1 := by rw [hb.eq]; unfold infoR; rw [ho']
      rw [ea, eb]
      have h1 : o'.1.2.1 = o.1.2.1 := hless.kind
      have h2 : o'.1.2.2.1 = o.1.2.2.1 := hless.quota
      have h3 : o'.1.2.2.2.2.2 = o.1.2.2.2.2.2 := hless.lab
      have h4 : 1 ≤ o'.1.2.2.2.2.1 := hT'.live k o' ho'
      have h5 : o'.1.2.2.2.2.1 ≤ o.1.2.2.2.2.1 := hless.links
      have h6 : o'.1.2.2.2.1 ≤ o.1.2.2.2.1 := hless.used
      have h7 : sameL o.1.2.2.2.2.2 o'.1.2.2.2.2.2 = true := by rw [h3]; simp [sameL]
      have h8 : sameL (o.1.2.2.2.2.2.1, o.1.2.2.2.2.2.2) (o'.1.2.2.2.2.2.1, o'.1.2.2.2.2.2.2) = true := h7
      rw [h8]
      refine ⟨false, ⟨⟨fun _ => ⟨fun _ => ⟨fun _ => ⟨fun _ => ⟨fun _ => ?_, fun h => ?_⟩, fun h => ?_⟩, fun h => ?_⟩, fun h => ?_⟩, fun h => ?_⟩, fun h => (by cases h), fun _ => ⟨i + 1, by show i + 1 ≤ _; simp; omega, by simp; omega, wrap_succ hlt hyl⟩⟩⟩
      · simp; omega
      · have : o'.1.2.2.2.2.1 > o.1.2.2.2.2.1 := by simpa using h
        omega
      · have : o'.1.2.2.2.2.1 < 1 := by simpa using h
        omega
      · simp at h
      · rw [h2] at h; simp at h
      · rw [h1] at h; simp at h
theorem goes_ok : PSpecOk PP 5 (Q [.slice opT, i64, i64] [.bool] (fun _ => true) (fun _ => (true, ()))) := by
  refine pspec_Q mixed (fn := Try.f5) (c := c5) rfl rfl _ _ rfl ?_
  rintro ⟨sc, inn, id, ⟨⟩⟩ - -
  refine ⟨envC PP [p10, p24, p25] [s19, m20, m21, m16, m22, m23, m15] [] [] goLoop [24, 28], envC_ok .., rfl, hold (goes_vc sc inn id) ?_⟩
  simp only [true_and, and_true, eq_self_iff_true]
  intro T hT
  have hwf := hT.wf
  refine ⟨hwf, rfl, fun B hB => ⟨hwf, rfl, fun had hhad => ⟨hwf, rfl, fun d hd => ?_⟩⟩⟩
  have hBw := perm_wf hwf hB.perm hB.root
  obtain ⟨he, hF⟩ := drop_facts hwf inn id
  have hT' := drop_wf hwf inn id
  have ed := hd.eq
  subst ed
  rw [hhad.eq]
  simp only
  refine ⟨fun _ => ⟨hT', rfl, fun z hz => ⟨fun _ hgl => ⟨fun hpos => ⟨⟨Int.le_refl _, ?_⟩, fun x hx => ⟨fun h => ?_, fun _ => ?_⟩⟩, fun _ => ?_⟩, fun h => ?_⟩⟩, fun h => ?_⟩
  · simpa using hpos
  · rw [hF.first x hx] at h; simp at h
  · exact goes_tail hBw hB hwf hT' hF
  · exact goes_tail hBw hB hwf hT' hF
  · rw [hz.eq] at h
    have h2 := hF.no
    rw [h2] at h; cases h
  · rw [he] at h; simp at h
end Go.Proofs.Ythoaelmomocohaa
