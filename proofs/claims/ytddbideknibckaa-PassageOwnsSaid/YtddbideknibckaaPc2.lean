/- The functions of the passage and of its reference, and the laws' own functions; conditions: lengths below a million. -/
import Derived.Test.YtddbideknibckaaPb2
import Derived.Test.YtddbideknibckaaPa2
namespace Go.Proofs.Ytddbideknibckaa
open Go.Proofs.Ytddbideknibckaa.Gx
set_option maxRecDepth 100000
set_option maxHeartbeats 0
noncomputable def p70 : Pv PP := ⟨70, _, ⟨rfl, seesN_ok⟩⟩
theorem altersN_vc (t o : Lab) : fvc PP (eP [p21, p70]) Try.f40 c40 (ofArgs [lab, lab] (t, o, ())) St0 (gives [.bool] (altersN t o, ())) = (
  (sml (t.fst, t.snd) && sml (o.fst, o.snd)) = true ∧ (leqN (t.fst, t.snd) (o.fst, o.snd) = true → (sml (t.fst, t.snd) && sml (o.fst, o.snd)) = true ∧ seesN (t.fst, t.snd) (o.fst, o.snd) = altersN t o ∧ True) ∧ (leqN 
  (t.fst, t.snd) (o.fst, o.snd) = !true → false = altersN t o ∧ True)) := by kernel_rfl
/-- What a closure over a category gives of a label. -/
def catOf (S : St) : SV → Option Int
  | .ptr i _ => match (S.res[i]? : Option Res) with
    | some (Res.blk _ (SV.int _ c :: _)) => some c
    | some (Res.ro _ (SV.int _ c :: _)) => some c
    | _ => none
  | _ => none
def cloF (S : St) : SV → Option (Lab → Int)
  | .fn f caps => match caps with
    | [] => match Nat.beq f 68 || Nat.beq f 46 with
      | true => some fun l => l.1
      | false => none
    | p :: _ => match catOf S p with
      | some c => some fun l => atL l c
      | none => none
  | _ => none
def boxLs (S : St) : SV → Option (List Lab)
  | .ptr i _ => match (S.res[i]? : Option Res) with
    | some (Res.blk _ (SV.rs (.pair (.int .i64) (.slice (.pair (.int .i64) (.int .i64)))) bs :: _)) => some bs
    | some (Res.ro _ (SV.rs (.pair (.int .i64) (.slice (.pair (.int .i64) (.int .i64)))) bs :: _)) => some bs
    | _ => none
  | _ => none
noncomputable def s67 : Sv PP := ⟨67, inl PP (eP [p48]) Try.f67 c67, ⟨rfl, inl_ok (env_ok ..) rfl mixed rfl rfl⟩⟩
noncomputable def s68 : Sv PP := ⟨68, inl PP e0 Try.f68 c68, ⟨rfl, inl_ok (env_ok ..) rfl mixed rfl rfl⟩⟩
def cloV (f : FuncId) : List SV → St → Option SV := fun ss S => match ss with
  | m :: caps => match asTy lab m, cloF S (.fn f caps) with
    | some l, some g => some (.int .i64 (g l))
    | _, _ => none
  | _ => none
noncomputable def k67 : Kv PP := ⟨67, ⟨s67.s, cloV 67⟩, s67.ok⟩
noncomputable def k68 : Kv PP := ⟨68, ⟨s68.s, cloV 68⟩, s68.ok⟩
def topLoop : List (Nat × (St → Option LoopSpec)) :=
  [(3, fun (S : St) => match getT S.fr.tm 7, cloF S (getT S.fr.tm 0) with
      | .rs (.pair (.int .i64) (.slice (.pair (.int .i64) (.int .i64)))) bs, some f => some { α := Nat, inv := fun i => i ≤ bs.length ∧ True, ov := fun i => [(9, .int .i64 (i : Int)), (4, .int .i64 (topF f (bs.take i)))], rov := fun _ => [], meas := fun i => bs.length - i }
      | _, _ => none)]
noncomputable def s65 : Sv PP := ⟨65, inl PP (env PP [] [s67, s68] [] [] topLoop) Try.f65 c65, ⟨rfl, inl_ok (env_ok ..) rfl mixed rfl rfl⟩⟩
def topV : List SV → St → Option SV := fun ss S => match ss with
  | [c, b] => match cloF S c, boxLs S b with
    | some f, some bs => some (.int .i64 (topF f bs))
    | _, _ => none
  | _ => none
noncomputable def k65 : Kv PP := ⟨65, ⟨s65.s, topV⟩, s65.ok⟩
noncomputable def s66 : Sv PP := ⟨66, inl PP (env PP [] [] [] [k65, k67, k68] []) Try.f66 c66, ⟨rfl, inl_ok (env_ok ..) rfl mixed rfl rfl⟩⟩
def underLoop (l : Lab) (bs : List Lab) : List (Nat × (St → Option LoopSpec)) :=
  [(4, fun _ => some { α := Nat, inv := fun i => i ≤ (l :: bs).length ∧ ((l :: bs).drop i).all (undB l bs) = (l :: bs).all (undB l bs), ov := fun i => [(18, .int .i64 (i : Int))], rov := fun _ => [], meas := fun i => (l :: bs).length - i }),
   (7, fun (S : St) => match getT S.fr.tm 23 with
      | .rs (.pair (.int .i64) (.int .i64)) cs => some { α := Nat, inv := fun j => j ≤ cs.length ∧ (cs.drop j).all (fun x => decide (atL l x.1 ≤ topF (fun b => atL b x.1) bs)) = cs.all (fun x => decide (atL l x.1 ≤ topF (fun b => atL b x.1) bs)), ov := fun j => [(25, .int .i64 (j : Int))], rov := fun _ => [], meas := fun j => cs.length - j }
      | _ => none)]
theorem under_vc (l : Lab) (bs : List Lab) : fvc PP (env PP [] [s66] [] [] (underLoop l bs)) Try.f37 c37 (ofArgs [lab, .slice lab] (l, bs, ())) St0 (gives [.bool] (underL l bs, ())) = (
  ([(l.fst, l.snd)].length + bs.length) * (32 : Nat) ≤ (140737488355328 : Nat) ∧ (([(l.fst, l.snd)] ++ bs).length ≤ maxLen → ∃ (x0 : Nat), (x0 ≤ (l :: bs).length ∧ (List.drop x0 (l :: bs)).all (undB l bs) = (l :: bs).all 
  (undB l bs)) ∧ ((True ∧ True) ∧ ((0 : Int) = (↑x0 : Int) ∧ (↑([(l.fst, l.snd)] ++ bs).length : Int) = (↑([(l.fst, l.snd)] ++ bs).length : Int) ∧ True ∧ (True ∧ True ∧ True) ∧ True ∧ True ∧ True ∧ (l.fst = l.fst ∧ l.snd 
  = l.snd ∧ True) ∧ bs = bs ∧ True) ∧ (l.fst = l.fst ∧ l.snd = l.snd ∧ True) ∧ (bs = bs ∧ True) ∧ ((True ∧ True) ∧ True) ∧ [(l.fst, l.snd)] ++ bs = [(l.fst, l.snd)] ++ bs ∧ True) ∧ ∀ (x : Nat), x ≤ (l :: bs).length ∧ 
  (List.drop x (l :: bs)).all (undB l bs) = (l :: bs).all (undB l bs) → (decide ((↑x : Int) < (↑([(l.fst, l.snd)] ++ bs).length : Int)) = true → ((0 : Int) ≤ (↑x : Int) ∧ (↑x : Int) < (↑([(l.fst, l.snd)] ++ bs).length : 
  Int)) ∧ (↑x : Int).toNat < ([(l.fst, l.snd)] ++ bs).length ∧ ∀ (y : Int × List (Int × Int)), ([(l.fst, l.snd)] ++ bs)[(↑x : Int).toNat]? = some y → y.snd.length ≤ maxLen → ∃ (x0 : Nat), (x0 ≤ y.snd.length ∧ ((List.drop 
  x0 y.snd).all fun (x : Int × Int) => decide (atL l x.fst ≤ topF (fun (b : Lab) => atL b x.fst) bs)) = y.snd.all fun (x : Int × Int) => decide (atL l x.fst ≤ topF (fun (b : Lab) => atL b x.fst) bs)) ∧ ((True ∧ True) ∧ 
  ((0 : Int) = (↑x0 : Int) ∧ (↑y.snd.length : Int) = (↑y.snd.length : Int) ∧ y.snd = y.snd ∧ True ∧ true = true ∧ (↑x : Int) = (↑x : Int) ∧ (↑([(l.fst, l.snd)] ++ bs).length : Int) = (↑([(l.fst, l.snd)] ++ bs).length : 
  Int) ∧ True ∧ (True ∧ True ∧ True) ∧ True ∧ True ∧ True ∧ (l.fst = l.fst ∧ l.snd = l.snd ∧ True) ∧ bs = bs ∧ True) ∧ (l.fst = l.fst ∧ l.snd = l.snd ∧ True) ∧ (bs = bs ∧ True) ∧ ((True ∧ True) ∧ True) ∧ [(l.fst, l.snd)] 
  ++ bs = [(l.fst, l.snd)] ++ bs ∧ (y.fst = y.fst ∧ y.snd = y.snd ∧ True) ∧ True) ∧ ∀ (x_1 : Nat), (x_1 ≤ y.snd.length ∧ ((List.drop x_1 y.snd).all fun (x : Int × Int) => decide (atL l x.fst ≤ topF (fun (b : Lab) => atL 
  b x.fst) bs)) = y.snd.all fun (x : Int × Int) => decide (atL l x.fst ≤ topF (fun (b : Lab) => atL b x.fst) bs)) → (decide ((↑x_1 : Int) < (↑y.snd.length : Int)) = true → ((0 : Int) ≤ (↑x_1 : Int) ∧ (↑x_1 : Int) < 
  (↑y.snd.length : Int)) ∧ ∀ (y_1 : Int × Int), y.snd[(↑x_1 : Int).toNat]? = some y_1 → (true = true ∧ atL (l.fst, l.snd) y_1.fst = atL (l.fst, l.snd) y_1.fst) ∧ (bs.length ≤ maxLen → ∃ (x0 : Nat), (x0 ≤ bs.length ∧ 
  True) ∧ ((((True ∧ True) ∧ (True ∧ True) ∧ True) ∧ True) ∧ ((0 : Int) = (↑x0 : Int) ∧ (0 : Int) = topF (fun (l : Lab) => atL l y_1.fst) (List.take x0 bs) ∧ (↑bs.length : Int) = (↑bs.length : Int) ∧ bs = bs ∧ (0 : Int) 
  = (0 : Int) ∧ (True ∧ True) ∧ True ∧ True) ∧ (l.fst = l.fst ∧ l.snd = l.snd ∧ True) ∧ (bs = bs ∧ True) ∧ ((True ∧ True) ∧ True) ∧ True ∧ (y.fst = y.fst ∧ y.snd = y.snd ∧ True) ∧ (y_1.fst = y_1.fst ∧ y_1.snd = y_1.snd ∧ 
  True) ∧ True) ∧ ∀ (x : Nat), x ≤ bs.length ∧ True → (decide ((↑x : Int) < (↑bs.length : Int)) = true → ((0 : Int) ≤ (↑x : Int) ∧ (↑x : Int) < (↑bs.length : Int)) ∧ ∀ (y_2 : Int × List (Int × Int)), bs[(↑x : 
  Int).toNat]? = some y_2 → true = true ∧ ∃ (x' : Nat), (x' ≤ bs.length ∧ True) ∧ bs.length - x' < bs.length - x ∧ (((True ∧ True) ∧ (True ∧ True) ∧ True) ∧ True) ∧ (IntKind.i64.wrap ((↑x : Int) + (1 : Int)) = (↑x' : 
  Int) ∧ maxI (topF (fun (l : Lab) => atL l y_1.fst) (List.take x bs)) (atL (y_2.fst, y_2.snd) y_1.fst) = topF (fun (l : Lab) => atL l y_1.fst) (List.take x' bs) ∧ (↑bs.length : Int) = (↑bs.length : Int) ∧ bs = bs ∧ (0 : 
  Int) = (0 : Int) ∧ (True ∧ True) ∧ True ∧ True) ∧ (l.fst = l.fst ∧ l.snd = l.snd ∧ True) ∧ (bs = bs ∧ True) ∧ ((True ∧ True) ∧ True) ∧ True ∧ (y.fst = y.fst ∧ y.snd = y.snd ∧ True) ∧ (y_1.fst = y_1.fst ∧ y_1.snd = 
  y_1.snd ∧ True) ∧ True) ∧ (decide ((↑x : Int) < (↑bs.length : Int)) = false → topF (fun (l : Lab) => atL l y_1.fst) (List.take x bs) = topF (fun (l : Lab) => atL l y_1.fst) bs)) ∧ ((!decide (atL (l.fst, l.snd) y_1.fst 
  ≤ topF (fun (l : Lab) => atL l y_1.fst) bs)) = true → false = underL l bs ∧ True) ∧ ((!decide (atL (l.fst, l.snd) y_1.fst ≤ topF (fun (l : Lab) => atL l y_1.fst) bs)) = false → ∃ (x' : Nat), (x' ≤ y.snd.length ∧ 
  ((List.drop x' y.snd).all fun (x : Int × Int) => decide (atL l x.fst ≤ topF (fun (b : Lab) => atL b x.fst) bs)) = y.snd.all fun (x : Int × Int) => decide (atL l x.fst ≤ topF (fun (b : Lab) => atL b x.fst) bs)) ∧ 
  y.snd.length - x' < y.snd.length - x_1 ∧ (True ∧ True) ∧ (IntKind.i64.wrap ((↑x_1 : Int) + (1 : Int)) = (↑x' : Int) ∧ (↑y.snd.length : Int) = (↑y.snd.length : Int) ∧ y.snd = y.snd ∧ True ∧ true = true ∧ (↑x : Int) = 
  (↑x : Int) ∧ (↑([(l.fst, l.snd)] ++ bs).length : Int) = (↑([(l.fst, l.snd)] ++ bs).length : Int) ∧ True ∧ (True ∧ True ∧ True) ∧ True ∧ True ∧ True ∧ (l.fst = l.fst ∧ l.snd = l.snd ∧ True) ∧ bs = bs ∧ True) ∧ (l.fst = 
  l.fst ∧ l.snd = l.snd ∧ True) ∧ (bs = bs ∧ True) ∧ ((True ∧ True) ∧ True) ∧ [(l.fst, l.snd)] ++ bs = [(l.fst, l.snd)] ++ bs ∧ (y.fst = y.fst ∧ y.snd = y.snd ∧ True) ∧ True)) ∧ (decide ((↑x_1 : Int) < (↑y.snd.length : 
  Int)) = false → ∃ (x' : Nat), (x' ≤ (l :: bs).length ∧ (List.drop x' (l :: bs)).all (undB l bs) = (l :: bs).all (undB l bs)) ∧ (l :: bs).length - x' < (l :: bs).length - x ∧ (True ∧ True) ∧ (IntKind.i64.wrap ((↑x : 
  Int) + (1 : Int)) = (↑x' : Int) ∧ (↑([(l.fst, l.snd)] ++ bs).length : Int) = (↑([(l.fst, l.snd)] ++ bs).length : Int) ∧ True ∧ (True ∧ True ∧ True) ∧ True ∧ True ∧ True ∧ (l.fst = l.fst ∧ l.snd = l.snd ∧ True) ∧ bs = 
  bs ∧ True) ∧ (l.fst = l.fst ∧ l.snd = l.snd ∧ True) ∧ (bs = bs ∧ True) ∧ ((True ∧ True) ∧ True) ∧ [(l.fst, l.snd)] ++ bs = [(l.fst, l.snd)] ++ bs ∧ True)) ∧ (decide ((↑x : Int) < (↑([(l.fst, l.snd)] ++ bs).length : 
  Int)) = false → l.fst = l.fst ∧ (bs.length ≤ maxLen → ∃ (x0 : Nat), (x0 ≤ bs.length ∧ True) ∧ ((((True ∧ True) ∧ True ∧ True) ∧ True) ∧ ((0 : Int) = (↑x0 : Int) ∧ (0 : Int) = topF (fun (l : Lab) => l.fst) (List.take x0 
  bs) ∧ (↑bs.length : Int) = (↑bs.length : Int) ∧ bs = bs ∧ (0 : Int) = (0 : Int) ∧ True ∧ True ∧ True) ∧ (l.fst = l.fst ∧ l.snd = l.snd ∧ True) ∧ (bs = bs ∧ True) ∧ ((True ∧ True) ∧ True) ∧ True ∧ True) ∧ ∀ (x : Nat), x 
  ≤ bs.length ∧ True → (decide ((↑x : Int) < (↑bs.length : Int)) = true → ((0 : Int) ≤ (↑x : Int) ∧ (↑x : Int) < (↑bs.length : Int)) ∧ ∀ (y : Int × List (Int × Int)), bs[(↑x : Int).toNat]? = some y → ∃ (x' : Nat), (x' ≤ 
  bs.length ∧ True) ∧ bs.length - x' < bs.length - x ∧ (((True ∧ True) ∧ True ∧ True) ∧ True) ∧ (IntKind.i64.wrap ((↑x : Int) + (1 : Int)) = (↑x' : Int) ∧ maxI (topF (fun (l : Lab) => l.fst) (List.take x bs)) y.fst = 
  topF (fun (l : Lab) => l.fst) (List.take x' bs) ∧ (↑bs.length : Int) = (↑bs.length : Int) ∧ bs = bs ∧ (0 : Int) = (0 : Int) ∧ True ∧ True ∧ True) ∧ (l.fst = l.fst ∧ l.snd = l.snd ∧ True) ∧ (bs = bs ∧ True) ∧ ((True ∧ 
  True) ∧ True) ∧ True ∧ True) ∧ (decide ((↑x : Int) < (↑bs.length : Int)) = false → topF (fun (l : Lab) => l.fst) (List.take x bs) = topF (fun (l : Lab) => l.fst) bs)) ∧ decide (l.fst ≤ topF (fun (l : Lab) => l.fst) bs) 
  = underL l bs ∧ True))) := by kernel_rfl
end Go.Proofs.Ytddbideknibckaa
namespace Go.Proofs.Ytddbideknibckaa
open Go.Proofs.Ytddbideknibckaa.Gx
set_option maxRecDepth 100000
set_option maxHeartbeats 2000000
set_option linter.unusedSimpArgs false
set_option linter.unusedVariables false
theorem altersN_ok : PSpecOk PP 40 (Q [lab, lab] [.bool] (fun x => sml x.1 && sml x.2.1) (fun x => (altersN x.1 x.2.1, ()))) := by
  refine pspec_Q mixed (fn := Try.f40) (c := c40) rfl rfl _ _ rfl ?_
  rintro ⟨t, o, ⟨⟩⟩ - hp
  refine ⟨_, env_ok [p21, p70] [] [] [] [], rfl, hold (altersN_vc t o) ?_⟩
  simp only [true_and, and_true, Prod.eta]
  refine ⟨hp, fun h => ⟨hp, by simp [altersN, h]⟩, fun h => ?_⟩
  simp at h; simp [altersN, h]
theorem topF_part (f : Lab → Int) (bs : List Lab) (hA : bs.length ≤ maxLen) : ∃ x0 : Nat, x0 ≤ bs.length ∧ ((0:Int) = (x0:Int) ∧ (0:Int) = topF f (bs.take x0)) ∧
    ∀ (x : Nat), x ≤ bs.length → (decide ((x:Int) < (bs.length:Int)) = true → ((0:Int) ≤ (x:Int) ∧ (x:Int) < (bs.length:Int)) ∧ ∀ y, bs[((x:Int)).toNat]? = some y → ∃ x', x' ≤ bs.length ∧ bs.length - x' < bs.length - x ∧ IntKind.i64.wrap ((x:Int)+1) = (x':Int) ∧ maxI (topF f (bs.take x)) (f y) = topF f (bs.take x')) ∧
      (decide ((x:Int) < (bs.length:Int)) = false → topF f (bs.take x) = topF f bs) := by
  refine ⟨0, by simp, ⟨rfl, rfl⟩, ?_⟩
  intro i hi
  rcases get_cases bs i hi with ⟨x, hx, hi'⟩ | ⟨hx, hi'⟩
  · refine ⟨fun _ => ⟨by omega, fun y hy => ?_⟩, fun h => by simp at h; omega⟩
    obtain rfl : x = y := by simpa [hx] using hy
    refine ⟨i + 1, by omega, by omega, wrap_succ hi' hA, ?_⟩
    rw [take_snoc' hx, maxI_eq]
    simp [topF]
  · subst hi'
    refine ⟨fun h => by simp at h, fun _ => ?_⟩
    rw [List.take_length]
theorem underL_eq (l : Lab) (bs : List Lab) : underL l bs = ((l :: bs).all (undB l bs) && decide (l.1 ≤ topF (fun l => l.1) bs)) := rfl
theorem under_ok : PSpecOk PP 37 (Q [lab, .slice lab] [.bool] (fun x => decide (x.2.1.length ≤ 1000)) (fun x => (underL x.1 x.2.1, ()))) := by
  refine pspec_Q mixed (fn := Try.f37) (c := c37) rfl rfl _ _ rfl ?_
  rintro ⟨l, bs, ⟨⟩⟩ ⟨-, ⟨hA, hE⟩, -⟩ hp
  simp at hp
  refine ⟨_, env_ok [] [s66] [] [] (underLoop l bs), rfl, hold (under_vc l bs) ?_⟩
  simp only [true_and, and_true, Prod.eta, List.singleton_append]
  have hU := underL_eq l bs
  have hlc : (l :: bs).length = bs.length + 1 := rfl
  refine ⟨by simp; omega, fun hLm => ?_⟩
  refine ⟨0, ⟨by simp, rfl⟩, rfl, ?_⟩
  rintro i ⟨hi, hinv⟩
  rcases get_cases (l :: bs) i hi with ⟨b, hb, hi'⟩ | ⟨hb, hi'⟩
  · rw [drop_get hb, List.all_cons] at hinv
    refine ⟨fun _ => ⟨by omega, by omega, fun y hy => ?_⟩, fun h => by simp at h; omega⟩
    obtain rfl : b = y := by simpa [hb] using hy
    intro hbm
    obtain ⟨Bv, hBv⟩ : ∃ v, v = undB l bs b := ⟨_, rfl⟩
    have hBv2 : Bv = b.2.all (fun x => decide (atL l x.1 ≤ topF (fun b => atL b x.1) bs)) := hBv
    rw [← hBv] at hinv
    refine ⟨0, ⟨by simp, rfl⟩, rfl, ?_⟩
    rintro j ⟨hj, hjinv⟩
    rw [← hBv2] at hjinv
    rcases get_cases b.2 j hj with ⟨x, hx, hj'⟩ | ⟨hx, hj'⟩
    · rw [drop_get hx, List.all_cons] at hjinv
      refine ⟨fun _ => ⟨by omega, fun y hy => ?_⟩, fun h => by simp at h; omega⟩
      obtain rfl : x = y := by simpa [hx] using hy
      refine ⟨fun hA => topF_part _ bs hA, fun h => ?_, fun h => ⟨j + 1, ⟨by omega, ?_⟩, by omega, wrap_succ hj' hbm⟩⟩
      · simp only [Bool.not_eq_true', decide_eq_false_iff_not] at h
        rw [decide_eq_false h, Bool.false_and] at hjinv
        rw [hU, ← hinv, ← hjinv]; rfl
      · simp only [Bool.not_eq_false', decide_eq_true_eq] at h
        rw [decide_eq_true h, Bool.true_and] at hjinv
        rw [← hBv2]; exact hjinv
    · subst hj'
      rw [List.drop_length] at hjinv
      simp only [List.all_nil] at hjinv
      refine ⟨fun h => by simp at h, fun _ => ⟨i + 1, ⟨by omega, ?_⟩, by omega, wrap_succ hi' hLm⟩⟩
      rw [← hinv, ← hjinv, Bool.true_and]
  · subst hi'
    rw [List.drop_length] at hinv
    simp only [List.all_nil] at hinv
    refine ⟨fun h => by simp at h, fun _ => ⟨fun hA => topF_part _ bs hA, ?_⟩⟩
    rw [hU, ← hinv, Bool.true_and]
end Go.Proofs.Ytddbideknibckaa
namespace Go.Proofs.Ytddbideknibckaa
open Go.Proofs.Ytddbideknibckaa.Gx
set_option maxRecDepth 100000
set_option maxHeartbeats 0
noncomputable def p35 : Pv PP := ⟨35, _, ⟨rfl, alters_ok⟩⟩
noncomputable def p37 : Pv PP := ⟨37, _, ⟨rfl, under_ok⟩⟩
noncomputable def p40 : Pv PP := ⟨40, _, ⟨rfl, altersN_ok⟩⟩
noncomputable def p41 : Pv PP := ⟨41, _, ⟨rfl, below_ok⟩⟩
noncomputable def p43 : Pv PP := ⟨43, _, ⟨rfl, forms_ok⟩⟩
noncomputable def p17 : Pv PP := ⟨17, _, ⟨rfl, freeN_ok⟩⟩
noncomputable def p51 : Pv PP := ⟨51, _, ⟨rfl, floor_ok⟩⟩
def rightsLoop (ls : List Lab) : List (Nat × (St → Option LoopSpec)) :=
  [(2, fun _ => some { α := Nat, inv := fun i => i ≤ ls.length ∧ (ls.drop i).all rightL = ls.all rightL, ov := fun i => [(7, .int .i64 (i : Int))], rov := fun _ => [], meas := fun i => ls.length - i })]
theorem rights_vc (ls : List Lab) : fvc PP (env PP [p33] [] [] [] (rightsLoop ls)) Try.f11 c11 (ofArgs [.slice lab] (ls, ())) St0 (gives [.bool] (rightsL ls, ())) = (
  ls.length ≤ maxLen → ∃ (x0 : Nat), (x0 ≤ ls.length ∧ (List.drop x0 ls).all rightL = ls.all rightL) ∧ ((True ∧ True) ∧ ((0 : Int) = (↑x0 : Int) ∧ (↑ls.length : Int) = (↑ls.length : Int) ∧ ls = ls ∧ ls = ls ∧ True) ∧ 
  True) ∧ ∀ (x : Nat), x ≤ ls.length ∧ (List.drop x ls).all rightL = ls.all rightL → (decide ((↑x : Int) < (↑ls.length : Int)) = true → ((0 : Int) ≤ (↑x : Int) ∧ (↑x : Int) < (↑ls.length : Int)) ∧ ∀ (y : Int × List (Int 
  × Int)), ls[(↑x : Int).toNat]? = some y → true = true ∧ ((!rightL (y.fst, y.snd)) = true → false = rightsL ls ∧ True) ∧ ((!rightL (y.fst, y.snd)) = false → ∃ (x' : Nat), (x' ≤ ls.length ∧ (List.drop x' ls).all rightL = 
  ls.all rightL) ∧ ls.length - x' < ls.length - x ∧ (True ∧ True) ∧ (IntKind.i64.wrap ((↑x : Int) + (1 : Int)) = (↑x' : Int) ∧ (↑ls.length : Int) = (↑ls.length : Int) ∧ ls = ls ∧ ls = ls ∧ True) ∧ True)) ∧ (decide ((↑x : 
  Int) < (↑ls.length : Int)) = false → true = rightsL ls ∧ True)) := by kernel_rfl
theorem make_vc (t c b l : Lab) : fvc PP (eP [p35, p36, p38, p37, p34]) Try.f12 c12 (ofArgs [lab, lab, lab, lab] (t, c, b, l, ())) St0 (gives [i64] (makeM t c b l, ())) = (
  sml (t.fst, t.snd) = true ∧ true = true ∧ true = true ∧ decide (l.snd.length ≤ (1000000 : Nat)) = true ∧ decide ([((upL (l.fst, l.snd)).fst, (upL (l.fst, l.snd)).snd), ((2 : Int), [])].length ≤ (1000 : Nat)) = true ∧ 
  true = true ∧ ruleL [altersM (t.fst, t.snd) (b.fst, b.snd), leqM (t.fst, t.snd) (l.fst, l.snd), leqM (l.fst, l.snd) (c.fst, c.snd), underL (b.fst, b.snd) [((upL (l.fst, l.snd)).fst, (upL (l.fst, l.snd)).snd), ((2 : 
  Int), [])]] = makeM t c b l ∧ True) := by kernel_rfl
theorem makeN_vc (t c b l : Lab) : fvc PP (eP [p40, p21, p22, p41, p39]) Try.f13 c13 (ofArgs [lab, lab, lab, lab] (t, c, b, l, ())) St0 (gives [i64] (makeN t c b l, ())) = (
  (sml (t.fst, t.snd) && sml (b.fst, b.snd)) = true ∧ (altersN (t.fst, t.snd) (b.fst, b.snd) = true → (sml (t.fst, t.snd) && sml (l.fst, l.snd)) = true ∧ (leqN (t.fst, t.snd) (l.fst, l.snd) = true → (sml (l.fst, l.snd) 
  && sml (c.fst, c.snd)) = true ∧ (leqN (l.fst, l.snd) (c.fst, c.snd) = true → decide (l.snd.length ≤ (1000000 : Nat)) = true ∧ (sml (b.fst, b.snd) && (sml ((upL (l.fst, l.snd)).fst, (upL (l.fst, l.snd)).snd) && sml ((2 
  : Int), []))) = true ∧ true = true ∧ sayL (belowL (b.fst, b.snd) ((upL (l.fst, l.snd)).fst, (upL (l.fst, l.snd)).snd) ((2 : Int), [])) = makeN t c b l ∧ True) ∧ (leqN (l.fst, l.snd) (c.fst, c.snd) = !true → true = true 
  ∧ sayL false = makeN t c b l ∧ True)) ∧ (leqN (t.fst, t.snd) (l.fst, l.snd) = !true → true = true ∧ sayL false = makeN t c b l ∧ True)) ∧ (altersN (t.fst, t.snd) (b.fst, b.snd) = !true → true = true ∧ sayL false = 
  makeN t c b l ∧ True)) := by kernel_rfl
theorem lend_vc (t c l m : Lab) : fvc PP (eP [p43, p36, p34]) Try.f23 c23 (ofArgs [lab, lab, lab, lab] (t, c, l, m, ())) St0 (gives [i64] (lendM t c l m, ())) = (
  true = true ∧ ((!formsL (l.fst, l.snd) (m.fst, m.snd)) = true → (1 : Int) = lendM t c l m ∧ True) ∧ ((!formsL (l.fst, l.snd) (m.fst, m.snd)) = false → true = true ∧ true = true ∧ true = true ∧ true = true ∧ ruleL [leqM 
  (t.fst, t.snd) (l.fst, l.snd), leqM (l.fst, l.snd) (m.fst, m.snd), leqM (m.fst, m.snd) (c.fst, c.snd)] = lendM t c l m ∧ True)) := by kernel_rfl
theorem rise_vc (t c w : Lab) : fvc PP (eP [p52, p36, p34]) Try.f20 c20 (ofArgs [lab, lab, lab] (t, c, w, ())) St0 (gives [i64] (riseM t c w, ())) = (
  true = true ∧ ((!plainL (w.fst, w.snd)) = true → (1 : Int) = riseM t c w ∧ True) ∧ ((!plainL (w.fst, w.snd)) = false → true = true ∧ true = true ∧ true = true ∧ ruleL [leqM (t.fst, t.snd) (w.fst, w.snd), leqM (w.fst, 
  w.snd) (c.fst, c.snd)] = riseM t c w ∧ True)) := by kernel_rfl
theorem clear_vc (t c w : Lab) : fvc PP (eP [p54, p36, p38, p37, p34]) Try.f26 c26 (ofArgs [lab, lab, lab] (t, c, w, ())) St0 (gives [i64] (clearM t c w, ())) = (
  true = true ∧ ((!freeL (w.fst, w.snd)) = true → (1 : Int) = clearM t c w ∧ True) ∧ ((!freeL (w.fst, w.snd)) = false → true = true ∧ decide (t.snd.length ≤ (1000000 : Nat)) = true ∧ decide ([(c.fst, c.snd), ((upL 
  (t.fst, t.snd)).fst, (upL (t.fst, t.snd)).snd)].length ≤ (1000 : Nat)) = true ∧ true = true ∧ ruleL [leqM (t.fst, t.snd) (w.fst, w.snd), underL (w.fst, w.snd) [(c.fst, c.snd), ((upL (t.fst, t.snd)).fst, (upL (t.fst, 
  t.snd)).snd)]] = clearM t c w ∧ True)) := by kernel_rfl
theorem lendN_vc (t c l m : Lab) : fvc PP (eP [p14, p17, p21, p39]) Try.f24 c24 (ofArgs [lab, lab, lab, lab] (t, c, l, m, ())) St0 (gives [i64] (lendN t c l m, ())) = (
  true = true ∧ ((!plainL (l.fst, l.snd)) = false → true = true ∧ ((!freeL (m.fst, m.snd)) = true → (1 : Int) = lendN t c l m ∧ True) ∧ ((!freeL (m.fst, m.snd)) = false → (sml (t.fst, t.snd) && sml (l.fst, l.snd)) = true 
  ∧ (leqN (t.fst, t.snd) (l.fst, l.snd) = true → (sml (l.fst, l.snd) && sml (m.fst, m.snd)) = true ∧ (leqN (l.fst, l.snd) (m.fst, m.snd) = true → (sml (m.fst, m.snd) && sml (c.fst, c.snd)) = true ∧ true = true ∧ sayL 
  (leqN (m.fst, m.snd) (c.fst, c.snd)) = lendN t c l m ∧ True) ∧ (leqN (l.fst, l.snd) (m.fst, m.snd) = !true → true = true ∧ sayL false = lendN t c l m ∧ True)) ∧ (leqN (t.fst, t.snd) (l.fst, l.snd) = !true → true = true 
  ∧ sayL false = lendN t c l m ∧ True))) ∧ ((!plainL (l.fst, l.snd)) = !false → (1 : Int) = lendN t c l m ∧ True)) := by kernel_rfl
theorem riseN_vc (t c w : Lab) : fvc PP (eP [p14, p21, p39]) Try.f25 c25 (ofArgs [lab, lab, lab] (t, c, w, ())) St0 (gives [i64] (riseN t c w, ())) = (
  true = true ∧ ((!plainL (w.fst, w.snd)) = true → (1 : Int) = riseN t c w ∧ True) ∧ ((!plainL (w.fst, w.snd)) = false → (sml (t.fst, t.snd) && sml (w.fst, w.snd)) = true ∧ (leqN (t.fst, t.snd) (w.fst, w.snd) = true → 
  (sml (w.fst, w.snd) && sml (c.fst, c.snd)) = true ∧ true = true ∧ sayL (leqN (w.fst, w.snd) (c.fst, c.snd)) = riseN t c w ∧ True) ∧ (leqN (t.fst, t.snd) (w.fst, w.snd) = !true → true = true ∧ sayL false = riseN t c w ∧ 
  True))) := by kernel_rfl
theorem clearN_vc (t c w : Lab) : fvc PP (eP [p17, p21, p22, p41, p39]) Try.f27 c27 (ofArgs [lab, lab, lab] (t, c, w, ())) St0 (gives [i64] (clearN t c w, ())) = (
  true = true ∧ ((!freeL (w.fst, w.snd)) = true → (1 : Int) = clearN t c w ∧ True) ∧ ((!freeL (w.fst, w.snd)) = false → (sml (t.fst, t.snd) && sml (w.fst, w.snd)) = true ∧ (leqN (t.fst, t.snd) (w.fst, w.snd) = true → 
  decide (t.snd.length ≤ (1000000 : Nat)) = true ∧ (sml (w.fst, w.snd) && (sml (c.fst, c.snd) && sml ((upL (t.fst, t.snd)).fst, (upL (t.fst, t.snd)).snd))) = true ∧ true = true ∧ sayL (belowL (w.fst, w.snd) (c.fst, 
  c.snd) ((upL (t.fst, t.snd)).fst, (upL (t.fst, t.snd)).snd)) = clearN t c w ∧ True) ∧ (leqN (t.fst, t.snd) (w.fst, w.snd) = !true → true = true ∧ sayL false = clearN t c w ∧ True))) := by kernel_rfl
def boxLab (S : St) : SV → Option Lab
  | .ptr i _ => match (S.res[i]? : Option Res) with
    | some (Res.blk _ [SV.int _ d, SV.rs (.pair (.int .i64) (.int .i64)) cs]) => some (d, cs)
    | some (Res.ro _ [SV.int _ d, SV.rs (.pair (.int .i64) (.int .i64)) cs]) => some (d, cs)
    | _ => none
  | _ => none
noncomputable def s47 : Sv PP := ⟨47, inl PP (eP [p48]) Try.f47 c47, ⟨rfl, inl_ok (env_ok ..) rfl mixed rfl rfl⟩⟩
noncomputable def s46 : Sv PP := ⟨46, inl PP e0 Try.f46 c46, ⟨rfl, inl_ok (env_ok ..) rfl mixed rfl rfl⟩⟩
noncomputable def k47 : Kv PP := ⟨47, ⟨s47.s, cloV 47⟩, s47.ok⟩
noncomputable def k46 : Kv PP := ⟨46, ⟨s46.s, cloV 46⟩, s46.ok⟩
def ownsV : List SV → St → Option SV := fun ss S => match ss with
  | [c, t, g] => match cloF S c, boxLab S t, boxLab S g with
    | some f, some t, some g => some (.bool (f t == 0 || f g == 0))
    | _, _, _ => none
  | _ => none
noncomputable def s44 : Sv PP := ⟨44, inl PP (env PP [] [s46, s47] [] [] []) Try.f44 c44, ⟨rfl, inl_ok (env_ok ..) rfl mixed rfl rfl⟩⟩
noncomputable def k44 : Kv PP := ⟨44, ⟨s44.s, ownsV⟩, s44.ok⟩
noncomputable def s45 : Sv PP := ⟨45, inl PP (env PP [] [] [] [k44, k46, k47] []) Try.f45 c45, ⟨rfl, inl_ok (env_ok ..) rfl mixed rfl rfl⟩⟩
def enterLoop (t g w : Lab) : List (Nat × (St → Option LoopSpec)) :=
  [(7, fun _ => some { α := Nat × Bool, inv := fun x => x.1 ≤ [t, g, w].length ∧ (x.2 && ([t, g, w].drop x.1).all (aboveL t g w)) = floorM t g w, ov := fun x => [(33, .int .i64 (x.1 : Int)), (15, .bool x.2)], rov := fun _ => [], meas := fun x => [t, g, w].length - x.1 }),
   (10, fun (S : St) => match getT S.fr.tm 38, getT S.fr.tm 15 with
      | .rs (.pair (.int .i64) (.int .i64)) cs, .bool fl => some { α := Nat × Bool, inv := fun x => x.1 ≤ cs.length ∧ (x.2 && (cs.drop x.1).all fun x => aboveB t g w (fun m => atL m x.1)) = (fl && cs.all fun x => aboveB t g w (fun m => atL m x.1)), ov := fun x => [(40, .int .i64 (x.1 : Int)), (15, .bool x.2)], rov := fun _ => [], meas := fun x => cs.length - x.1 }
      | _, _ => none)]
theorem enter_vc (t c g gc w wc : Lab) : fvc PP (env PP [p43, p36, p37, p34] [s45] [] [] (enterLoop t g w)) Try.f15 c15 (ofArgs [lab, lab, lab, lab, lab, lab] (t, c, g, gc, w, wc, ())) St0 (gives [i64] (enterM t c g gc w wc, ())) = (
  true = true ∧ ((!formsL (w.fst, w.snd) (wc.fst, wc.snd)) = true → (1 : Int) = enterM t c g gc w wc ∧ True) ∧ ((!formsL (w.fst, w.snd) (wc.fst, wc.snd)) = false → ∃ (v : Bool), ((((t.fst == (0 : Int)) = false → (g.fst 
  == (0 : Int)) = (t.fst == (0 : Int) || g.fst == (0 : Int))) ∧ ((t.fst == (0 : Int)) = !false → true = (t.fst == (0 : Int) || g.fst == (0 : Int)))) ∧ ((t.fst == (0 : Int) || g.fst == (0 : Int)) = false → w.fst = w.fst ∧ 
  t.fst = t.fst ∧ g.fst = g.fst ∧ decide (w.fst ≥ maxI t.fst g.fst) = v) ∧ ((t.fst == (0 : Int) || g.fst == (0 : Int)) = !false → true = v)) ∧ ([(t.fst, t.snd), (g.fst, g.snd), (w.fst, w.snd)].length ≤ maxLen → ∃ (x0 : 
  Nat × Bool), (x0.fst ≤ [t, g, w].length ∧ (x0.snd && (List.drop x0.fst [t, g, w]).all (aboveL t g w)) = floorM t g w) ∧ ((True ∧ True) ∧ ((0 : Int) = (↑x0.fst : Int) ∧ v = x0.snd ∧ (↑[(t.fst, t.snd), (g.fst, g.snd), 
  (w.fst, w.snd)].length : Int) = (↑[(t.fst, t.snd), (g.fst, g.snd), (w.fst, w.snd)].length : Int) ∧ True ∧ (True ∧ True ∧ True ∧ True ∧ True) ∧ True ∧ false = false ∧ (0 : Int) = (0 : Int) ∧ True ∧ True ∧ True ∧ True ∧ 
  True ∧ True ∧ (t.fst = t.fst ∧ t.snd = t.snd ∧ True) ∧ (c.fst = c.fst ∧ c.snd = c.snd ∧ True) ∧ (g.fst = g.fst ∧ g.snd = g.snd ∧ True) ∧ (gc.fst = gc.fst ∧ gc.snd = gc.snd ∧ True) ∧ (w.fst = w.fst ∧ w.snd = w.snd ∧ 
  True) ∧ (wc.fst = wc.fst ∧ wc.snd = wc.snd ∧ True) ∧ True) ∧ (t.fst = t.fst ∧ t.snd = t.snd ∧ True) ∧ (c.fst = c.fst ∧ c.snd = c.snd ∧ True) ∧ (g.fst = g.fst ∧ g.snd = g.snd ∧ True) ∧ (gc.fst = gc.fst ∧ gc.snd = gc.snd 
  ∧ True) ∧ (w.fst = w.fst ∧ w.snd = w.snd ∧ True) ∧ (wc.fst = wc.fst ∧ wc.snd = wc.snd ∧ True) ∧ ((True ∧ True ∧ True) ∧ True) ∧ [(t.fst, t.snd), (g.fst, g.snd), (w.fst, w.snd)] = [(t.fst, t.snd), (g.fst, g.snd), 
  (w.fst, w.snd)] ∧ True) ∧ ∀ (x : Nat × Bool), x.fst ≤ [t, g, w].length ∧ (x.snd && (List.drop x.fst [t, g, w]).all (aboveL t g w)) = floorM t g w → (decide ((↑x.fst : Int) < (↑[(t.fst, t.snd), (g.fst, g.snd), (w.fst, 
  w.snd)].length : Int)) = true → ((0 : Int) ≤ (↑x.fst : Int) ∧ (↑x.fst : Int) < (↑[(t.fst, t.snd), (g.fst, g.snd), (w.fst, w.snd)].length : Int)) ∧ (↑x.fst : Int).toNat < [(t.fst, t.snd), (g.fst, g.snd), (w.fst, 
  w.snd)].length ∧ ∀ (y : Int × List (Int × Int)), [(t.fst, t.snd), (g.fst, g.snd), (w.fst, w.snd)][(↑x.fst : Int).toNat]? = some y → y.snd.length ≤ maxLen → ∃ (x0 : Nat × Bool), (x0.fst ≤ y.snd.length ∧ (x0.snd && 
  (List.drop x0.fst y.snd).all fun (x : Int × Int) => aboveB t g w fun (m : Lab) => atL m x.fst) = (x.snd && y.snd.all fun (x : Int × Int) => aboveB t g w fun (m : Lab) => atL m x.fst)) ∧ ((True ∧ True) ∧ ((0 : Int) = 
  (↑x0.fst : Int) ∧ x.snd = x0.snd ∧ (↑y.snd.length : Int) = (↑y.snd.length : Int) ∧ y.snd = y.snd ∧ True ∧ true = true ∧ (↑x.fst : Int) = (↑x.fst : Int) ∧ (↑[(t.fst, t.snd), (g.fst, g.snd), (w.fst, w.snd)].length : Int) 
  = (↑[(t.fst, t.snd), (g.fst, g.snd), (w.fst, w.snd)].length : Int) ∧ True ∧ (True ∧ True ∧ True ∧ True ∧ True) ∧ True ∧ false = false ∧ (0 : Int) = (0 : Int) ∧ True ∧ True ∧ True ∧ True ∧ True ∧ True ∧ (t.fst = t.fst ∧ 
  t.snd = t.snd ∧ True) ∧ (c.fst = c.fst ∧ c.snd = c.snd ∧ True) ∧ (g.fst = g.fst ∧ g.snd = g.snd ∧ True) ∧ (gc.fst = gc.fst ∧ gc.snd = gc.snd ∧ True) ∧ (w.fst = w.fst ∧ w.snd = w.snd ∧ True) ∧ (wc.fst = wc.fst ∧ wc.snd 
  = wc.snd ∧ True) ∧ True) ∧ (t.fst = t.fst ∧ t.snd = t.snd ∧ True) ∧ (c.fst = c.fst ∧ c.snd = c.snd ∧ True) ∧ (g.fst = g.fst ∧ g.snd = g.snd ∧ True) ∧ (gc.fst = gc.fst ∧ gc.snd = gc.snd ∧ True) ∧ (w.fst = w.fst ∧ w.snd 
  = w.snd ∧ True) ∧ (wc.fst = wc.fst ∧ wc.snd = wc.snd ∧ True) ∧ ((True ∧ True ∧ True) ∧ True) ∧ [(t.fst, t.snd), (g.fst, g.snd), (w.fst, w.snd)] = [(t.fst, t.snd), (g.fst, g.snd), (w.fst, w.snd)] ∧ (y.fst = y.fst ∧ 
  y.snd = y.snd ∧ True) ∧ True) ∧ ∀ (x_1 : Nat × Bool), x_1.fst ≤ y.snd.length ∧ (x_1.snd && (List.drop x_1.fst y.snd).all fun (x : Int × Int) => aboveB t g w fun (m : Lab) => atL m x.fst) = (x.snd && y.snd.all fun (x : 
  Int × Int) => aboveB t g w fun (m : Lab) => atL m x.fst) → (decide ((↑x_1.fst : Int) < (↑y.snd.length : Int)) = true → ((0 : Int) ≤ (↑x_1.fst : Int) ∧ (↑x_1.fst : Int) < (↑y.snd.length : Int)) ∧ ∀ (y_1 : Int × Int), 
  y.snd[(↑x_1.fst : Int).toNat]? = some y_1 → (x_1.snd = true → ∃ (v : Bool), ((true = true ∧ ((atL (t.fst, t.snd) y_1.fst == (0 : Int)) = false → true = true ∧ (atL (g.fst, g.snd) y_1.fst == (0 : Int)) = (atL (t.fst, 
  t.snd) y_1.fst == (0 : Int) || atL (g.fst, g.snd) y_1.fst == (0 : Int))) ∧ ((atL (t.fst, t.snd) y_1.fst == (0 : Int)) = !false → true = (atL (t.fst, t.snd) y_1.fst == (0 : Int) || atL (g.fst, g.snd) y_1.fst == (0 : 
  Int)))) ∧ ((atL (t.fst, t.snd) y_1.fst == (0 : Int) || atL (g.fst, g.snd) y_1.fst == (0 : Int)) = false → (true = true ∧ atL (w.fst, w.snd) y_1.fst = atL (w.fst, w.snd) y_1.fst) ∧ (true = true ∧ atL (t.fst, t.snd) 
  y_1.fst = atL (t.fst, t.snd) y_1.fst) ∧ (true = true ∧ atL (g.fst, g.snd) y_1.fst = atL (g.fst, g.snd) y_1.fst) ∧ decide (atL (w.fst, w.snd) y_1.fst ≥ maxI (atL (t.fst, t.snd) y_1.fst) (atL (g.fst, g.snd) y_1.fst)) = 
  v) ∧ ((atL (t.fst, t.snd) y_1.fst == (0 : Int) || atL (g.fst, g.snd) y_1.fst == (0 : Int)) = !false → true = v)) ∧ ∃ (x' : Nat × Bool), (x'.fst ≤ y.snd.length ∧ (x'.snd && (List.drop x'.fst y.snd).all fun (x : Int × 
  Int) => aboveB t g w fun (m : Lab) => atL m x.fst) = (x.snd && y.snd.all fun (x : Int × Int) => aboveB t g w fun (m : Lab) => atL m x.fst)) ∧ y.snd.length - x'.fst < y.snd.length - x_1.fst ∧ (True ∧ True) ∧ 
  (IntKind.i64.wrap ((↑x_1.fst : Int) + (1 : Int)) = (↑x'.fst : Int) ∧ v = x'.snd ∧ (↑y.snd.length : Int) = (↑y.snd.length : Int) ∧ y.snd = y.snd ∧ True ∧ true = true ∧ (↑x.fst : Int) = (↑x.fst : Int) ∧ (↑[(t.fst, 
  t.snd), (g.fst, g.snd), (w.fst, w.snd)].length : Int) = (↑[(t.fst, t.snd), (g.fst, g.snd), (w.fst, w.snd)].length : Int) ∧ True ∧ (True ∧ True ∧ True ∧ True ∧ True) ∧ True ∧ false = false ∧ (0 : Int) = (0 : Int) ∧ True 
  ∧ True ∧ True ∧ True ∧ True ∧ True ∧ (t.fst = t.fst ∧ t.snd = t.snd ∧ True) ∧ (c.fst = c.fst ∧ c.snd = c.snd ∧ True) ∧ (g.fst = g.fst ∧ g.snd = g.snd ∧ True) ∧ (gc.fst = gc.fst ∧ gc.snd = gc.snd ∧ True) ∧ (w.fst = 
  w.fst ∧ w.snd = w.snd ∧ True) ∧ (wc.fst = wc.fst ∧ wc.snd = wc.snd ∧ True) ∧ True) ∧ (t.fst = t.fst ∧ t.snd = t.snd ∧ True) ∧ (c.fst = c.fst ∧ c.snd = c.snd ∧ True) ∧ (g.fst = g.fst ∧ g.snd = g.snd ∧ True) ∧ (gc.fst = 
  gc.fst ∧ gc.snd = gc.snd ∧ True) ∧ (w.fst = w.fst ∧ w.snd = w.snd ∧ True) ∧ (wc.fst = wc.fst ∧ wc.snd = wc.snd ∧ True) ∧ ((True ∧ True ∧ True) ∧ True) ∧ [(t.fst, t.snd), (g.fst, g.snd), (w.fst, w.snd)] = [(t.fst, 
  t.snd), (g.fst, g.snd), (w.fst, w.snd)] ∧ (y.fst = y.fst ∧ y.snd = y.snd ∧ True) ∧ True) ∧ (x_1.snd = !true → ∃ (x' : Nat × Bool), (x'.fst ≤ y.snd.length ∧ (x'.snd && (List.drop x'.fst y.snd).all fun (x : Int × Int) => 
  aboveB t g w fun (m : Lab) => atL m x.fst) = (x.snd && y.snd.all fun (x : Int × Int) => aboveB t g w fun (m : Lab) => atL m x.fst)) ∧ y.snd.length - x'.fst < y.snd.length - x_1.fst ∧ (True ∧ True) ∧ (IntKind.i64.wrap 
  ((↑x_1.fst : Int) + (1 : Int)) = (↑x'.fst : Int) ∧ false = x'.snd ∧ (↑y.snd.length : Int) = (↑y.snd.length : Int) ∧ y.snd = y.snd ∧ True ∧ true = true ∧ (↑x.fst : Int) = (↑x.fst : Int) ∧ (↑[(t.fst, t.snd), (g.fst, 
  g.snd), (w.fst, w.snd)].length : Int) = (↑[(t.fst, t.snd), (g.fst, g.snd), (w.fst, w.snd)].length : Int) ∧ True ∧ (True ∧ True ∧ True ∧ True ∧ True) ∧ True ∧ false = false ∧ (0 : Int) = (0 : Int) ∧ True ∧ True ∧ True ∧ 
  True ∧ True ∧ True ∧ (t.fst = t.fst ∧ t.snd = t.snd ∧ True) ∧ (c.fst = c.fst ∧ c.snd = c.snd ∧ True) ∧ (g.fst = g.fst ∧ g.snd = g.snd ∧ True) ∧ (gc.fst = gc.fst ∧ gc.snd = gc.snd ∧ True) ∧ (w.fst = w.fst ∧ w.snd = 
  w.snd ∧ True) ∧ (wc.fst = wc.fst ∧ wc.snd = wc.snd ∧ True) ∧ True) ∧ (t.fst = t.fst ∧ t.snd = t.snd ∧ True) ∧ (c.fst = c.fst ∧ c.snd = c.snd ∧ True) ∧ (g.fst = g.fst ∧ g.snd = g.snd ∧ True) ∧ (gc.fst = gc.fst ∧ gc.snd 
  = gc.snd ∧ True) ∧ (w.fst = w.fst ∧ w.snd = w.snd ∧ True) ∧ (wc.fst = wc.fst ∧ wc.snd = wc.snd ∧ True) ∧ ((True ∧ True ∧ True) ∧ True) ∧ [(t.fst, t.snd), (g.fst, g.snd), (w.fst, w.snd)] = [(t.fst, t.snd), (g.fst, 
  g.snd), (w.fst, w.snd)] ∧ (y.fst = y.fst ∧ y.snd = y.snd ∧ True) ∧ True)) ∧ (decide ((↑x_1.fst : Int) < (↑y.snd.length : Int)) = false → ∃ (x' : Nat × Bool), (x'.fst ≤ [t, g, w].length ∧ (x'.snd && (List.drop x'.fst 
  [t, g, w]).all (aboveL t g w)) = floorM t g w) ∧ [t, g, w].length - x'.fst < [t, g, w].length - x.fst ∧ (True ∧ True) ∧ (IntKind.i64.wrap ((↑x.fst : Int) + (1 : Int)) = (↑x'.fst : Int) ∧ x_1.snd = x'.snd ∧ (↑[(t.fst, 
  t.snd), (g.fst, g.snd), (w.fst, w.snd)].length : Int) = (↑[(t.fst, t.snd), (g.fst, g.snd), (w.fst, w.snd)].length : Int) ∧ True ∧ (True ∧ True ∧ True ∧ True ∧ True) ∧ True ∧ false = false ∧ (0 : Int) = (0 : Int) ∧ True 
  ∧ True ∧ True ∧ True ∧ True ∧ True ∧ (t.fst = t.fst ∧ t.snd = t.snd ∧ True) ∧ (c.fst = c.fst ∧ c.snd = c.snd ∧ True) ∧ (g.fst = g.fst ∧ g.snd = g.snd ∧ True) ∧ (gc.fst = gc.fst ∧ gc.snd = gc.snd ∧ True) ∧ (w.fst = 
  w.fst ∧ w.snd = w.snd ∧ True) ∧ (wc.fst = wc.fst ∧ wc.snd = wc.snd ∧ True) ∧ True) ∧ (t.fst = t.fst ∧ t.snd = t.snd ∧ True) ∧ (c.fst = c.fst ∧ c.snd = c.snd ∧ True) ∧ (g.fst = g.fst ∧ g.snd = g.snd ∧ True) ∧ (gc.fst = 
  gc.fst ∧ gc.snd = gc.snd ∧ True) ∧ (w.fst = w.fst ∧ w.snd = w.snd ∧ True) ∧ (wc.fst = wc.fst ∧ wc.snd = wc.snd ∧ True) ∧ ((True ∧ True ∧ True) ∧ True) ∧ [(t.fst, t.snd), (g.fst, g.snd), (w.fst, w.snd)] = [(t.fst, 
  t.snd), (g.fst, g.snd), (w.fst, w.snd)] ∧ True)) ∧ (decide ((↑x.fst : Int) < (↑[(t.fst, t.snd), (g.fst, g.snd), (w.fst, w.snd)].length : Int)) = false → true = true ∧ true = true ∧ decide ([(c.fst, c.snd), (gc.fst, 
  gc.snd)].length ≤ (1000 : Nat)) = true ∧ true = true ∧ ruleL [leqM (t.fst, t.snd) (gc.fst, gc.snd), x.snd, leqM (w.fst, w.snd) (wc.fst, wc.snd), underL (wc.fst, wc.snd) [(c.fst, c.snd), (gc.fst, gc.snd)]] = enterM t c 
  g gc w wc ∧ True)))) := by kernel_rfl
def enterNLoop (t c g gc w wc : Lab) : List (Nat × (St → Option LoopSpec)) :=
  [(5, fun _ => some { α := Nat × Bool, inv := fun x => x.1 ≤ (namedL [t, g, w] ++ [0]).length ∧ (x.2 && ((namedL [t, g, w] ++ [0]).drop x.1).all fun k => decide (floorN t g k ≤ at0 w k)) = (okN t c gc w wc && (namedL [t, g, w] ++ [0]).all fun k => decide (floorN t g k ≤ at0 w k)), ov := fun x => [(44, .int .i64 (x.1 : Int)), (13, .bool x.2)], rov := fun _ => [], meas := fun x => (namedL [t, g, w] ++ [0]).length - x.1 })]
theorem enterN_vc (t c g gc w wc : Lab) : fvc PP (env PP [p14, p17, p21, p41, p49, p50, p51, p39] [] [] [] (enterNLoop t c g gc w wc)) Try.f16 c16 (ofArgs [lab, lab, lab, lab, lab, lab] (t, c, g, gc, w, wc, ())) St0 (gives [i64] (enterN t c g gc w wc, ())) = (
  true = true ∧ ((!plainL (w.fst, w.snd)) = false → true = true ∧ ((!freeL (wc.fst, wc.snd)) = true → (1 : Int) = enterN t c g gc w wc ∧ True) ∧ ((!freeL (wc.fst, wc.snd)) = false → (sml (t.fst, t.snd) && sml (gc.fst, 
  gc.snd)) = true ∧ (leqN (t.fst, t.snd) (gc.fst, gc.snd) = true → (sml (w.fst, w.snd) && sml (wc.fst, wc.snd)) = true ∧ (leqN (w.fst, w.snd) (wc.fst, wc.snd) = true → (sml (wc.fst, wc.snd) && (sml (c.fst, c.snd) && sml 
  (gc.fst, gc.snd))) = true ∧ smallLs [(t.fst, t.snd), (g.fst, g.snd), (w.fst, w.snd)] = true ∧ ((namedL [(t.fst, t.snd), (g.fst, g.snd), (w.fst, w.snd)] ++ [(0 : Int)]).length ≤ maxLen → ∃ (x0 : Nat × Bool), (x0.fst ≤ 
  (namedL [t, g, w] ++ [(0 : Int)]).length ∧ (x0.snd && (List.drop x0.fst (namedL [t, g, w] ++ [(0 : Int)])).all fun (k : Int) => decide (floorN t g k ≤ at0 w k)) = (okN t c gc w wc && (namedL [t, g, w] ++ [(0 : 
  Int)]).all fun (k : Int) => decide (floorN t g k ≤ at0 w k))) ∧ ((True ∧ True) ∧ ((0 : Int) = (↑x0.fst : Int) ∧ belowL (wc.fst, wc.snd) (c.fst, c.snd) (gc.fst, gc.snd) = x0.snd ∧ (↑(namedL [(t.fst, t.snd), (g.fst, 
  g.snd), (w.fst, w.snd)] ++ [(0 : Int)]).length : Int) = (↑(namedL [(t.fst, t.snd), (g.fst, g.snd), (w.fst, w.snd)] ++ [(0 : Int)]).length : Int) ∧ namedL [(t.fst, t.snd), (g.fst, g.snd), (w.fst, w.snd)] ++ [(0 : Int)] 
  = namedL [(t.fst, t.snd), (g.fst, g.snd), (w.fst, w.snd)] ++ [(0 : Int)] ∧ false = false ∧ (0 : Int) = (0 : Int) ∧ True ∧ True ∧ True ∧ True ∧ True ∧ True ∧ (t.fst = t.fst ∧ t.snd = t.snd ∧ True) ∧ (c.fst = c.fst ∧ 
  c.snd = c.snd ∧ True) ∧ (g.fst = g.fst ∧ g.snd = g.snd ∧ True) ∧ (gc.fst = gc.fst ∧ gc.snd = gc.snd ∧ True) ∧ (w.fst = w.fst ∧ w.snd = w.snd ∧ True) ∧ (wc.fst = wc.fst ∧ wc.snd = wc.snd ∧ True) ∧ True) ∧ (t.fst = t.fst 
  ∧ t.snd = t.snd ∧ True) ∧ (c.fst = c.fst ∧ c.snd = c.snd ∧ True) ∧ (g.fst = g.fst ∧ g.snd = g.snd ∧ True) ∧ (gc.fst = gc.fst ∧ gc.snd = gc.snd ∧ True) ∧ (w.fst = w.fst ∧ w.snd = w.snd ∧ True) ∧ (wc.fst = wc.fst ∧ 
  wc.snd = wc.snd ∧ True) ∧ True ∧ True) ∧ ∀ (x : Nat × Bool), x.fst ≤ (namedL [t, g, w] ++ [(0 : Int)]).length ∧ (x.snd && (List.drop x.fst (namedL [t, g, w] ++ [(0 : Int)])).all fun (k : Int) => decide (floorN t g k ≤ 
  at0 w k)) = (okN t c gc w wc && (namedL [t, g, w] ++ [(0 : Int)]).all fun (k : Int) => decide (floorN t g k ≤ at0 w k)) → (decide ((↑x.fst : Int) < (↑(namedL [(t.fst, t.snd), (g.fst, g.snd), (w.fst, w.snd)] ++ [(0 : 
  Int)]).length : Int)) = true → ((0 : Int) ≤ (↑x.fst : Int) ∧ (↑x.fst : Int) < (↑(namedL [(t.fst, t.snd), (g.fst, g.snd), (w.fst, w.snd)] ++ [(0 : Int)]).length : Int)) ∧ ∀ (y : Int), (namedL [(t.fst, t.snd), (g.fst, 
  g.snd), (w.fst, w.snd)] ++ [(0 : Int)])[(↑x.fst : Int).toNat]? = some y → ∃ (v : Bool), ((x.snd = true → true = true ∧ true = true ∧ decide (at0 (w.fst, w.snd) y ≥ floorN (t.fst, t.snd) (g.fst, g.snd) y) = v) ∧ (x.snd 
  = !true → false = v)) ∧ ∃ (x' : Nat × Bool), (x'.fst ≤ (namedL [t, g, w] ++ [(0 : Int)]).length ∧ (x'.snd && (List.drop x'.fst (namedL [t, g, w] ++ [(0 : Int)])).all fun (k : Int) => decide (floorN t g k ≤ at0 w k)) = 
  (okN t c gc w wc && (namedL [t, g, w] ++ [(0 : Int)]).all fun (k : Int) => decide (floorN t g k ≤ at0 w k))) ∧ (namedL [t, g, w] ++ [(0 : Int)]).length - x'.fst < (namedL [t, g, w] ++ [(0 : Int)]).length - x.fst ∧ 
  (True ∧ True) ∧ (IntKind.i64.wrap ((↑x.fst : Int) + (1 : Int)) = (↑x'.fst : Int) ∧ v = x'.snd ∧ (↑(namedL [(t.fst, t.snd), (g.fst, g.snd), (w.fst, w.snd)] ++ [(0 : Int)]).length : Int) = (↑(namedL [(t.fst, t.snd), 
  (g.fst, g.snd), (w.fst, w.snd)] ++ [(0 : Int)]).length : Int) ∧ namedL [(t.fst, t.snd), (g.fst, g.snd), (w.fst, w.snd)] ++ [(0 : Int)] = namedL [(t.fst, t.snd), (g.fst, g.snd), (w.fst, w.snd)] ++ [(0 : Int)] ∧ false = 
  false ∧ (0 : Int) = (0 : Int) ∧ True ∧ True ∧ True ∧ True ∧ True ∧ True ∧ (t.fst = t.fst ∧ t.snd = t.snd ∧ True) ∧ (c.fst = c.fst ∧ c.snd = c.snd ∧ True) ∧ (g.fst = g.fst ∧ g.snd = g.snd ∧ True) ∧ (gc.fst = gc.fst ∧ 
  gc.snd = gc.snd ∧ True) ∧ (w.fst = w.fst ∧ w.snd = w.snd ∧ True) ∧ (wc.fst = wc.fst ∧ wc.snd = wc.snd ∧ True) ∧ True) ∧ (t.fst = t.fst ∧ t.snd = t.snd ∧ True) ∧ (c.fst = c.fst ∧ c.snd = c.snd ∧ True) ∧ (g.fst = g.fst ∧ 
  g.snd = g.snd ∧ True) ∧ (gc.fst = gc.fst ∧ gc.snd = gc.snd ∧ True) ∧ (w.fst = w.fst ∧ w.snd = w.snd ∧ True) ∧ (wc.fst = wc.fst ∧ wc.snd = wc.snd ∧ True) ∧ True ∧ True) ∧ (decide ((↑x.fst : Int) < (↑(namedL [(t.fst, 
  t.snd), (g.fst, g.snd), (w.fst, w.snd)] ++ [(0 : Int)]).length : Int)) = false → true = true ∧ sayL x.snd = enterN t c g gc w wc ∧ True))) ∧ (leqN (w.fst, w.snd) (wc.fst, wc.snd) = !true → smallLs [(t.fst, t.snd), 
  (g.fst, g.snd), (w.fst, w.snd)] = true ∧ ((namedL [(t.fst, t.snd), (g.fst, g.snd), (w.fst, w.snd)] ++ [(0 : Int)]).length ≤ maxLen → ∃ (x0 : Nat × Bool), (x0.fst ≤ (namedL [t, g, w] ++ [(0 : Int)]).length ∧ (x0.snd && 
  (List.drop x0.fst (namedL [t, g, w] ++ [(0 : Int)])).all fun (k : Int) => decide (floorN t g k ≤ at0 w k)) = (okN t c gc w wc && (namedL [t, g, w] ++ [(0 : Int)]).all fun (k : Int) => decide (floorN t g k ≤ at0 w k))) 
  ∧ ((True ∧ True) ∧ ((0 : Int) = (↑x0.fst : Int) ∧ false = x0.snd ∧ (↑(namedL [(t.fst, t.snd), (g.fst, g.snd), (w.fst, w.snd)] ++ [(0 : Int)]).length : Int) = (↑(namedL [(t.fst, t.snd), (g.fst, g.snd), (w.fst, w.snd)] 
  ++ [(0 : Int)]).length : Int) ∧ namedL [(t.fst, t.snd), (g.fst, g.snd), (w.fst, w.snd)] ++ [(0 : Int)] = namedL [(t.fst, t.snd), (g.fst, g.snd), (w.fst, w.snd)] ++ [(0 : Int)] ∧ false = false ∧ (0 : Int) = (0 : Int) ∧ 
  True ∧ True ∧ True ∧ True ∧ True ∧ True ∧ (t.fst = t.fst ∧ t.snd = t.snd ∧ True) ∧ (c.fst = c.fst ∧ c.snd = c.snd ∧ True) ∧ (g.fst = g.fst ∧ g.snd = g.snd ∧ True) ∧ (gc.fst = gc.fst ∧ gc.snd = gc.snd ∧ True) ∧ (w.fst = 
  w.fst ∧ w.snd = w.snd ∧ True) ∧ (wc.fst = wc.fst ∧ wc.snd = wc.snd ∧ True) ∧ True) ∧ (t.fst = t.fst ∧ t.snd = t.snd ∧ True) ∧ (c.fst = c.fst ∧ c.snd = c.snd ∧ True) ∧ (g.fst = g.fst ∧ g.snd = g.snd ∧ True) ∧ (gc.fst = 
  gc.fst ∧ gc.snd = gc.snd ∧ True) ∧ (w.fst = w.fst ∧ w.snd = w.snd ∧ True) ∧ (wc.fst = wc.fst ∧ wc.snd = wc.snd ∧ True) ∧ True ∧ True) ∧ ∀ (x : Nat × Bool), x.fst ≤ (namedL [t, g, w] ++ [(0 : Int)]).length ∧ (x.snd && 
  (List.drop x.fst (namedL [t, g, w] ++ [(0 : Int)])).all fun (k : Int) => decide (floorN t g k ≤ at0 w k)) = (okN t c gc w wc && (namedL [t, g, w] ++ [(0 : Int)]).all fun (k : Int) => decide (floorN t g k ≤ at0 w k)) → 
  (decide ((↑x.fst : Int) < (↑(namedL [(t.fst, t.snd), (g.fst, g.snd), (w.fst, w.snd)] ++ [(0 : Int)]).length : Int)) = true → ((0 : Int) ≤ (↑x.fst : Int) ∧ (↑x.fst : Int) < (↑(namedL [(t.fst, t.snd), (g.fst, g.snd), 
  (w.fst, w.snd)] ++ [(0 : Int)]).length : Int)) ∧ ∀ (y : Int), (namedL [(t.fst, t.snd), (g.fst, g.snd), (w.fst, w.snd)] ++ [(0 : Int)])[(↑x.fst : Int).toNat]? = some y → ∃ (v : Bool), ((x.snd = true → true = true ∧ true 
  = true ∧ decide (at0 (w.fst, w.snd) y ≥ floorN (t.fst, t.snd) (g.fst, g.snd) y) = v) ∧ (x.snd = !true → false = v)) ∧ ∃ (x' : Nat × Bool), (x'.fst ≤ (namedL [t, g, w] ++ [(0 : Int)]).length ∧ (x'.snd && (List.drop 
  x'.fst (namedL [t, g, w] ++ [(0 : Int)])).all fun (k : Int) => decide (floorN t g k ≤ at0 w k)) = (okN t c gc w wc && (namedL [t, g, w] ++ [(0 : Int)]).all fun (k : Int) => decide (floorN t g k ≤ at0 w k))) ∧ (namedL 
  [t, g, w] ++ [(0 : Int)]).length - x'.fst < (namedL [t, g, w] ++ [(0 : Int)]).length - x.fst ∧ (True ∧ True) ∧ (IntKind.i64.wrap ((↑x.fst : Int) + (1 : Int)) = (↑x'.fst : Int) ∧ v = x'.snd ∧ (↑(namedL [(t.fst, t.snd), 
  (g.fst, g.snd), (w.fst, w.snd)] ++ [(0 : Int)]).length : Int) = (↑(namedL [(t.fst, t.snd), (g.fst, g.snd), (w.fst, w.snd)] ++ [(0 : Int)]).length : Int) ∧ namedL [(t.fst, t.snd), (g.fst, g.snd), (w.fst, w.snd)] ++ [(0 
  : Int)] = namedL [(t.fst, t.snd), (g.fst, g.snd), (w.fst, w.snd)] ++ [(0 : Int)] ∧ false = false ∧ (0 : Int) = (0 : Int) ∧ True ∧ True ∧ True ∧ True ∧ True ∧ True ∧ (t.fst = t.fst ∧ t.snd = t.snd ∧ True) ∧ (c.fst = 
  c.fst ∧ c.snd = c.snd ∧ True) ∧ (g.fst = g.fst ∧ g.snd = g.snd ∧ True) ∧ (gc.fst = gc.fst ∧ gc.snd = gc.snd ∧ True) ∧ (w.fst = w.fst ∧ w.snd = w.snd ∧ True) ∧ (wc.fst = wc.fst ∧ wc.snd = wc.snd ∧ True) ∧ True) ∧ (t.fst 
  = t.fst ∧ t.snd = t.snd ∧ True) ∧ (c.fst = c.fst ∧ c.snd = c.snd ∧ True) ∧ (g.fst = g.fst ∧ g.snd = g.snd ∧ True) ∧ (gc.fst = gc.fst ∧ gc.snd = gc.snd ∧ True) ∧ (w.fst = w.fst ∧ w.snd = w.snd ∧ True) ∧ (wc.fst = wc.fst 
  ∧ wc.snd = wc.snd ∧ True) ∧ True ∧ True) ∧ (decide ((↑x.fst : Int) < (↑(namedL [(t.fst, t.snd), (g.fst, g.snd), (w.fst, w.snd)] ++ [(0 : Int)]).length : Int)) = false → true = true ∧ sayL x.snd = enterN t c g gc w wc ∧ 
  True)))) ∧ (leqN (t.fst, t.snd) (gc.fst, gc.snd) = !true → smallLs [(t.fst, t.snd), (g.fst, g.snd), (w.fst, w.snd)] = true ∧ ((namedL [(t.fst, t.snd), (g.fst, g.snd), (w.fst, w.snd)] ++ [(0 : Int)]).length ≤ maxLen → ∃ 
  (x0 : Nat × Bool), (x0.fst ≤ (namedL [t, g, w] ++ [(0 : Int)]).length ∧ (x0.snd && (List.drop x0.fst (namedL [t, g, w] ++ [(0 : Int)])).all fun (k : Int) => decide (floorN t g k ≤ at0 w k)) = (okN t c gc w wc && 
  (namedL [t, g, w] ++ [(0 : Int)]).all fun (k : Int) => decide (floorN t g k ≤ at0 w k))) ∧ ((True ∧ True) ∧ ((0 : Int) = (↑x0.fst : Int) ∧ false = x0.snd ∧ (↑(namedL [(t.fst, t.snd), (g.fst, g.snd), (w.fst, w.snd)] ++ 
  [(0 : Int)]).length : Int) = (↑(namedL [(t.fst, t.snd), (g.fst, g.snd), (w.fst, w.snd)] ++ [(0 : Int)]).length : Int) ∧ namedL [(t.fst, t.snd), (g.fst, g.snd), (w.fst, w.snd)] ++ [(0 : Int)] = namedL [(t.fst, t.snd), 
  (g.fst, g.snd), (w.fst, w.snd)] ++ [(0 : Int)] ∧ false = false ∧ (0 : Int) = (0 : Int) ∧ True ∧ True ∧ True ∧ True ∧ True ∧ True ∧ (t.fst = t.fst ∧ t.snd = t.snd ∧ True) ∧ (c.fst = c.fst ∧ c.snd = c.snd ∧ True) ∧ 
  (g.fst = g.fst ∧ g.snd = g.snd ∧ True) ∧ (gc.fst = gc.fst ∧ gc.snd = gc.snd ∧ True) ∧ (w.fst = w.fst ∧ w.snd = w.snd ∧ True) ∧ (wc.fst = wc.fst ∧ wc.snd = wc.snd ∧ True) ∧ True) ∧ (t.fst = t.fst ∧ t.snd = t.snd ∧ True) 
  ∧ (c.fst = c.fst ∧ c.snd = c.snd ∧ True) ∧ (g.fst = g.fst ∧ g.snd = g.snd ∧ True) ∧ (gc.fst = gc.fst ∧ gc.snd = gc.snd ∧ True) ∧ (w.fst = w.fst ∧ w.snd = w.snd ∧ True) ∧ (wc.fst = wc.fst ∧ wc.snd = wc.snd ∧ True) ∧ 
  True ∧ True) ∧ ∀ (x : Nat × Bool), x.fst ≤ (namedL [t, g, w] ++ [(0 : Int)]).length ∧ (x.snd && (List.drop x.fst (namedL [t, g, w] ++ [(0 : Int)])).all fun (k : Int) => decide (floorN t g k ≤ at0 w k)) = (okN t c gc w 
  wc && (namedL [t, g, w] ++ [(0 : Int)]).all fun (k : Int) => decide (floorN t g k ≤ at0 w k)) → (decide ((↑x.fst : Int) < (↑(namedL [(t.fst, t.snd), (g.fst, g.snd), (w.fst, w.snd)] ++ [(0 : Int)]).length : Int)) = true 
  → ((0 : Int) ≤ (↑x.fst : Int) ∧ (↑x.fst : Int) < (↑(namedL [(t.fst, t.snd), (g.fst, g.snd), (w.fst, w.snd)] ++ [(0 : Int)]).length : Int)) ∧ ∀ (y : Int), (namedL [(t.fst, t.snd), (g.fst, g.snd), (w.fst, w.snd)] ++ [(0 
  : Int)])[(↑x.fst : Int).toNat]? = some y → ∃ (v : Bool), ((x.snd = true → true = true ∧ true = true ∧ decide (at0 (w.fst, w.snd) y ≥ floorN (t.fst, t.snd) (g.fst, g.snd) y) = v) ∧ (x.snd = !true → false = v)) ∧ ∃ (x' : 
  Nat × Bool), (x'.fst ≤ (namedL [t, g, w] ++ [(0 : Int)]).length ∧ (x'.snd && (List.drop x'.fst (namedL [t, g, w] ++ [(0 : Int)])).all fun (k : Int) => decide (floorN t g k ≤ at0 w k)) = (okN t c gc w wc && (namedL [t, 
  g, w] ++ [(0 : Int)]).all fun (k : Int) => decide (floorN t g k ≤ at0 w k))) ∧ (namedL [t, g, w] ++ [(0 : Int)]).length - x'.fst < (namedL [t, g, w] ++ [(0 : Int)]).length - x.fst ∧ (True ∧ True) ∧ (IntKind.i64.wrap 
  ((↑x.fst : Int) + (1 : Int)) = (↑x'.fst : Int) ∧ v = x'.snd ∧ (↑(namedL [(t.fst, t.snd), (g.fst, g.snd), (w.fst, w.snd)] ++ [(0 : Int)]).length : Int) = (↑(namedL [(t.fst, t.snd), (g.fst, g.snd), (w.fst, w.snd)] ++ [(0 
  : Int)]).length : Int) ∧ namedL [(t.fst, t.snd), (g.fst, g.snd), (w.fst, w.snd)] ++ [(0 : Int)] = namedL [(t.fst, t.snd), (g.fst, g.snd), (w.fst, w.snd)] ++ [(0 : Int)] ∧ false = false ∧ (0 : Int) = (0 : Int) ∧ True ∧ 
  True ∧ True ∧ True ∧ True ∧ True ∧ (t.fst = t.fst ∧ t.snd = t.snd ∧ True) ∧ (c.fst = c.fst ∧ c.snd = c.snd ∧ True) ∧ (g.fst = g.fst ∧ g.snd = g.snd ∧ True) ∧ (gc.fst = gc.fst ∧ gc.snd = gc.snd ∧ True) ∧ (w.fst = w.fst 
  ∧ w.snd = w.snd ∧ True) ∧ (wc.fst = wc.fst ∧ wc.snd = wc.snd ∧ True) ∧ True) ∧ (t.fst = t.fst ∧ t.snd = t.snd ∧ True) ∧ (c.fst = c.fst ∧ c.snd = c.snd ∧ True) ∧ (g.fst = g.fst ∧ g.snd = g.snd ∧ True) ∧ (gc.fst = gc.fst 
  ∧ gc.snd = gc.snd ∧ True) ∧ (w.fst = w.fst ∧ w.snd = w.snd ∧ True) ∧ (wc.fst = wc.fst ∧ wc.snd = wc.snd ∧ True) ∧ True ∧ True) ∧ (decide ((↑x.fst : Int) < (↑(namedL [(t.fst, t.snd), (g.fst, g.snd), (w.fst, w.snd)] ++ 
  [(0 : Int)]).length : Int)) = false → true = true ∧ sayL x.snd = enterN t c g gc w wc ∧ True))))) ∧ ((!plainL (w.fst, w.snd)) = !false → (1 : Int) = enterN t c g gc w wc ∧ True)) := by kernel_rfl
end Go.Proofs.Ytddbideknibckaa
namespace Go.Proofs.Ytddbideknibckaa
open Go.Proofs.Ytddbideknibckaa.Gx
set_option maxRecDepth 100000
set_option maxHeartbeats 2000000
set_option linter.unusedSimpArgs false
set_option linter.unusedVariables false
theorem rights_ok : PSpecOk PP 11 (Q [.slice lab] [.bool] (fun _ => true) (fun x => (rightsL x.1, ()))) := by
  refine pspec_Q mixed (fn := Try.f11) (c := c11) rfl rfl _ _ rfl ?_
  rintro ⟨ls, ⟨⟩⟩ ⟨⟨hA, -⟩, -⟩ -
  refine ⟨_, env_ok [p33] [] [] [] (rightsLoop ls), rfl, hold (rights_vc ls) ?_⟩
  simp only [true_and, and_true, Prod.eta]
  intro hA
  refine ⟨0, ⟨by simp, rfl⟩, rfl, ?_⟩
  rintro i ⟨hi, hinv⟩
  rcases get_cases ls i hi with ⟨x, hx, hi'⟩ | ⟨hx, hi'⟩
  · rw [drop_get hx, List.all_cons] at hinv
    refine ⟨fun _ => ⟨by omega, fun y hy => ?_⟩, fun h => by simp at h; omega⟩
    obtain rfl : x = y := by simpa [hx] using hy
    refine ⟨fun h => ?_, fun h => ⟨i + 1, ⟨by omega, ?_⟩, by omega, wrap_succ hi' hA⟩⟩
    · simp at h; rw [h] at hinv; exact hinv
    · simp at h; rw [h] at hinv; simpa using hinv
  · subst hi'
    refine ⟨fun h => by simp at h, fun _ => ?_⟩
    rw [List.drop_length] at hinv
    exact hinv
theorem make_ok : PSpecOk PP 12 (Q [lab, lab, lab, lab] [i64] (fun x => sml x.1 && sml x.2.2.2.1) (fun x => (makeM x.1 x.2.1 x.2.2.1 x.2.2.2.1, ()))) := by
  refine pspec_Q mixed (fn := Try.f12) (c := c12) rfl rfl _ _ rfl ?_
  rintro ⟨t, c, b, l, ⟨⟩⟩ - hp
  rw [Bool.and_eq_true] at hp
  refine ⟨_, env_ok [p35, p36, p38, p37, p34] [] [] [] [], rfl, hold (make_vc t c b l) ?_⟩
  simp only [true_and, and_true, Prod.eta]
  exact ⟨hp.1, hp.2, by simp, rfl⟩
theorem makeN_ok : PSpecOk PP 13 (Q [lab, lab, lab, lab] [i64] (fun x => sml x.1 && (sml x.2.1 && (sml x.2.2.1 && sml x.2.2.2.1))) (fun x => (makeN x.1 x.2.1 x.2.2.1 x.2.2.2.1, ()))) := by
  refine pspec_Q mixed (fn := Try.f13) (c := c13) rfl rfl _ _ rfl ?_
  rintro ⟨t, c, b, l, ⟨⟩⟩ - hp
  simp only [Bool.and_eq_true] at hp
  obtain ⟨h1, h2, h3, h4⟩ := hp
  have h5 := sml_up h4
  refine ⟨_, env_ok [p40, p21, p22, p41, p39] [] [] [] [], rfl, hold (makeN_vc t c b l) ?_⟩
  simp only [true_and, and_true, Prod.eta, h1, h2, h3, h4, h5, Bool.and_self, Bool.true_and]
  refine ⟨fun e1 => ⟨fun e2 => ⟨fun e3 => ⟨rfl, ?_⟩, fun e3 => ?_⟩, fun e2 => ?_⟩, fun e1 => ?_⟩ <;> simp_all [makeN]
theorem lend_ok : PSpecOk PP 23 (Q [lab, lab, lab, lab] [i64] (fun _ => true) (fun x => (lendM x.1 x.2.1 x.2.2.1 x.2.2.2.1, ()))) := by
  refine pspec_Q mixed (fn := Try.f23) (c := c23) rfl rfl _ _ rfl ?_
  rintro ⟨t, c, l, m, ⟨⟩⟩ - -
  refine ⟨_, env_ok [p43, p36, p34] [] [] [] [], rfl, hold (lend_vc t c l m) ?_⟩
  simp only [true_and, and_true, Prod.eta]
  constructor <;> intro h <;> simp_all [lendM]
theorem rise_ok : PSpecOk PP 20 (Q [lab, lab, lab] [i64] (fun _ => true) (fun x => (riseM x.1 x.2.1 x.2.2.1, ()))) := by
  refine pspec_Q mixed (fn := Try.f20) (c := c20) rfl rfl _ _ rfl ?_
  rintro ⟨t, c, w, ⟨⟩⟩ - -
  refine ⟨_, env_ok [p52, p36, p34] [] [] [] [], rfl, hold (rise_vc t c w) ?_⟩
  simp only [true_and, and_true, Prod.eta]
  constructor <;> intro h <;> simp_all [riseM]
theorem clear_ok : PSpecOk PP 26 (Q [lab, lab, lab] [i64] (fun x => sml x.1) (fun x => (clearM x.1 x.2.1 x.2.2.1, ()))) := by
  refine pspec_Q mixed (fn := Try.f26) (c := c26) rfl rfl _ _ rfl ?_
  rintro ⟨t, c, w, ⟨⟩⟩ - hp
  have hp' : decide (t.2.length ≤ 1000000) = true := hp
  refine ⟨_, env_ok [p54, p36, p38, p37, p34] [] [] [] [], rfl, hold (clear_vc t c w) ?_⟩
  simp only [true_and, and_true, Prod.eta]
  constructor <;> intro h
  · simp_all [clearM]
  · refine ⟨hp', by simp, ?_⟩
    simp_all [clearM]
theorem lendN_ok : PSpecOk PP 24 (Q [lab, lab, lab, lab] [i64] (fun x => sml x.1 && (sml x.2.1 && (sml x.2.2.1 && sml x.2.2.2.1))) (fun x => (lendN x.1 x.2.1 x.2.2.1 x.2.2.2.1, ()))) := by
  refine pspec_Q mixed (fn := Try.f24) (c := c24) rfl rfl _ _ rfl ?_
  rintro ⟨t, c, l, m, ⟨⟩⟩ - hp
  simp only [Bool.and_eq_true] at hp
  obtain ⟨h1, h2, h3, h4⟩ := hp
  refine ⟨_, env_ok [p14, p17, p21, p39] [] [] [] [], rfl, hold (lendN_vc t c l m) ?_⟩
  simp only [true_and, and_true, Prod.eta, h1, h2, h3, h4, Bool.and_self, Bool.true_and]
  refine ⟨fun e0 => ⟨fun e1 => ?_, fun e1 => ⟨fun e2 => ⟨fun e3 => ?_, fun e3 => ?_⟩, fun e2 => ?_⟩⟩, fun e0 => ?_⟩ <;> simp_all [lendN]
theorem riseN_ok : PSpecOk PP 25 (Q [lab, lab, lab] [i64] (fun x => sml x.1 && (sml x.2.1 && sml x.2.2.1)) (fun x => (riseN x.1 x.2.1 x.2.2.1, ()))) := by
  refine pspec_Q mixed (fn := Try.f25) (c := c25) rfl rfl _ _ rfl ?_
  rintro ⟨t, c, w, ⟨⟩⟩ - hp
  simp only [Bool.and_eq_true] at hp
  obtain ⟨h1, h2, h3⟩ := hp
  refine ⟨_, env_ok [p14, p21, p39] [] [] [] [], rfl, hold (riseN_vc t c w) ?_⟩
  simp only [true_and, and_true, Prod.eta, h1, h2, h3, Bool.and_self, Bool.true_and]
  refine ⟨fun e1 => ?_, fun e1 => ⟨fun e2 => ?_, fun e2 => ?_⟩⟩ <;> simp_all [riseN]
theorem clearN_ok : PSpecOk PP 27 (Q [lab, lab, lab] [i64] (fun x => sml x.1 && (sml x.2.1 && sml x.2.2.1)) (fun x => (clearN x.1 x.2.1 x.2.2.1, ()))) := by
  refine pspec_Q mixed (fn := Try.f27) (c := c27) rfl rfl _ _ rfl ?_
  rintro ⟨t, c, w, ⟨⟩⟩ - hp
  simp only [Bool.and_eq_true] at hp
  obtain ⟨h1, h2, h3⟩ := hp
  have h5 := sml_up h1
  have h1' : decide (t.2.length ≤ 1000000) = true := h1
  refine ⟨_, env_ok [p17, p21, p22, p41, p39] [] [] [] [], rfl, hold (clearN_vc t c w) ?_⟩
  simp only [true_and, and_true, Prod.eta, h1, h1', h2, h3, h5, Bool.and_self, Bool.true_and]
  refine ⟨fun e1 => ?_, fun e1 => ⟨fun e2 => ?_, fun e2 => ?_⟩⟩ <;> simp_all [clearN]
theorem above_conj (t g w : Lab) (f : Lab → Int) : (((f t == 0) = false → (f g == 0) = (f t == 0 || f g == 0)) ∧ ((f t == 0) = !false → true = (f t == 0 || f g == 0))) ∧
    ((f t == 0 || f g == 0) = false → decide (f w ≥ max (f t) (f g)) = aboveB t g w f) ∧ ((f t == 0 || f g == 0) = !false → true = aboveB t g w f) := by
  unfold aboveB
  cases f t == 0 <;> cases f g == 0 <;> simp
theorem enter_ok : PSpecOk PP 15 (Q [lab, lab, lab, lab, lab, lab] [i64] (fun _ => true) (fun x => (enterM x.1 x.2.1 x.2.2.1 x.2.2.2.1 x.2.2.2.2.1 x.2.2.2.2.2.1, ()))) := by
  refine pspec_Q mixed (fn := Try.f15) (c := c15) rfl rfl _ _ rfl ?_
  rintro ⟨t, c, g, gc, w, wc, ⟨⟩⟩ - -
  refine ⟨_, env_ok [p43, p36, p37, p34] [s45] [] [] (enterLoop t g w), rfl, hold (enter_vc t c g gc w wc) ?_⟩
  simp only [true_and, and_true, Prod.eta, maxI_eq]
  refine ⟨fun h => by simp at h; simp [enterM, h], fun hf => ?_⟩
  simp at hf
  refine ⟨aboveB t g w (fun m => m.1), above_conj t g w (fun m => m.1), fun hLm => ?_⟩
  refine ⟨(0, aboveB t g w (fun m => m.1)), ⟨by simp, by rw [List.drop_zero]; rfl⟩, ⟨rfl, rfl⟩, ?_⟩
  rintro ⟨i, fl⟩ ⟨hi, hinv⟩
  simp only at hi hinv ⊢
  rcases get_cases [t, g, w] i hi with ⟨b, hb, hi'⟩ | ⟨hb, hi'⟩
  · rw [drop_get hb, List.all_cons] at hinv
    refine ⟨fun _ => ⟨by omega, by omega, fun y hy => ?_⟩, fun h => by simp only [decide_eq_false_iff_not] at h; omega⟩
    obtain rfl : b = y := by simpa [hb] using hy
    intro hbm
    refine ⟨(0, fl), ⟨by simp, rfl⟩, ⟨rfl, rfl⟩, ?_⟩
    rintro ⟨j, fm⟩ ⟨hj, hjinv⟩
    simp only at hj hjinv ⊢
    rcases get_cases b.2 j hj with ⟨x, hx, hj'⟩ | ⟨hx, hj'⟩
    · rw [drop_get hx, List.all_cons] at hjinv
      refine ⟨fun _ => ⟨by omega, fun y hy => ?_⟩, fun h => by simp at h; omega⟩
      obtain rfl : x = y := by simpa [hx] using hy
      refine ⟨fun h => ?_, fun h => ?_⟩
      · subst h
        refine ⟨aboveB t g w (fun m => atL m x.1), above_conj t g w (fun m => atL m x.1), (j + 1, aboveB t g w (fun m => atL m x.1)), ⟨by simp only; omega, ?_⟩, by simp only; omega, wrap_succ hj' hbm, rfl⟩
        rw [Bool.true_and] at hjinv
        exact hjinv
      · obtain rfl : fm = false := by simpa using h
        refine ⟨(j + 1, false), ⟨by simp only; omega, ?_⟩, by simp only; omega, wrap_succ hj' hbm, rfl⟩
        rw [Bool.false_and] at hjinv ⊢
        exact hjinv
    · subst hj'
      rw [List.drop_length] at hjinv
      simp only [List.all_nil, Bool.and_true] at hjinv
      refine ⟨fun h => by simp at h, fun _ => ⟨(i + 1, fm), ⟨by simp only; omega, ?_⟩, by simp only; omega, wrap_succ hi' hLm, rfl⟩⟩
      rw [← hinv, hjinv]
      change ((fl && aboveL t g w b) && _) = (fl && (aboveL t g w b && _))
      rw [Bool.and_assoc]
  · subst hi'
    rw [List.drop_length] at hinv
    simp only [List.all_nil, Bool.and_true] at hinv
    refine ⟨fun h => by simp at h, fun _ => ⟨by simp, ?_⟩⟩
    rw [hinv]
    simp [enterM, hf]
end Go.Proofs.Ytddbideknibckaa
namespace Go.Proofs.Ytddbideknibckaa
open Go.Proofs.Ytddbideknibckaa.Gx
set_option maxRecDepth 100000
set_option maxHeartbeats 2000000
set_option linter.unusedSimpArgs false
set_option linter.unusedVariables false
theorem enterN_ok : PSpecOk PP 16 (Q [lab, lab, lab, lab, lab, lab] [i64] (fun x => sml x.1 && (sml x.2.1 && (sml x.2.2.1 && (sml x.2.2.2.1 && (sml x.2.2.2.2.1 && sml x.2.2.2.2.2.1))))) (fun x => (enterN x.1 x.2.1 x.2.2.1 x.2.2.2.1 x.2.2.2.2.1 x.2.2.2.2.2.1, ()))) := by
  refine pspec_Q mixed (fn := Try.f16) (c := c16) rfl rfl _ _ rfl ?_
  rintro ⟨t, c, g, gc, w, wc, ⟨⟩⟩ - hp
  simp only [Bool.and_eq_true] at hp
  obtain ⟨h1, h2, h3, h4, h5, h6⟩ := hp
  have hs : smallLs [t, g, w] = true := by simp at h1 h3 h5; simp [smallLs, h1, h3, h5]
  refine ⟨_, env_ok [p14, p17, p21, p41, p49, p50, p51, p39] [] [] [] (enterNLoop t c g gc w wc), rfl, hold (enterN_vc t c g gc w wc) ?_⟩
  simp only [true_and, and_true, Prod.eta, h1, h2, h3, h4, h5, h6, Bool.and_self, hs]
  refine ⟨fun e0 => ⟨fun e1 => by simp at e0 e1; simp [enterN, e0, e1], fun e1 => ?_⟩, fun e0 => by simp at e0; simp [enterN, e0]⟩
  simp at e0 e1
  have hE : enterN t c g gc w wc = sayL (okN t c gc w wc && (namedL [t, g, w] ++ [0]).all fun k => decide (floorN t g k ≤ at0 w k)) := by simp [enterN, e0, e1]
  obtain ⟨L, hL⟩ : ∃ L, L = namedL [t, g, w] ++ [0] := ⟨_, rfl⟩
  obtain ⟨q, hq⟩ : ∃ q : Int → Bool, q = fun k => decide (floorN t g k ≤ at0 w k) := ⟨_, rfl⟩
  have hqk : ∀ k, decide (at0 w k ≥ floorN t g k) = q k := fun k => by rw [hq]
  simp only [hqk, ← hL, ← hq] at hE ⊢
  refine ⟨fun e2 => ⟨fun e3 => ?_, fun e3 => ?_⟩, fun e2 => ?_⟩
  all_goals
    intro hA
    refine ⟨(0, okN t c gc w wc), ⟨by simp, by rw [List.drop_zero]⟩, ⟨rfl, by simp_all [okN]⟩, ?_⟩
    rintro ⟨i, fl⟩ ⟨hi, hinv⟩
    simp only at hi hinv ⊢
    rcases get_cases L i hi with ⟨x, hx, hi'⟩ | ⟨hx, hi'⟩
    · rw [drop_get hx, List.all_cons, ← Bool.and_assoc] at hinv
      refine ⟨fun _ => ⟨by omega, fun y hy => ?_⟩, fun h => by simp at h; omega⟩
      obtain rfl : x = y := by simpa [hx] using hy
      refine ⟨fl && q x, ⟨fun h => by rw [h]; rfl, fun h => by rw [h]; rfl⟩, (i + 1, fl && q x), ⟨by simp only; omega, hinv⟩, by simp only; omega, wrap_succ hi' hA, rfl⟩
    · subst hi'
      refine ⟨fun h => by simp at h, fun _ => ?_⟩
      rw [List.drop_length] at hinv
      simp only [List.all_nil, Bool.and_true] at hinv
      rw [hE, hinv]
end Go.Proofs.Ytddbideknibckaa
namespace Go.Proofs.Ytddbideknibckaa
open Go.Proofs.Ytddbideknibckaa.Gx
set_option maxRecDepth 100000
set_option maxHeartbeats 0
abbrev thr : Ty := .pair lab lab
noncomputable def p11 : Pv PP := ⟨11, _, ⟨rfl, rights_ok⟩⟩
noncomputable def p12 : Pv PP := ⟨12, _, ⟨rfl, make_ok⟩⟩
noncomputable def p13 : Pv PP := ⟨13, _, ⟨rfl, makeN_ok⟩⟩
noncomputable def p15 : Pv PP := ⟨15, _, ⟨rfl, enter_ok⟩⟩
noncomputable def p16 : Pv PP := ⟨16, _, ⟨rfl, enterN_ok⟩⟩
noncomputable def p20 : Pv PP := ⟨20, _, ⟨rfl, rise_ok⟩⟩
noncomputable def p23 : Pv PP := ⟨23, _, ⟨rfl, lend_ok⟩⟩
noncomputable def p24 : Pv PP := ⟨24, _, ⟨rfl, lendN_ok⟩⟩
noncomputable def p25 : Pv PP := ⟨25, _, ⟨rfl, riseN_ok⟩⟩
noncomputable def p26 : Pv PP := ⟨26, _, ⟨rfl, clear_ok⟩⟩
noncomputable def p27 : Pv PP := ⟨27, _, ⟨rfl, clearN_ok⟩⟩
theorem lives_vc : fvc PP (eP [p12, p15]) Try.f10 c10 (ofArgs [] ()) St0 (gives [.bool] (true, ())) = (
  (sml ((2 : Int), [((5 : Int), (0 : Int))]) && sml ((2 : Int), [((7 : Int), (4 : Int))])) = true ∧ ((makeM ((2 : Int), [((5 : Int), (0 : Int))]) ((4 : Int), []) ((2 : Int), []) ((2 : Int), [((7 : Int), (4 : Int))]) == 
  (0 : Int)) = true → (sml ((2 : Int), [((5 : Int), (0 : Int))]) && sml ((1 : Int), [])) = true ∧ ((makeM ((2 : Int), [((5 : Int), (0 : Int))]) ((4 : Int), []) ((2 : Int), []) ((1 : Int), []) == (3 : Int)) = true → (sml 
  ((2 : Int), [((7 : Int), (4 : Int))]) && sml ((2 : Int), [((7 : Int), (4 : Int))])) = true ∧ ((makeM ((2 : Int), [((7 : Int), (4 : Int))]) ((4 : Int), []) ((2 : Int), []) ((2 : Int), [((7 : Int), (4 : Int))]) == (3 : 
  Int)) = true → true = true ∧ ((enterM ((2 : Int), []) ((3 : Int), []) ((2 : Int), [((5 : Int), (0 : Int))]) ((3 : Int), []) ((2 : Int), [((5 : Int), (0 : Int))]) ((3 : Int), []) == (0 : Int)) = true → true = true ∧ 
  (enterM ((2 : Int), [((7 : Int), (4 : Int))]) ((4 : Int), []) ((2 : Int), [((5 : Int), (0 : Int))]) ((3 : Int), []) ((2 : Int), [((5 : Int), (0 : Int))]) ((3 : Int), []) == (3 : Int)) = true ∧ True) ∧ ((enterM ((2 : 
  Int), []) ((3 : Int), []) ((2 : Int), [((5 : Int), (0 : Int))]) ((3 : Int), []) ((2 : Int), [((5 : Int), (0 : Int))]) ((3 : Int), []) == (0 : Int)) = !true → false = true ∧ True)) ∧ ((makeM ((2 : Int), [((7 : Int), (4 
  : Int))]) ((4 : Int), []) ((2 : Int), []) ((2 : Int), [((7 : Int), (4 : Int))]) == (3 : Int)) = !true → false = true ∧ True)) ∧ ((makeM ((2 : Int), [((5 : Int), (0 : Int))]) ((4 : Int), []) ((2 : Int), []) ((1 : Int), 
  []) == (3 : Int)) = !true → false = true ∧ True)) ∧ ((makeM ((2 : Int), [((5 : Int), (0 : Int))]) ((4 : Int), []) ((2 : Int), []) ((2 : Int), [((7 : Int), (4 : Int))]) == (0 : Int)) = !true → false = true ∧ True)) := by kernel_rfl
end Go.Proofs.Ytddbideknibckaa
namespace Go.Proofs.Ytddbideknibckaa
open Go.Proofs.Ytddbideknibckaa.Gx
set_option maxRecDepth 100000
set_option maxHeartbeats 2000000
set_option linter.unusedSimpArgs false
set_option linter.unusedVariables false
theorem lives_ok : PSpecOk PP 10 (Q [] [.bool] (fun _ => true) (fun _ => (true, ()))) := by
  refine pspec_Q mixed (fn := Try.f10) (c := c10) rfl rfl _ _ rfl ?_
  rintro ⟨⟩ - -
  refine ⟨_, env_ok [p12, p15] [] [] [] [], rfl, hold lives_vc ?_⟩
  have m1 : makeM (2, [(5, 0)]) (4, []) (2, []) (2, [(7, 4)]) = 0 := by decide
  have m2 : makeM (2, [(5, 0)]) (4, []) (2, []) (1, []) = 3 := by decide
  have m3 : makeM (2, [(7, 4)]) (4, []) (2, []) (2, [(7, 4)]) = 3 := by decide
  have m4 : enterM (2, []) (3, []) (2, [(5, 0)]) (3, []) (2, [(5, 0)]) (3, []) = 0 := by decide
  have m5 : enterM (2, [(7, 4)]) (4, []) (2, [(5, 0)]) (3, []) (2, [(5, 0)]) (3, []) = 3 := by decide
  rw [m1, m2, m3, m4, m5]
  simp
end Go.Proofs.Ytddbideknibckaa
namespace Go.Proofs.Ytddbideknibckaa
open Go.Proofs.Ytddbideknibckaa.Gx
set_option maxRecDepth 100000
set_option maxHeartbeats 0
noncomputable def p10 : Pv PP := ⟨10, _, ⟨rfl, lives_ok⟩⟩
theorem makes_vc (t : Lab × Lab) (b l : Lab) : fvc PP (eP [p10, p11, p12, p13]) Try.f3 c3 (ofArgs [thr, lab, lab] (t, b, l, ())) St0 (gives [.bool] (true, ())) = (
  true = true ∧ ((!true) = true → false = true ∧ True) ∧ ((!true) = false → true = true ∧ ((!rightsL [(t.fst.fst, t.fst.snd), (t.snd.fst, t.snd.snd), (b.fst, b.snd), (l.fst, l.snd)]) = true → true = true ∧ True) ∧ 
  ((!rightsL [(t.fst.fst, t.fst.snd), (t.snd.fst, t.snd.snd), (b.fst, b.snd), (l.fst, l.snd)]) = false → (sml (t.fst.fst, t.fst.snd) && sml (l.fst, l.snd)) = true ∧ (sml (t.fst.fst, t.fst.snd) && (sml (t.snd.fst, 
  t.snd.snd) && (sml (b.fst, b.snd) && sml (l.fst, l.snd)))) = true ∧ (makeM (t.fst.fst, t.fst.snd) (t.snd.fst, t.snd.snd) (b.fst, b.snd) (l.fst, l.snd) == makeN (t.fst.fst, t.fst.snd) (t.snd.fst, t.snd.snd) (b.fst, 
  b.snd) (l.fst, l.snd)) = true ∧ True))) := by kernel_rfl
theorem enters_vc (t g w : Lab × Lab) : fvc PP (eP [p10, p11, p14, p15, p16]) Try.f4 c4 (ofArgs [thr, thr, thr] (t, g, w, ())) St0 (gives [.bool] (true, ())) = (
  true = true ∧ ((!true) = true → false = true ∧ True) ∧ ((!true) = false → true = true ∧ ((!rightsL [(t.snd.fst, t.snd.snd), (g.snd.fst, g.snd.snd), (w.fst.fst, w.fst.snd), (w.snd.fst, w.snd.snd)]) = false → true = true 
  ∧ ((!plainL (t.fst.fst, t.fst.snd)) = false → true = true ∧ ((!plainL (g.fst.fst, g.fst.snd)) = true → true = true ∧ True) ∧ ((!plainL (g.fst.fst, g.fst.snd)) = false → true = true ∧ (sml (t.fst.fst, t.fst.snd) && (sml 
  (t.snd.fst, t.snd.snd) && (sml (g.fst.fst, g.fst.snd) && (sml (g.snd.fst, g.snd.snd) && (sml (w.fst.fst, w.fst.snd) && sml (w.snd.fst, w.snd.snd)))))) = true ∧ (enterM (t.fst.fst, t.fst.snd) (t.snd.fst, t.snd.snd) 
  (g.fst.fst, g.fst.snd) (g.snd.fst, g.snd.snd) (w.fst.fst, w.fst.snd) (w.snd.fst, w.snd.snd) == enterN (t.fst.fst, t.fst.snd) (t.snd.fst, t.snd.snd) (g.fst.fst, g.fst.snd) (g.snd.fst, g.snd.snd) (w.fst.fst, w.fst.snd) 
  (w.snd.fst, w.snd.snd)) = true ∧ True)) ∧ ((!plainL (t.fst.fst, t.fst.snd)) = !false → true = true ∧ True)) ∧ ((!rightsL [(t.snd.fst, t.snd.snd), (g.snd.fst, g.snd.snd), (w.fst.fst, w.fst.snd), (w.snd.fst, w.snd.snd)]) 
  = !false → true = true ∧ True))) := by kernel_rfl
def taintsLoop (t : Lab × Lab) (b l : Lab) (k : Int) : List (Nat × (St → Option LoopSpec)) :=
  [(8, fun _ => some { α := Nat, inv := fun i => i ≤ (namedL [t.1, b, l] ++ [k]).length ∧ True, ov := fun i => [(51, .int .i64 (i : Int))], rov := fun _ => [], meas := fun i => (namedL [t.1, b, l] ++ [k]).length - i })]
theorem taints_vc (t : Lab × Lab) (b l : Lab) (k : Int) : fvc PP (env PP [p10, p11, p14, p17, p12, p19] [s18] [] [] (taintsLoop t b l k)) Try.f5 c5 (ofArgs [thr, lab, lab, i64] (t, b, l, k, ())) St0 (gives [.bool] (true, ())) = (
  true = true ∧ ((!true) = true → false = true ∧ True) ∧ ((!true) = false → true = true ∧ ((!rightsL [(t.snd.fst, t.snd.snd), (b.fst, b.snd)]) = false → true = true ∧ ((!plainL (t.fst.fst, t.fst.snd)) = false → true = 
  true ∧ ((!freeL (l.fst, l.snd)) = true → true = true ∧ True) ∧ ((!freeL (l.fst, l.snd)) = false → (sml (t.fst.fst, t.fst.snd) && sml (l.fst, l.snd)) = true ∧ ((makeM (t.fst.fst, t.fst.snd) (t.snd.fst, t.snd.snd) 
  (b.fst, b.snd) (l.fst, l.snd) != (0 : Int)) = true → true = true ∧ True) ∧ ((makeM (t.fst.fst, t.fst.snd) (t.snd.fst, t.snd.snd) (b.fst, b.snd) (l.fst, l.snd) != (0 : Int)) = false → smallLs [(t.fst.fst, t.fst.snd), 
  (b.fst, b.snd), (l.fst, l.snd)] = true ∧ ((namedL [(t.fst.fst, t.fst.snd), (b.fst, b.snd), (l.fst, l.snd)]).length + [k].length) * (8 : Nat) ≤ (140737488355328 : Nat) ∧ ((namedL [(t.fst.fst, t.fst.snd), (b.fst, b.snd), 
  (l.fst, l.snd)] ++ [k]).length ≤ maxLen → ∃ (x0 : Nat), (x0 ≤ (namedL [t.fst, b, l] ++ [k]).length ∧ True) ∧ ((True ∧ True) ∧ ((0 : Int) = (↑x0 : Int) ∧ (↑(namedL [(t.fst.fst, t.fst.snd), (b.fst, b.snd), (l.fst, 
  l.snd)] ++ [k]).length : Int) = (↑(namedL [(t.fst.fst, t.fst.snd), (b.fst, b.snd), (l.fst, l.snd)] ++ [k]).length : Int) ∧ True ∧ false = false ∧ false = false ∧ false = false ∧ True ∧ True ∧ True ∧ (t.fst.fst = 
  t.fst.fst ∧ t.fst.snd = t.fst.snd ∧ t.snd.fst = t.snd.fst ∧ t.snd.snd = t.snd.snd ∧ True) ∧ (b.fst = b.fst ∧ b.snd = b.snd ∧ True) ∧ (l.fst = l.fst ∧ l.snd = l.snd ∧ True) ∧ k = k ∧ True) ∧ (t.fst.fst = t.fst.fst ∧ 
  t.fst.snd = t.fst.snd ∧ t.snd.fst = t.snd.fst ∧ t.snd.snd = t.snd.snd ∧ True) ∧ (b.fst = b.fst ∧ b.snd = b.snd ∧ True) ∧ (l.fst = l.fst ∧ l.snd = l.snd ∧ True) ∧ True ∧ True ∧ namedL [(t.fst.fst, t.fst.snd), (b.fst, 
  b.snd), (l.fst, l.snd)] ++ [k] = namedL [(t.fst.fst, t.fst.snd), (b.fst, b.snd), (l.fst, l.snd)] ++ [k] ∧ [k] = [k] ∧ True) ∧ ∀ (x : Nat), x ≤ (namedL [t.fst, b, l] ++ [k]).length ∧ True → (decide ((↑x : Int) < 
  (↑(namedL [(t.fst.fst, t.fst.snd), (b.fst, b.snd), (l.fst, l.snd)] ++ [k]).length : Int)) = true → ((0 : Int) ≤ (↑x : Int) ∧ (↑x : Int) < (↑(namedL [(t.fst.fst, t.fst.snd), (b.fst, b.snd), (l.fst, l.snd)] ++ 
  [k]).length : Int)) ∧ (↑x : Int).toNat < (namedL [(t.fst.fst, t.fst.snd), (b.fst, b.snd), (l.fst, l.snd)] ++ [k]).length ∧ ∀ (y : Int), (namedL [(t.fst.fst, t.fst.snd), (b.fst, b.snd), (l.fst, l.snd)] ++ [k])[(↑x : 
  Int).toNat]? = some y → true = true ∧ true = true ∧ true = true ∧ ∃ (v : Bool), ((decide (atL (l.fst, l.snd) y < atL (t.fst.fst, t.fst.snd) y) = false → (decide (atL (l.fst, l.snd) y < atL (b.fst, b.snd) y) = true → 
  (decide (atL (b.fst, b.snd) y > (2 : Int)) = false → ((atL (t.fst.fst, t.fst.snd) y != (0 : Int)) = true → (atL (b.fst, b.snd) y != atL (t.fst.fst, t.fst.snd) y) = v) ∧ ((atL (t.fst.fst, t.fst.snd) y != (0 : Int)) = 
  !true → false = v)) ∧ (decide (atL (b.fst, b.snd) y > (2 : Int)) = !false → true = v)) ∧ (decide (atL (l.fst, l.snd) y < atL (b.fst, b.snd) y) = !true → ((atL (t.fst.fst, t.fst.snd) y != (0 : Int)) = true → (atL 
  (b.fst, b.snd) y != atL (t.fst.fst, t.fst.snd) y) = v) ∧ ((atL (t.fst.fst, t.fst.snd) y != (0 : Int)) = !true → false = v))) ∧ (decide (atL (l.fst, l.snd) y < atL (t.fst.fst, t.fst.snd) y) = !false → true = v)) ∧ (v = 
  true → false = true ∧ True) ∧ (v = false → ∃ (x' : Nat), (x' ≤ (namedL [t.fst, b, l] ++ [k]).length ∧ True) ∧ (namedL [t.fst, b, l] ++ [k]).length - x' < (namedL [t.fst, b, l] ++ [k]).length - x ∧ (True ∧ True) ∧ 
  (IntKind.i64.wrap ((↑x : Int) + (1 : Int)) = (↑x' : Int) ∧ (↑(namedL [(t.fst.fst, t.fst.snd), (b.fst, b.snd), (l.fst, l.snd)] ++ [k]).length : Int) = (↑(namedL [(t.fst.fst, t.fst.snd), (b.fst, b.snd), (l.fst, l.snd)] 
  ++ [k]).length : Int) ∧ True ∧ false = false ∧ false = false ∧ false = false ∧ True ∧ True ∧ True ∧ (t.fst.fst = t.fst.fst ∧ t.fst.snd = t.fst.snd ∧ t.snd.fst = t.snd.fst ∧ t.snd.snd = t.snd.snd ∧ True) ∧ (b.fst = 
  b.fst ∧ b.snd = b.snd ∧ True) ∧ (l.fst = l.fst ∧ l.snd = l.snd ∧ True) ∧ k = k ∧ True) ∧ (t.fst.fst = t.fst.fst ∧ t.fst.snd = t.fst.snd ∧ t.snd.fst = t.snd.fst ∧ t.snd.snd = t.snd.snd ∧ True) ∧ (b.fst = b.fst ∧ b.snd = 
  b.snd ∧ True) ∧ (l.fst = l.fst ∧ l.snd = l.snd ∧ True) ∧ True ∧ True ∧ namedL [(t.fst.fst, t.fst.snd), (b.fst, b.snd), (l.fst, l.snd)] ++ [k] = namedL [(t.fst.fst, t.fst.snd), (b.fst, b.snd), (l.fst, l.snd)] ++ [k] ∧ 
  [k] = [k] ∧ True)) ∧ (decide ((↑x : Int) < (↑(namedL [(t.fst.fst, t.fst.snd), (b.fst, b.snd), (l.fst, l.snd)] ++ [k]).length : Int)) = false → true = true ∧ True))))) ∧ ((!plainL (t.fst.fst, t.fst.snd)) = !false → true 
  = true ∧ True)) ∧ ((!rightsL [(t.snd.fst, t.snd.snd), (b.fst, b.snd)]) = !false → true = true ∧ True))) := by kernel_rfl
def keepsLoop (t g w : Lab × Lab) (k : Int) : List (Nat × (St → Option LoopSpec)) :=
  [(9, fun _ => some { α := Nat, inv := fun i => i ≤ (namedL [t.1, g.1, w.1] ++ [k]).length ∧ True, ov := fun i => [(75, .int .i64 (i : Int))], rov := fun _ => [], meas := fun i => (namedL [t.1, g.1, w.1] ++ [k]).length - i })]
theorem keeps_vc (t g w : Lab × Lab) (k : Int) : fvc PP (env PP [p10, p11, p14, p15, p20, p19] [s18] [] [] (keepsLoop t g w k)) Try.f6 c6 (ofArgs [thr, thr, thr, i64] (t, g, w, k, ())) St0 (gives [.bool] (true, ())) = (
  true = true ∧ ((!true) = true → false = true ∧ True) ∧ ((!true) = false → true = true ∧ ((!rightsL [(t.snd.fst, t.snd.snd), (g.snd.fst, g.snd.snd), (w.fst.fst, w.fst.snd), (w.snd.fst, w.snd.snd)]) = false → true = true 
  ∧ ((!plainL (t.fst.fst, t.fst.snd)) = false → true = true ∧ ((!plainL (g.fst.fst, g.fst.snd)) = true → true = true ∧ True) ∧ ((!plainL (g.fst.fst, g.fst.snd)) = false → true = true ∧ true = true ∧ smallLs [(t.fst.fst, 
  t.fst.snd), (g.fst.fst, g.fst.snd), (w.fst.fst, w.fst.snd)] = true ∧ ((namedL [(t.fst.fst, t.fst.snd), (g.fst.fst, g.fst.snd), (w.fst.fst, w.fst.snd)]).length + [k].length) * (8 : Nat) ≤ (140737488355328 : Nat) ∧ 
  ((namedL [(t.fst.fst, t.fst.snd), (g.fst.fst, g.fst.snd), (w.fst.fst, w.fst.snd)] ++ [k]).length ≤ maxLen → ∃ (x0 : Nat), (x0 ≤ (namedL [t.fst, g.fst, w.fst] ++ [k]).length ∧ True) ∧ ((True ∧ True) ∧ ((0 : Int) = (↑x0 
  : Int) ∧ (↑(namedL [(t.fst.fst, t.fst.snd), (g.fst.fst, g.fst.snd), (w.fst.fst, w.fst.snd)] ++ [k]).length : Int) = (↑(namedL [(t.fst.fst, t.fst.snd), (g.fst.fst, g.fst.snd), (w.fst.fst, w.fst.snd)] ++ [k]).length : 
  Int) ∧ True ∧ True ∧ riseM (t.fst.fst, t.fst.snd) (t.snd.fst, t.snd.snd) (w.fst.fst, w.fst.snd) = riseM (t.fst.fst, t.fst.snd) (t.snd.fst, t.snd.snd) (w.fst.fst, w.fst.snd) ∧ enterM (t.fst.fst, t.fst.snd) (t.snd.fst, 
  t.snd.snd) (g.fst.fst, g.fst.snd) (g.snd.fst, g.snd.snd) (w.fst.fst, w.fst.snd) (w.snd.fst, w.snd.snd) = enterM (t.fst.fst, t.fst.snd) (t.snd.fst, t.snd.snd) (g.fst.fst, g.fst.snd) (g.snd.fst, g.snd.snd) (w.fst.fst, 
  w.fst.snd) (w.snd.fst, w.snd.snd) ∧ false = false ∧ false = false ∧ True ∧ True ∧ True ∧ (t.fst.fst = t.fst.fst ∧ t.fst.snd = t.fst.snd ∧ t.snd.fst = t.snd.fst ∧ t.snd.snd = t.snd.snd ∧ True) ∧ (g.fst.fst = g.fst.fst ∧ 
  g.fst.snd = g.fst.snd ∧ g.snd.fst = g.snd.fst ∧ g.snd.snd = g.snd.snd ∧ True) ∧ (w.fst.fst = w.fst.fst ∧ w.fst.snd = w.fst.snd ∧ w.snd.fst = w.snd.fst ∧ w.snd.snd = w.snd.snd ∧ True) ∧ k = k ∧ True) ∧ (t.fst.fst = 
  t.fst.fst ∧ t.fst.snd = t.fst.snd ∧ t.snd.fst = t.snd.fst ∧ t.snd.snd = t.snd.snd ∧ True) ∧ (g.fst.fst = g.fst.fst ∧ g.fst.snd = g.fst.snd ∧ g.snd.fst = g.snd.fst ∧ g.snd.snd = g.snd.snd ∧ True) ∧ (w.fst.fst = 
  w.fst.fst ∧ w.fst.snd = w.fst.snd ∧ w.snd.fst = w.snd.fst ∧ w.snd.snd = w.snd.snd ∧ True) ∧ True ∧ True ∧ namedL [(t.fst.fst, t.fst.snd), (g.fst.fst, g.fst.snd), (w.fst.fst, w.fst.snd)] ++ [k] = namedL [(t.fst.fst, 
  t.fst.snd), (g.fst.fst, g.fst.snd), (w.fst.fst, w.fst.snd)] ++ [k] ∧ [k] = [k] ∧ True) ∧ ∀ (x : Nat), x ≤ (namedL [t.fst, g.fst, w.fst] ++ [k]).length ∧ True → (decide ((↑x : Int) < (↑(namedL [(t.fst.fst, t.fst.snd), 
  (g.fst.fst, g.fst.snd), (w.fst.fst, w.fst.snd)] ++ [k]).length : Int)) = true → ((0 : Int) ≤ (↑x : Int) ∧ (↑x : Int) < (↑(namedL [(t.fst.fst, t.fst.snd), (g.fst.fst, g.fst.snd), (w.fst.fst, w.fst.snd)] ++ [k]).length : 
  Int)) ∧ (↑x : Int).toNat < (namedL [(t.fst.fst, t.fst.snd), (g.fst.fst, g.fst.snd), (w.fst.fst, w.fst.snd)] ++ [k]).length ∧ ∀ (y : Int), (namedL [(t.fst.fst, t.fst.snd), (g.fst.fst, g.fst.snd), (w.fst.fst, w.fst.snd)] 
  ++ [k])[(↑x : Int).toNat]? = some y → true = true ∧ true = true ∧ true = true ∧ ∃ (v : Bool), (((riseM (t.fst.fst, t.fst.snd) (t.snd.fst, t.snd.snd) (w.fst.fst, w.fst.snd) == (0 : Int)) = true → (decide (atL 
  (w.fst.fst, w.fst.snd) y < atL (t.fst.fst, t.fst.snd) y) = false → ((enterM (t.fst.fst, t.fst.snd) (t.snd.fst, t.snd.snd) (g.fst.fst, g.fst.snd) (g.snd.fst, g.snd.snd) (w.fst.fst, w.fst.snd) (w.snd.fst, w.snd.snd) == 
  (0 : Int)) = true → ((atL (t.fst.fst, t.fst.snd) y != (0 : Int)) = true → ((atL (g.fst.fst, g.fst.snd) y != (0 : Int)) = true → decide (atL (w.fst.fst, w.fst.snd) y < atL (t.fst.fst, t.fst.snd) y) = v) ∧ ((atL 
  (g.fst.fst, g.fst.snd) y != (0 : Int)) = !true → false = v)) ∧ ((atL (t.fst.fst, t.fst.snd) y != (0 : Int)) = !true → false = v)) ∧ ((enterM (t.fst.fst, t.fst.snd) (t.snd.fst, t.snd.snd) (g.fst.fst, g.fst.snd) 
  (g.snd.fst, g.snd.snd) (w.fst.fst, w.fst.snd) (w.snd.fst, w.snd.snd) == (0 : Int)) = !true → false = v)) ∧ (decide (atL (w.fst.fst, w.fst.snd) y < atL (t.fst.fst, t.fst.snd) y) = !false → true = v)) ∧ ((riseM 
  (t.fst.fst, t.fst.snd) (t.snd.fst, t.snd.snd) (w.fst.fst, w.fst.snd) == (0 : Int)) = !true → ((enterM (t.fst.fst, t.fst.snd) (t.snd.fst, t.snd.snd) (g.fst.fst, g.fst.snd) (g.snd.fst, g.snd.snd) (w.fst.fst, w.fst.snd) 
  (w.snd.fst, w.snd.snd) == (0 : Int)) = true → ((atL (t.fst.fst, t.fst.snd) y != (0 : Int)) = true → ((atL (g.fst.fst, g.fst.snd) y != (0 : Int)) = true → decide (atL (w.fst.fst, w.fst.snd) y < atL (t.fst.fst, 
  t.fst.snd) y) = v) ∧ ((atL (g.fst.fst, g.fst.snd) y != (0 : Int)) = !true → false = v)) ∧ ((atL (t.fst.fst, t.fst.snd) y != (0 : Int)) = !true → false = v)) ∧ ((enterM (t.fst.fst, t.fst.snd) (t.snd.fst, t.snd.snd) 
  (g.fst.fst, g.fst.snd) (g.snd.fst, g.snd.snd) (w.fst.fst, w.fst.snd) (w.snd.fst, w.snd.snd) == (0 : Int)) = !true → false = v))) ∧ (v = true → false = true ∧ True) ∧ (v = false → ∃ (x' : Nat), (x' ≤ (namedL [t.fst, 
  g.fst, w.fst] ++ [k]).length ∧ True) ∧ (namedL [t.fst, g.fst, w.fst] ++ [k]).length - x' < (namedL [t.fst, g.fst, w.fst] ++ [k]).length - x ∧ (True ∧ True) ∧ (IntKind.i64.wrap ((↑x : Int) + (1 : Int)) = (↑x' : Int) ∧ 
  (↑(namedL [(t.fst.fst, t.fst.snd), (g.fst.fst, g.fst.snd), (w.fst.fst, w.fst.snd)] ++ [k]).length : Int) = (↑(namedL [(t.fst.fst, t.fst.snd), (g.fst.fst, g.fst.snd), (w.fst.fst, w.fst.snd)] ++ [k]).length : Int) ∧ True 
  ∧ True ∧ riseM (t.fst.fst, t.fst.snd) (t.snd.fst, t.snd.snd) (w.fst.fst, w.fst.snd) = riseM (t.fst.fst, t.fst.snd) (t.snd.fst, t.snd.snd) (w.fst.fst, w.fst.snd) ∧ enterM (t.fst.fst, t.fst.snd) (t.snd.fst, t.snd.snd) 
  (g.fst.fst, g.fst.snd) (g.snd.fst, g.snd.snd) (w.fst.fst, w.fst.snd) (w.snd.fst, w.snd.snd) = enterM (t.fst.fst, t.fst.snd) (t.snd.fst, t.snd.snd) (g.fst.fst, g.fst.snd) (g.snd.fst, g.snd.snd) (w.fst.fst, w.fst.snd) 
  (w.snd.fst, w.snd.snd) ∧ false = false ∧ false = false ∧ True ∧ True ∧ True ∧ (t.fst.fst = t.fst.fst ∧ t.fst.snd = t.fst.snd ∧ t.snd.fst = t.snd.fst ∧ t.snd.snd = t.snd.snd ∧ True) ∧ (g.fst.fst = g.fst.fst ∧ g.fst.snd 
  = g.fst.snd ∧ g.snd.fst = g.snd.fst ∧ g.snd.snd = g.snd.snd ∧ True) ∧ (w.fst.fst = w.fst.fst ∧ w.fst.snd = w.fst.snd ∧ w.snd.fst = w.snd.fst ∧ w.snd.snd = w.snd.snd ∧ True) ∧ k = k ∧ True) ∧ (t.fst.fst = t.fst.fst ∧ 
  t.fst.snd = t.fst.snd ∧ t.snd.fst = t.snd.fst ∧ t.snd.snd = t.snd.snd ∧ True) ∧ (g.fst.fst = g.fst.fst ∧ g.fst.snd = g.fst.snd ∧ g.snd.fst = g.snd.fst ∧ g.snd.snd = g.snd.snd ∧ True) ∧ (w.fst.fst = w.fst.fst ∧ 
  w.fst.snd = w.fst.snd ∧ w.snd.fst = w.snd.fst ∧ w.snd.snd = w.snd.snd ∧ True) ∧ True ∧ True ∧ namedL [(t.fst.fst, t.fst.snd), (g.fst.fst, g.fst.snd), (w.fst.fst, w.fst.snd)] ++ [k] = namedL [(t.fst.fst, t.fst.snd), 
  (g.fst.fst, g.fst.snd), (w.fst.fst, w.fst.snd)] ++ [k] ∧ [k] = [k] ∧ True)) ∧ (decide ((↑x : Int) < (↑(namedL [(t.fst.fst, t.fst.snd), (g.fst.fst, g.fst.snd), (w.fst.fst, w.fst.snd)] ++ [k]).length : Int)) = false → 
  true = true ∧ True)))) ∧ ((!plainL (t.fst.fst, t.fst.snd)) = !false → true = true ∧ True)) ∧ ((!rightsL [(t.snd.fst, t.snd.snd), (g.snd.fst, g.snd.snd), (w.fst.fst, w.fst.snd), (w.snd.fst, w.snd.snd)]) = !false → true 
  = true ∧ True))) := by kernel_rfl
theorem middle_vc (t : Lab × Lab) (m w : Lab) : fvc PP (eP [p10, p11, p14, p17, p20, p21, p15, p22]) Try.f7 c7 (ofArgs [thr, lab, lab] (t, m, w, ())) St0 (gives [.bool] (true, ())) = (
  true = true ∧ ((!true) = true → false = true ∧ True) ∧ ((!true) = false → true = true ∧ ((!rightsL [(t.snd.fst, t.snd.snd)]) = false → true = true ∧ ((!plainL (t.fst.fst, t.fst.snd)) = false → true = true ∧ ((!plainL 
  (m.fst, m.snd)) = false → true = true ∧ ((!plainL (w.fst, w.snd)) = false → true = true ∧ ((!freeL (t.snd.fst, t.snd.snd)) = true → true = true ∧ True) ∧ ((!freeL (t.snd.fst, t.snd.snd)) = false → true = true ∧ ((riseM 
  (t.fst.fst, t.fst.snd) (t.snd.fst, t.snd.snd) (w.fst, w.snd) == (0 : Int)) = true → (sml (t.fst.fst, t.fst.snd) && sml (m.fst, m.snd)) = true ∧ (leqN (t.fst.fst, t.fst.snd) (m.fst, m.snd) = true → (sml (m.fst, m.snd) 
  && sml (w.fst, w.snd)) = true ∧ (leqN (m.fst, m.snd) (w.fst, w.snd) = true → true = true ∧ ((riseM (t.fst.fst, t.fst.snd) (t.snd.fst, t.snd.snd) (m.fst, m.snd) != (0 : Int)) = false → true = true ∧ ((riseM (m.fst, 
  m.snd) (t.snd.fst, t.snd.snd) (w.fst, w.snd) != (0 : Int)) = true → false = true ∧ True) ∧ ((riseM (m.fst, m.snd) (t.snd.fst, t.snd.snd) (w.fst, w.snd) != (0 : Int)) = false → true = true ∧ ∃ (v : Bool), ((sml 
  (t.fst.fst, t.fst.snd) && sml (t.snd.fst, t.snd.snd)) = true ∧ (leqN (t.fst.fst, t.fst.snd) (t.snd.fst, t.snd.snd) = true → decide (t.fst.snd.length ≤ (1000000 : Nat)) = true ∧ (sml ((1 : Int), []) && sml ((upL 
  (t.fst.fst, t.fst.snd)).fst, (upL (t.fst.fst, t.fst.snd)).snd)) = true ∧ leqN ((1 : Int), []) ((upL (t.fst.fst, t.fst.snd)).fst, (upL (t.fst.fst, t.fst.snd)).snd) = v) ∧ (leqN (t.fst.fst, t.fst.snd) (t.snd.fst, 
  t.snd.snd) = !true → false = v)) ∧ ((enterM (t.fst.fst, t.fst.snd) (t.snd.fst, t.snd.snd) ((1 : Int), []) ((4 : Int), []) (t.fst.fst, t.fst.snd) (t.snd.fst, t.snd.snd) == (0 : Int)) == v) = true ∧ True)) ∧ ((riseM 
  (t.fst.fst, t.fst.snd) (t.snd.fst, t.snd.snd) (m.fst, m.snd) != (0 : Int)) = !false → false = true ∧ True)) ∧ (leqN (m.fst, m.snd) (w.fst, w.snd) = false → true = true ∧ ∃ (v : Bool), ((sml (t.fst.fst, t.fst.snd) && 
  sml (t.snd.fst, t.snd.snd)) = true ∧ (leqN (t.fst.fst, t.fst.snd) (t.snd.fst, t.snd.snd) = true → decide (t.fst.snd.length ≤ (1000000 : Nat)) = true ∧ (sml ((1 : Int), []) && sml ((upL (t.fst.fst, t.fst.snd)).fst, (upL 
  (t.fst.fst, t.fst.snd)).snd)) = true ∧ leqN ((1 : Int), []) ((upL (t.fst.fst, t.fst.snd)).fst, (upL (t.fst.fst, t.fst.snd)).snd) = v) ∧ (leqN (t.fst.fst, t.fst.snd) (t.snd.fst, t.snd.snd) = !true → false = v)) ∧ 
  ((enterM (t.fst.fst, t.fst.snd) (t.snd.fst, t.snd.snd) ((1 : Int), []) ((4 : Int), []) (t.fst.fst, t.fst.snd) (t.snd.fst, t.snd.snd) == (0 : Int)) == v) = true ∧ True)) ∧ (leqN (t.fst.fst, t.fst.snd) (m.fst, m.snd) = 
  !true → true = true ∧ ∃ (v : Bool), ((sml (t.fst.fst, t.fst.snd) && sml (t.snd.fst, t.snd.snd)) = true ∧ (leqN (t.fst.fst, t.fst.snd) (t.snd.fst, t.snd.snd) = true → decide (t.fst.snd.length ≤ (1000000 : Nat)) = true ∧ 
  (sml ((1 : Int), []) && sml ((upL (t.fst.fst, t.fst.snd)).fst, (upL (t.fst.fst, t.fst.snd)).snd)) = true ∧ leqN ((1 : Int), []) ((upL (t.fst.fst, t.fst.snd)).fst, (upL (t.fst.fst, t.fst.snd)).snd) = v) ∧ (leqN 
  (t.fst.fst, t.fst.snd) (t.snd.fst, t.snd.snd) = !true → false = v)) ∧ ((enterM (t.fst.fst, t.fst.snd) (t.snd.fst, t.snd.snd) ((1 : Int), []) ((4 : Int), []) (t.fst.fst, t.fst.snd) (t.snd.fst, t.snd.snd) == (0 : Int)) 
  == v) = true ∧ True)) ∧ ((riseM (t.fst.fst, t.fst.snd) (t.snd.fst, t.snd.snd) (w.fst, w.snd) == (0 : Int)) = !true → true = true ∧ ∃ (v : Bool), ((sml (t.fst.fst, t.fst.snd) && sml (t.snd.fst, t.snd.snd)) = true ∧ 
  (leqN (t.fst.fst, t.fst.snd) (t.snd.fst, t.snd.snd) = true → decide (t.fst.snd.length ≤ (1000000 : Nat)) = true ∧ (sml ((1 : Int), []) && sml ((upL (t.fst.fst, t.fst.snd)).fst, (upL (t.fst.fst, t.fst.snd)).snd)) = true 
  ∧ leqN ((1 : Int), []) ((upL (t.fst.fst, t.fst.snd)).fst, (upL (t.fst.fst, t.fst.snd)).snd) = v) ∧ (leqN (t.fst.fst, t.fst.snd) (t.snd.fst, t.snd.snd) = !true → false = v)) ∧ ((enterM (t.fst.fst, t.fst.snd) (t.snd.fst, 
  t.snd.snd) ((1 : Int), []) ((4 : Int), []) (t.fst.fst, t.fst.snd) (t.snd.fst, t.snd.snd) == (0 : Int)) == v) = true ∧ True))) ∧ ((!plainL (w.fst, w.snd)) = !false → true = true ∧ True)) ∧ ((!plainL (m.fst, m.snd)) = 
  !false → true = true ∧ True)) ∧ ((!plainL (t.fst.fst, t.fst.snd)) = !false → true = true ∧ True)) ∧ ((!rightsL [(t.snd.fst, t.snd.snd)]) = !false → true = true ∧ True))) := by kernel_rfl
theorem takes_vc (t x : Lab × Lab) : fvc PP (eP [p10, p11, p23, p24, p20, p25, p26, p27]) Try.f8 c8 (ofArgs [thr, thr] (t, x, ())) St0 (gives [.bool] (true, ())) = (
  true = true ∧ ((!true) = true → false = true ∧ True) ∧ ((!true) = false → true = true ∧ ((!rightsL [(t.fst.fst, t.fst.snd), (t.snd.fst, t.snd.snd), (x.fst.fst, x.fst.snd), (x.snd.fst, x.snd.snd)]) = true → true = true 
  ∧ True) ∧ ((!rightsL [(t.fst.fst, t.fst.snd), (t.snd.fst, t.snd.snd), (x.fst.fst, x.fst.snd), (x.snd.fst, x.snd.snd)]) = false → ∃ (v : Bool), (true = true ∧ (sml (t.fst.fst, t.fst.snd) && (sml (t.snd.fst, t.snd.snd) 
  && (sml (x.fst.fst, x.fst.snd) && sml (x.snd.fst, x.snd.snd)))) = true ∧ ((lendM (t.fst.fst, t.fst.snd) (t.snd.fst, t.snd.snd) (x.fst.fst, x.fst.snd) (x.snd.fst, x.snd.snd) == lendN (t.fst.fst, t.fst.snd) (t.snd.fst, 
  t.snd.snd) (x.fst.fst, x.fst.snd) (x.snd.fst, x.snd.snd)) = true → true = true ∧ (sml (t.fst.fst, t.fst.snd) && (sml (t.snd.fst, t.snd.snd) && sml (x.fst.fst, x.fst.snd))) = true ∧ ((riseM (t.fst.fst, t.fst.snd) 
  (t.snd.fst, t.snd.snd) (x.fst.fst, x.fst.snd) == riseN (t.fst.fst, t.fst.snd) (t.snd.fst, t.snd.snd) (x.fst.fst, x.fst.snd)) = true → sml (t.fst.fst, t.fst.snd) = true ∧ (sml (t.fst.fst, t.fst.snd) && (sml (t.snd.fst, 
  t.snd.snd) && sml (x.snd.fst, x.snd.snd))) = true ∧ (clearM (t.fst.fst, t.fst.snd) (t.snd.fst, t.snd.snd) (x.snd.fst, x.snd.snd) == clearN (t.fst.fst, t.fst.snd) (t.snd.fst, t.snd.snd) (x.snd.fst, x.snd.snd)) = v) ∧ 
  ((riseM (t.fst.fst, t.fst.snd) (t.snd.fst, t.snd.snd) (x.fst.fst, x.fst.snd) == riseN (t.fst.fst, t.fst.snd) (t.snd.fst, t.snd.snd) (x.fst.fst, x.fst.snd)) = !true → false = v)) ∧ ((lendM (t.fst.fst, t.fst.snd) 
  (t.snd.fst, t.snd.snd) (x.fst.fst, x.fst.snd) (x.snd.fst, x.snd.snd) == lendN (t.fst.fst, t.fst.snd) (t.snd.fst, t.snd.snd) (x.fst.fst, x.fst.snd) (x.snd.fst, x.snd.snd)) = !true → false = v)) ∧ v = true ∧ True))) := by kernel_rfl
end Go.Proofs.Ytddbideknibckaa
namespace Go.Proofs.Ytddbideknibckaa
open Go.Proofs.Ytddbideknibckaa.Gx
set_option maxRecDepth 100000
set_option maxHeartbeats 2000000
set_option linter.unusedSimpArgs false
set_option linter.unusedVariables false
theorem sml_right {l : Lab} (h : rightL l = true) : sml l = true := by
  have := right_len h; simp; omega
theorem small_right {ls : List Lab} (hn : ls.length ≤ 1000) (h : ∀ l ∈ ls, rightL l = true) : smallLs ls = true := by
  simp only [smallLs, Bool.and_eq_true, decide_eq_true_eq, List.all_eq_true]
  exact ⟨hn, fun l hl => by have := right_len (h l hl); omega⟩
theorem makes_ok : PSpecOk PP 3 (Q [thr, lab, lab] [.bool] (fun _ => true) (fun _ => (true, ()))) := by
  refine pspec_Q mixed (fn := Try.f3) (c := c3) rfl rfl _ _ rfl ?_
  rintro ⟨t, b, l, ⟨⟩⟩ - -
  refine ⟨_, env_ok [p10, p11, p12, p13] [] [] [] [], rfl, hold (makes_vc t b l) ?_⟩
  simp only [true_and, and_true, Prod.eta]
  refine ⟨fun h => by simp at h, fun _ => ⟨fun _ => trivial, fun h => ?_⟩⟩
  simp [rightsL] at h
  obtain ⟨h1, h2, h3, h4⟩ := h
  simp only [sml_right h1, sml_right h2, sml_right h3, sml_right h4, Bool.and_self, true_and]
  simp [make_eq h1 h2 h3 h4]
theorem enters_ok : PSpecOk PP 4 (Q [thr, thr, thr] [.bool] (fun _ => true) (fun _ => (true, ()))) := by
  refine pspec_Q mixed (fn := Try.f4) (c := c4) rfl rfl _ _ rfl ?_
  rintro ⟨t, g, w, ⟨⟩⟩ - -
  refine ⟨_, env_ok [p10, p11, p14, p15, p16] [] [] [] [], rfl, hold (enters_vc t g w) ?_⟩
  simp only [true_and, and_true, Prod.eta]
  refine ⟨fun h => by simp at h, fun _ => ⟨fun h => ⟨fun e1 => ⟨fun _ => trivial, fun e2 => ?_⟩, fun _ => trivial⟩, fun _ => trivial⟩⟩
  simp [rightsL] at h e1 e2
  obtain ⟨h1, h2, h3, h4⟩ := h
  have r1 := plain_right e1; have r2 := plain_right e2
  simp only [sml_right h1, sml_right h2, sml_right h3, sml_right h4, sml_right r1, sml_right r2, Bool.and_self, true_and]
  simp [enter_eq e1 h1 e2 h2 h3 h4]
theorem taints_ok : PSpecOk PP 5 (Q [thr, lab, lab, i64] [.bool] (fun _ => true) (fun _ => (true, ()))) := by
  refine pspec_Q mixed (fn := Try.f5) (c := c5) rfl rfl _ _ rfl ?_
  rintro ⟨t, b, l, k, ⟨⟩⟩ - -
  refine ⟨_, env_ok [p10, p11, p14, p17, p12, p19] [s18] [] [] (taintsLoop t b l k), rfl, hold (taints_vc t b l k) ?_⟩
  simp only [true_and, and_true, Prod.eta]
  refine ⟨fun h => by simp at h, fun _ => ⟨fun h => ⟨fun e1 => ⟨fun _ => trivial, fun e2 => ?_⟩, fun _ => trivial⟩, fun _ => trivial⟩⟩
  simp [rightsL] at h e1 e2
  obtain ⟨h1, h2⟩ := h
  have r1 := plain_right e1; have r2 := plain_right (free_plain e2)
  simp only [sml_right r1, sml_right r2, Bool.and_self, true_and]
  refine ⟨fun _ => trivial, fun hm => ?_⟩
  have hm : makeM t.1 t.2 b l = 0 := by simpa using hm
  have hl : ∀ x ∈ [t.1, b, l], rightL x = true := by intro x hx; simp at hx; rcases hx with rfl | rfl | rfl <;> assumption
  have hlen := namedL_len [t.1, b, l] (fun x hx => by have := right_len (hl x hx); omega)
  simp only [List.length_cons, List.length_nil] at hlen
  refine ⟨small_right (by simp) hl, by simp only [List.length_cons, List.length_nil]; omega, fun hA => ⟨0, by simp, rfl, ?_⟩⟩
  obtain ⟨L, hL⟩ : ∃ L, L = namedL [t.1, b, l] ++ [k] := ⟨_, rfl⟩
  rw [← hL] at hA ⊢
  intro i hi
  rcases get_cases L i hi with ⟨x, hx, hi'⟩ | ⟨hx, hi'⟩
  · refine ⟨fun _ => ⟨by omega, by omega, fun y hy => ?_⟩, fun _ => trivial⟩
    have hT := taints_law e1 h1 h2 e2 hm y
    refine ⟨false, ⟨fun g1 => ⟨fun g2 => ⟨fun g3 => ⟨fun g4 => ?_, fun _ => rfl⟩, fun g3 => ?_⟩, fun g2 => ⟨fun g4 => ?_, fun _ => rfl⟩⟩, fun g1 => ?_⟩, (fun h => Bool.noConfusion h), fun _ => ⟨i + 1, by omega, by omega, wrap_succ hi' hA⟩⟩
    · have := hT.2.2 (by simpa using g4); simp [this]
    · have := hT.2.1 (by simpa using g2); exact absurd (by simpa using g3) this
    · have := hT.2.2 (by simpa using g4); simp [this]
    · exact absurd (by simpa using g1) hT.1
  · subst hi'
    exact ⟨fun h => by simp at h, fun _ => trivial⟩
theorem keeps_ok : PSpecOk PP 6 (Q [thr, thr, thr, i64] [.bool] (fun _ => true) (fun _ => (true, ()))) := by
  refine pspec_Q mixed (fn := Try.f6) (c := c6) rfl rfl _ _ rfl ?_
  rintro ⟨t, g, w, k, ⟨⟩⟩ - -
  refine ⟨_, env_ok [p10, p11, p14, p15, p20, p19] [s18] [] [] (keepsLoop t g w k), rfl, hold (keeps_vc t g w k) ?_⟩
  simp only [true_and, and_true, Prod.eta]
  refine ⟨fun h => by simp at h, fun _ => ⟨fun h => ⟨fun e1 => ⟨fun _ => trivial, fun e2 => ?_⟩, fun _ => trivial⟩, fun _ => trivial⟩⟩
  simp [rightsL] at h e1 e2
  obtain ⟨h1, h2, h3, h4⟩ := h
  have r1 := plain_right e1; have r2 := plain_right e2
  have hl : ∀ x ∈ [t.1, g.1, w.1], rightL x = true := by intro x hx; simp at hx; rcases hx with rfl | rfl | rfl <;> assumption
  have hlen := namedL_len [t.1, g.1, w.1] (fun x hx => by have := right_len (hl x hx); omega)
  simp only [List.length_cons, List.length_nil] at hlen
  refine ⟨small_right (by simp) hl, by simp only [List.length_cons, List.length_nil]; omega, fun hA => ⟨0, by simp, rfl, ?_⟩⟩
  obtain ⟨L, hL⟩ : ∃ L, L = namedL [t.1, g.1, w.1] ++ [k] := ⟨_, rfl⟩
  rw [← hL] at hA ⊢
  intro i hi
  rcases get_cases L i hi with ⟨x, hx, hi'⟩ | ⟨hx, hi'⟩
  · refine ⟨fun _ => ⟨by omega, by omega, fun y hy => ?_⟩, fun _ => trivial⟩
    have hE : enterM t.1 t.2 g.1 g.2 w.1 w.2 = 0 → atL t.1 y ≠ 0 → atL g.1 y ≠ 0 → ¬ atL w.1 y < atL t.1 y := fun a b c => Int.not_lt.2 (enter_law a y b c)
    have hR : riseM t.1 t.2 w.1 = 0 → ¬ atL w.1 y < atL t.1 y := fun a => Int.not_lt.2 (rise_law r1 h3 a y)
    have hEb : (enterM t.1 t.2 g.1 g.2 w.1 w.2 == 0) = true → ((atL t.1 y != 0) = true → ((atL g.1 y != 0) = true → decide (atL w.1 y < atL t.1 y) = false) ∧ ((atL g.1 y != 0) = !true → false = false)) ∧ ((atL t.1 y != 0) = !true → false = false) :=
      fun a => ⟨fun b => ⟨fun c => decide_eq_false (hE (by simpa using a) (by simpa using b) (by simpa using c)), fun _ => rfl⟩, fun _ => rfl⟩
    refine ⟨false, ⟨fun g1 => ⟨fun _ => ⟨hEb, fun _ => rfl⟩, fun g2 => ?_⟩, fun _ => ⟨hEb, fun _ => rfl⟩⟩, (fun h => Bool.noConfusion h), fun _ => ⟨i + 1, by omega, by omega, wrap_succ hi' hA⟩⟩
    exact absurd (by simpa using g2) (hR (by simpa using g1))
  · subst hi'
    exact ⟨fun h => by simp at h, fun _ => trivial⟩
theorem middle_ok : PSpecOk PP 7 (Q [thr, lab, lab] [.bool] (fun _ => true) (fun _ => (true, ()))) := by
  refine pspec_Q mixed (fn := Try.f7) (c := c7) rfl rfl _ _ rfl ?_
  rintro ⟨t, m, w, ⟨⟩⟩ - -
  refine ⟨_, env_ok [p10, p11, p14, p17, p20, p21, p15, p22] [] [] [] [], rfl, hold (middle_vc t m w) ?_⟩
  simp only [true_and, and_true, Prod.eta]
  refine ⟨fun h => by simp at h, fun _ => ⟨fun h => ⟨fun e1 => ⟨fun e2 => ⟨fun e3 => ⟨fun _ => trivial, fun e4 => ?_⟩, fun _ => trivial⟩, fun _ => trivial⟩, fun _ => trivial⟩, fun _ => trivial⟩⟩
  simp [rightsL] at h e1 e2 e3 e4
  have s1 := sml_right (plain_right e1); have s2 := sml_right (plain_right e2); have s3 := sml_right (plain_right e3); have s4 := sml_right h
  have s5 := sml_up s1
  have s6 : sml (1, []) = true := rfl
  have hD : (decide (t.1.2.length ≤ 1000000) = true) := s1
  have hU := low_up e1
  have hF := door_law e1 e4
  simp only [s1, s2, s3, s4, s5, s6, hU, hF, Bool.and_self, true_and]
  have hEnd : ∃ v, ((leqN t.1 t.2 = true → true = v) ∧ (leqN t.1 t.2 = !true → false = v)) ∧ (leqN t.1 t.2 == v) = true :=
    ⟨leqN t.1 t.2, ⟨fun a => a.symm, fun a => by rw [a]; rfl⟩, by simp⟩
  refine ⟨fun g1 => ⟨fun g2 => ⟨fun g3 => ?_, fun _ => hEnd⟩, fun _ => hEnd⟩, fun _ => hEnd⟩
  have hm := mid_law e1 h e2 e3 (by simpa using g1) g2 g3
  refine ⟨fun _ => ⟨fun a => ?_, fun _ => hEnd⟩, fun a => ?_⟩
  · simp [hm.2] at a
  · simp [hm.1] at a
theorem takes_ok : PSpecOk PP 8 (Q [thr, thr] [.bool] (fun _ => true) (fun _ => (true, ()))) := by
  refine pspec_Q mixed (fn := Try.f8) (c := c8) rfl rfl _ _ rfl ?_
  rintro ⟨t, x, ⟨⟩⟩ - -
  refine ⟨_, env_ok [p10, p11, p23, p24, p20, p25, p26, p27] [] [] [] [], rfl, hold (takes_vc t x) ?_⟩
  simp only [true_and, and_true, Prod.eta]
  refine ⟨fun h => by simp at h, fun _ => ⟨fun _ => trivial, fun h => ?_⟩⟩
  simp [rightsL] at h
  obtain ⟨h1, h2, h3, h4⟩ := h
  simp only [sml_right h1, sml_right h2, sml_right h3, sml_right h4, Bool.and_self, true_and, lend_eq h1 h2 h3 h4, rise_eq h1 h2 h3, clear_eq h1 h2 h4]
  refine ⟨true, ⟨fun _ => ⟨fun _ => by simp, fun a => ?_⟩, fun a => ?_⟩, rfl⟩ <;> simp at a
end Go.Proofs.Ytddbideknibckaa
