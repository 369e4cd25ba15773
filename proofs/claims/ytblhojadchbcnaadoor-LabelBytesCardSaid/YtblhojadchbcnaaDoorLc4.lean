/- Texts and bytes of labels, the chapter's example, and the laws' own functions; conditions: categories below a hundred in texts. -/
import Derived.Test.YtblhojadchbcnaaDoorLb4
import Derived.Test.YtblhojadchbcnaaDoorLa4
import Derived.Test.YtblhojadchbcnaaDoorPa4
namespace Go.Proofs.YtblhojadchbcnaaDoor
open Go.Proofs.YtblhojadchbcnaaDoor.Gx
set_option maxRecDepth 100000
set_option maxHeartbeats 0
noncomputable def c71 : Code := Tryd.f71.body.getD .skip
noncomputable def c72 : Code := Tryd.f72.body.getD .skip
noncomputable def c83 : Code := Tryd.f83.body.getD .skip
noncomputable def c86 : Code := Tryd.f86.body.getD .skip
noncomputable def c88 : Code := Tryd.f88.body.getD .skip
noncomputable def c45 : Code := Tryd.f45.body.getD .skip
noncomputable def c32 : Code := Tryd.f32.body.getD .skip
def signS (n : Int) : ByteArray := if 0 ≤ n ∧ n < 6 then (ByteArray.mk #[42, 48, 49, 50, 51, 74]).extract n.toNat (n.toNat + 1) else ⟨#[]⟩
theorem sign_vc (n : Int) : fvc PP e0 Tryd.f71 c71 (ofArgs [i64] (n, ())) St0 (gives [.str] (signS n, ())) = (
  ∃ (v : Bool), ((decide (n < (0 : Int)) = false → decide (n ≥ (6 : Int)) = v) ∧ (decide (n < (0 : Int)) = !false → true = v)) ∧ (v = true → ByteArray.mk #[] = signS n ∧ True) ∧ (v = false → ((0 : Int) ≤ (some 
  (IntKind.i64.wrap (n + (1 : Int)))).getD (↑(6 : Nat) : Int) ∧ (some (IntKind.i64.wrap (n + (1 : Int)))).getD (↑(6 : Nat) : Int) ≤ (↑(6 : Nat) : Int) ∧ (0 : Int) ≤ (some n).getD (0 : Int) ∧ (some n).getD (0 : Int) ≤ 
  (some (IntKind.i64.wrap (n + (1 : Int)))).getD (↑(6 : Nat) : Int)) ∧ (ByteArray.mk #[(42 : UInt8), (48 : UInt8), (49 : UInt8), (50 : UInt8), (51 : UInt8), (74 : UInt8)]).extract ((some n).getD (0 : Int)).toNat ((some 
  (IntKind.i64.wrap (n + (1 : Int)))).getD (↑(6 : Nat) : Int)).toNat = signS n ∧ True)) := by kernel_rfl
def digS (n : Int) : ByteArray := ⟨#[(48 + n.toNat).toUInt8]⟩
def smallS (n : Int) : ByteArray := if n < 10 then digS n else digS (n / 10) ++ digS (n % 10)
theorem small_vc (n : Int) : fvc PP e0 Tryd.f88 c88 (ofArgs [i64] (n, ())) St0 (gives [.str] (smallS n, ())) = (
  (decide (n < (10 : Int)) = true → ((0 : Int) ≤ (some (IntKind.i64.wrap (n + (1 : Int)))).getD (↑(36 : Nat) : Int) ∧ (some (IntKind.i64.wrap (n + (1 : Int)))).getD (↑(36 : Nat) : Int) ≤ (↑(36 : Nat) : Int) ∧ (0 : Int) ≤ 
  (some n).getD (0 : Int) ∧ (some n).getD (0 : Int) ≤ (some (IntKind.i64.wrap (n + (1 : Int)))).getD (↑(36 : Nat) : Int)) ∧ (ByteArray.mk #[(48 : UInt8), (49 : UInt8), (50 : UInt8), (51 : UInt8), (52 : UInt8), (53 : 
  UInt8), (54 : UInt8), (55 : UInt8), (56 : UInt8), (57 : UInt8), (97 : UInt8), (98 : UInt8), (99 : UInt8), (100 : UInt8), (101 : UInt8), (102 : UInt8), (103 : UInt8), (104 : UInt8), (105 : UInt8), (106 : UInt8), (107 : 
  UInt8), (108 : UInt8), (109 : UInt8), (110 : UInt8), (111 : UInt8), (112 : UInt8), (113 : UInt8), (114 : UInt8), (115 : UInt8), (116 : UInt8), (117 : UInt8), (118 : UInt8), (119 : UInt8), (120 : UInt8), (121 : UInt8), 
  (122 : UInt8)]).extract ((some n).getD (0 : Int)).toNat ((some (IntKind.i64.wrap (n + (1 : Int)))).getD (↑(36 : Nat) : Int)).toNat = smallS n ∧ True) ∧ (decide (n < (10 : Int)) = false → ((0 : Int) ≤ (some 
  (IntKind.i64.wrap (IntKind.i64.wrap (n * (2 : Int)) + (2 : Int)))).getD (↑(200 : Nat) : Int) ∧ (some (IntKind.i64.wrap (IntKind.i64.wrap (n * (2 : Int)) + (2 : Int)))).getD (↑(200 : Nat) : Int) ≤ (↑(200 : Nat) : Int) ∧ 
  (0 : Int) ≤ (some (IntKind.i64.wrap (n * (2 : Int)))).getD (0 : Int) ∧ (some (IntKind.i64.wrap (n * (2 : Int)))).getD (0 : Int) ≤ (some (IntKind.i64.wrap (IntKind.i64.wrap (n * (2 : Int)) + (2 : Int)))).getD (↑(200 : 
  Nat) : Int)) ∧ (ByteArray.mk (([(48 : UInt8), (48 : UInt8), (48 : UInt8), (49 : UInt8), (48 : UInt8), (50 : UInt8), (48 : UInt8), (51 : UInt8), (48 : UInt8), (52 : UInt8), (48 : UInt8), (53 : UInt8), (48 : UInt8), (54 
  : UInt8), (48 : UInt8), (55 : UInt8), (48 : UInt8), (56 : UInt8), (48 : UInt8), (57 : UInt8), (49 : UInt8), (48 : UInt8), (49 : UInt8), (49 : UInt8), (49 : UInt8), (50 : UInt8), (49 : UInt8), (51 : UInt8), (49 : 
  UInt8), (52 : UInt8), (49 : UInt8), (53 : UInt8), (49 : UInt8), (54 : UInt8), (49 : UInt8), (55 : UInt8), (49 : UInt8), (56 : UInt8), (49 : UInt8), (57 : UInt8), (50 : UInt8), (48 : UInt8), (50 : UInt8), (49 : UInt8), 
  (50 : UInt8), (50 : UInt8), (50 : UInt8), (51 : UInt8), (50 : UInt8), (52 : UInt8)].append [(50 : UInt8), (53 : UInt8), (50 : UInt8), (54 : UInt8), (50 : UInt8), (55 : UInt8), (50 : UInt8), (56 : UInt8), (50 : UInt8), 
  (57 : UInt8), (51 : UInt8), (48 : UInt8), (51 : UInt8), (49 : UInt8), (51 : UInt8), (50 : UInt8), (51 : UInt8), (51 : UInt8), (51 : UInt8), (52 : UInt8), (51 : UInt8), (53 : UInt8), (51 : UInt8), (54 : UInt8), (51 : 
  UInt8), (55 : UInt8), (51 : UInt8), (56 : UInt8), (51 : UInt8), (57 : UInt8), (52 : UInt8), (48 : UInt8), (52 : UInt8), (49 : UInt8), (52 : UInt8), (50 : UInt8), (52 : UInt8), (51 : UInt8), (52 : UInt8), (52 : UInt8), 
  (52 : UInt8), (53 : UInt8), (52 : UInt8), (54 : UInt8), (52 : UInt8), (55 : UInt8), (52 : UInt8), (56 : UInt8), (52 : UInt8), (57 : UInt8)]).append ([(53 : UInt8), (48 : UInt8), (53 : UInt8), (49 : UInt8), (53 : 
  UInt8), (50 : UInt8), (53 : UInt8), (51 : UInt8), (53 : UInt8), (52 : UInt8), (53 : UInt8), (53 : UInt8), (53 : UInt8), (54 : UInt8), (53 : UInt8), (55 : UInt8), (53 : UInt8), (56 : UInt8), (53 : UInt8), (57 : UInt8), 
  (54 : UInt8), (48 : UInt8), (54 : UInt8), (49 : UInt8), (54 : UInt8), (50 : UInt8), (54 : UInt8), (51 : UInt8), (54 : UInt8), (52 : UInt8), (54 : UInt8), (53 : UInt8), (54 : UInt8), (54 : UInt8), (54 : UInt8), (55 : 
  UInt8), (54 : UInt8), (56 : UInt8), (54 : UInt8), (57 : UInt8), (55 : UInt8), (48 : UInt8), (55 : UInt8), (49 : UInt8), (55 : UInt8), (50 : UInt8), (55 : UInt8), (51 : UInt8), (55 : UInt8), (52 : UInt8)].append [(55 : 
  UInt8), (53 : UInt8), (55 : UInt8), (54 : UInt8), (55 : UInt8), (55 : UInt8), (55 : UInt8), (56 : UInt8), (55 : UInt8), (57 : UInt8), (56 : UInt8), (48 : UInt8), (56 : UInt8), (49 : UInt8), (56 : UInt8), (50 : UInt8), 
  (56 : UInt8), (51 : UInt8), (56 : UInt8), (52 : UInt8), (56 : UInt8), (53 : UInt8), (56 : UInt8), (54 : UInt8), (56 : UInt8), (55 : UInt8), (56 : UInt8), (56 : UInt8), (56 : UInt8), (57 : UInt8), (57 : UInt8), (48 : 
  UInt8), (57 : UInt8), (49 : UInt8), (57 : UInt8), (50 : UInt8), (57 : UInt8), (51 : UInt8), (57 : UInt8), (52 : UInt8), (57 : UInt8), (53 : UInt8), (57 : UInt8), (54 : UInt8), (57 : UInt8), (55 : UInt8), (57 : UInt8), 
  (56 : UInt8), (57 : UInt8), (57 : UInt8)])).toArray).extract ((some (IntKind.i64.wrap (n * (2 : Int)))).getD (0 : Int)).toNat ((some (IntKind.i64.wrap (IntKind.i64.wrap (n * (2 : Int)) + (2 : Int)))).getD (↑(200 : Nat) 
  : Int)).toNat = smallS n ∧ True)) := by kernel_rfl
end Go.Proofs.YtblhojadchbcnaaDoor
namespace Go.Proofs.YtblhojadchbcnaaDoor
open Go.Proofs.YtblhojadchbcnaaDoor.Gx
set_option maxRecDepth 100000
set_option maxHeartbeats 4000000
set_option linter.unusedSimpArgs false
set_option linter.unusedVariables false
theorem nat_of {n : Int} (h : 0 ≤ n) : ∃ k : Nat, n = k := ⟨n.toNat, by omega⟩
theorem lt_nat {k : Nat} {b : Int} (h : (k : Int) < b) : k < b.toNat := by omega
theorem no_ge {n b : Int} (h : n < b) : ¬ n ≥ b := by omega
theorem no_lt {n b : Int} (h : b ≤ n) : ¬ n < b := by omega
theorem sign_all : ∀ k : Fin 6, ((0 : Int) ≤ (some (IntKind.i64.wrap ((k.val : Int) + (1 : Int)))).getD ((6 : Nat) : Int) ∧ (some (IntKind.i64.wrap ((k.val : Int) + (1 : Int)))).getD ((6 : Nat) : Int) ≤ ((6 : Nat) : Int) ∧
      (0 : Int) ≤ (some (k.val : Int)).getD (0 : Int) ∧ (some (k.val : Int)).getD (0 : Int) ≤ (some (IntKind.i64.wrap ((k.val : Int) + (1 : Int)))).getD ((6 : Nat) : Int)) ∧
    (ByteArray.mk #[42, 48, 49, 50, 51, 74]).extract ((some (k.val : Int)).getD (0 : Int)).toNat ((some (IntKind.i64.wrap ((k.val : Int) + (1 : Int)))).getD ((6 : Nat) : Int)).toNat = signS (k.val : Int) := by decide +kernel
theorem sign_ok : PSpecOk PP 71 (Q [i64] [.str] (fun _ => true) (fun x => (signS x.1, ()))) := by
  refine pspec_Q mixed (fn := Tryd.f71) (c := c71) rfl rfl _ _ rfl ?_
  rintro ⟨n, ⟨⟩⟩ - -
  refine ⟨_, env_ok [] [] [] [] [], rfl, hold (sign_vc n) ?_⟩
  simp only [and_true]
  have n' : Int := n
  by_cases h : (0 : Int) ≤ n ∧ (n : Int) < 6
  · obtain ⟨k, rfl⟩ := nat_of h.1
    have hk := sign_all ⟨k, lt_nat h.2⟩
    refine ⟨false, ⟨fun _ => ?_, fun h' => ?_⟩, fun h' => Bool.noConfusion h', fun _ => hk⟩
    · exact decide_eq_false (no_ge h.2)
    · exact absurd (of_decide_eq_true h') (no_lt h.1)
  · have hs : signS n = ⟨#[]⟩ := by simp only [signS, if_neg h]
    refine ⟨true, ⟨fun h1 => ?_, fun _ => rfl⟩, fun _ => hs.symm, fun h' => Bool.noConfusion h'⟩
    have h1 : ¬ ((n : Int) < 0) := of_decide_eq_false h1
    exact decide_eq_true (by
      have : ∀ m : Int, ¬ (0 ≤ m ∧ m < 6) → ¬ m < 0 → m ≥ 6 := by intro m; omega
      exact this n h h1)
theorem small_ok : PSpecOk PP 88 (Q [i64] [.str] (fun x => decide (0 ≤ x.1) && decide (x.1 < 100)) (fun x => (smallS x.1, ()))) := by
  refine pspec_Q mixed (fn := Tryd.f88) (c := c88) rfl rfl _ _ rfl ?_
  rintro ⟨n, ⟨⟩⟩ - hp
  rw [Bool.and_eq_true] at hp
  have h1 : (0 : Int) ≤ n := of_decide_eq_true hp.1
  have h2 : (n : Int) < 100 := of_decide_eq_true hp.2
  obtain ⟨k, rfl⟩ := nat_of h1
  refine ⟨_, env_ok [] [] [] [] [], rfl, hold (small_vc k) ?_⟩
  simp only [and_true]
  have hk : k < 100 := lt_nat h2
  clear h1 h2 hp
  revert k
  decide +kernel
end Go.Proofs.YtblhojadchbcnaaDoor
namespace Go.Proofs.YtblhojadchbcnaaDoor
open Go.Proofs.YtblhojadchbcnaaDoor.Gx
set_option maxRecDepth 100000
set_option maxHeartbeats 0
noncomputable def p88 : Pv PP := ⟨88, _, ⟨rfl, small_ok⟩⟩
noncomputable def p71 : Pv PP := ⟨71, _, ⟨rfl, sign_ok⟩⟩
theorem fmt_vc (n : Int) : fvc PP (eP [p88]) Tryd.f86 c86 (ofArgs [i64, i64] (n, 10, ())) St0 (gives [.str] (smallS n, ())) = (
  (((10 : Int) == (10 : Int)) = true → ∃ (v : Bool), ((decide ((0 : Int) ≤ n) = true → decide (n < (100 : Int)) = v) ∧ (decide ((0 : Int) ≤ n) = !true → false = v)) ∧ (v = true → (decide ((0 : Int) ≤ n) && decide (n < 
  (100 : Int))) = true ∧ smallS n = smallS n ∧ True) ∧ (v = false → (decide (n < (0 : Int)) = true → False) ∧ (decide (n < (0 : Int)) = false → False))) ∧ (((10 : Int) == (10 : Int)) = false → False)) := by kernel_rfl
def byteN (n : Int) : Int := IntKind.u8.wrap n
def catB8 (c : Int) (i : Nat) : List Int := (List.range i).map fun j => byteN (c.fdiv (2 ^ (8 * j)))
def entB (x : Int × Int) : List Int := catB8 x.1 8 ++ [byteN x.2]
def bytesR (d : Int) (n : Nat) (l : List (Int × Int)) : List Int := [byteN d, byteN n] ++ l.flatMap entB
def bytesL (l : Lab) : ByteArray := strOfNums (bytesR l.1 l.2.length l.2)
def bytesLoop (l : Lab) : List (Nat × (St → Option LoopSpec)) :=
  [(3, fun _ => some { α := Nat, inv := fun i => i ≤ l.2.length ∧ True, ov := fun i => [(18, .int .i64 (i : Int)), (3, .row 1)], rov := fun i => [(1, .row 0 (.int .u8) (bytesR l.1 l.2.length (l.2.take i)))], meas := fun i => l.2.length - i }),
   (6, fun (S : St) => match getT S.fr.tm 5, (S.res[1]? : Option Res) with
      | .ptr b _, some (Res.row _ (Ty.int IntKind.u8) base) => match (S.res[b]? : Option Res) with
        | some (Res.blk _ [SV.int _ c, _]) => some { α := Nat, inv := fun j => j ≤ 8 ∧ True, ov := fun j => [(22, .int .i64 (j : Int)), (3, .row 1)], rov := fun j => [(1, .row 0 (.int .u8) (base ++ catB8 c j))], meas := fun j => 8 - j }
        | _ => none
      | _, _ => none)]
theorem bytes_vc (l : Lab) : fvc PP (eL (bytesLoop l)) Tryd.f32 c32 (ofArgs [lab] (l, ())) St0 (gives [.str] (bytesL l, ())) = (
  l.snd.length ≤ maxLen → l.snd.length ≤ maxLen → ∃ (x0 : Nat), (x0 ≤ l.snd.length ∧ True) ∧ ((True ∧ True) ∧ ((0 : Int) = (↑x0 : Int) ∧ True ∧ (↑l.snd.length : Int) = (↑l.snd.length : Int) ∧ l.snd = l.snd ∧ ByteArray.mk 
  #[] = ByteArray.mk #[] ∧ True ∧ (l.fst = l.fst ∧ l.snd = l.snd ∧ True) ∧ True) ∧ (l.fst = l.fst ∧ l.snd = l.snd ∧ True) ∧ [IntKind.u8.wrap l.fst, IntKind.u8.wrap (↑l.snd.length : Int)] = bytesR l.fst l.snd.length 
  (List.take x0 l.snd) ∧ True) ∧ ∀ (x : Nat), x ≤ l.snd.length ∧ True → (decide ((↑x : Int) < (↑l.snd.length : Int)) = true → ((0 : Int) ≤ (↑x : Int) ∧ (↑x : Int) < (↑l.snd.length : Int)) ∧ ∀ (y : Int × Int), l.snd[(↑x : 
  Int).toNat]? = some y → ∃ (x0 : Nat), (x0 ≤ (8 : Nat) ∧ True) ∧ ((True ∧ True) ∧ ((0 : Int) = (↑x0 : Int) ∧ True ∧ True ∧ true = true ∧ (↑x : Int) = (↑x : Int) ∧ (↑l.snd.length : Int) = (↑l.snd.length : Int) ∧ l.snd = 
  l.snd ∧ ByteArray.mk #[] = ByteArray.mk #[] ∧ True ∧ (l.fst = l.fst ∧ l.snd = l.snd ∧ True) ∧ True) ∧ (l.fst = l.fst ∧ l.snd = l.snd ∧ True) ∧ bytesR l.fst l.snd.length (List.take x l.snd) = bytesR l.fst l.snd.length 
  (List.take x l.snd) ++ catB8 y.fst x0 ∧ (y.fst = y.fst ∧ y.snd = y.snd ∧ True) ∧ True) ∧ ∀ (x_1 : Nat), x_1 ≤ (8 : Nat) ∧ True → (decide ((↑x_1 : Int) < (8 : Int)) = true → (0 : Int) ≤ IntKind.i64.wrap ((8 : Int) * 
  (↑x_1 : Int)) ∧ ((bytesR l.fst l.snd.length (List.take x l.snd) ++ catB8 y.fst x_1).length + [IntKind.u8.wrap (shiftv BinOp.shr IntKind.i64 y.fst (IntKind.i64.wrap ((8 : Int) * (↑x_1 : Int))))].length) * (1 : Nat) ≤ 
  (140737488355328 : Nat) ∧ ∃ (x' : Nat), (x' ≤ (8 : Nat) ∧ True) ∧ (8 : Nat) - x' < (8 : Nat) - x_1 ∧ (True ∧ True) ∧ (IntKind.i64.wrap ((↑x_1 : Int) + (1 : Int)) = (↑x' : Int) ∧ True ∧ True ∧ true = true ∧ (↑x : Int) = 
  (↑x : Int) ∧ (↑l.snd.length : Int) = (↑l.snd.length : Int) ∧ l.snd = l.snd ∧ ByteArray.mk #[] = ByteArray.mk #[] ∧ True ∧ (l.fst = l.fst ∧ l.snd = l.snd ∧ True) ∧ True) ∧ (l.fst = l.fst ∧ l.snd = l.snd ∧ True) ∧ bytesR 
  l.fst l.snd.length (List.take x l.snd) ++ catB8 y.fst x_1 ++ [IntKind.u8.wrap (shiftv BinOp.shr IntKind.i64 y.fst (IntKind.i64.wrap ((8 : Int) * (↑x_1 : Int))))] = bytesR l.fst l.snd.length (List.take x l.snd) ++ catB8 
  y.fst x' ∧ (y.fst = y.fst ∧ y.snd = y.snd ∧ True) ∧ True) ∧ (decide ((↑x_1 : Int) < (8 : Int)) = false → ((bytesR l.fst l.snd.length (List.take x l.snd) ++ catB8 y.fst x_1).length + [IntKind.u8.wrap y.snd].length) * (1 
  : Nat) ≤ (140737488355328 : Nat) ∧ ∃ (x' : Nat), (x' ≤ l.snd.length ∧ True) ∧ l.snd.length - x' < l.snd.length - x ∧ (True ∧ True) ∧ (IntKind.i64.wrap ((↑x : Int) + (1 : Int)) = (↑x' : Int) ∧ True ∧ (↑l.snd.length : 
  Int) = (↑l.snd.length : Int) ∧ l.snd = l.snd ∧ ByteArray.mk #[] = ByteArray.mk #[] ∧ True ∧ (l.fst = l.fst ∧ l.snd = l.snd ∧ True) ∧ True) ∧ (l.fst = l.fst ∧ l.snd = l.snd ∧ True) ∧ bytesR l.fst l.snd.length (List.take 
  x l.snd) ++ catB8 y.fst x_1 ++ [IntKind.u8.wrap y.snd] = bytesR l.fst l.snd.length (List.take x' l.snd) ∧ True)) ∧ (decide ((↑x : Int) < (↑l.snd.length : Int)) = false → strOfNums (bytesR l.fst l.snd.length (List.take 
  x l.snd)) = bytesL l ∧ True)) := by kernel_rfl
end Go.Proofs.YtblhojadchbcnaaDoor
namespace Go.Proofs.YtblhojadchbcnaaDoor
open Go.Proofs.YtblhojadchbcnaaDoor.Gx
set_option maxRecDepth 100000
set_option maxHeartbeats 4000000
set_option linter.unusedSimpArgs false
set_option linter.unusedVariables false
theorem fmt_ok : PSpecOk PP 86 (Q [i64, i64] [.str] (fun x => (decide (0 ≤ x.1) && decide (x.1 < 100)) && decide (x.2.1 = 10)) (fun x => (smallS x.1, ()))) := by
  refine pspec_Q mixed (fn := Tryd.f86) (c := c86) rfl rfl _ _ rfl ?_
  rintro ⟨n, b, ⟨⟩⟩ - hp
  rw [Bool.and_eq_true] at hp
  obtain ⟨hp, hb⟩ := hp
  obtain rfl : b = 10 := of_decide_eq_true hb
  refine ⟨_, env_ok [p88] [] [] [] [], rfl, hold (fmt_vc n) ?_⟩
  refine ⟨fun _ => ⟨true, ⟨fun h => ?_, fun h => ?_⟩, fun _ => ⟨hp, rfl, trivial⟩, fun h => Bool.noConfusion h⟩, fun h => by cases h⟩
  · rw [Bool.and_eq_true] at hp; exact hp.2
  · rw [Bool.and_eq_true] at hp; rw [hp.1] at h; cases h
theorem catB8_len (c : Int) (j : Nat) : (catB8 c j).length = j := by simp [catB8]
theorem flatMap_const {α β : Type} (f : α → List β) (n : Nat) (h : ∀ x, (f x).length = n) : (l : List α) → (l.flatMap f).length = l.length * n
  | [] => by simp
  | x :: l => by rw [List.flatMap_cons, List.length_append, h, flatMap_const f n h l, List.length_cons, Nat.succ_mul]; omega
theorem bytesR_len (d : Int) (n : Nat) (l : List (Int × Int)) : (bytesR d n l).length = 2 + l.length * 9 := by
  simp only [bytesR, List.length_append, List.length_cons, List.length_nil]
  rw [flatMap_const entB 9 (fun x => by simp [entB, catB8_len])]
theorem byte_at : ∀ j : Fin 8, IntKind.i64.wrap (8 * (j.val : Int)) = 8 * (j.val : Int) ∧ min (8 * (j.val : Int)).toNat IntKind.i64.bits = 8 * j.val := by decide +kernel
theorem catB8_snoc (c : Int) {j : Nat} (h : j < 8) : 0 ≤ IntKind.i64.wrap (8 * (j : Int)) ∧ catB8 c j ++ [IntKind.u8.wrap (shiftv .shr .i64 c (IntKind.i64.wrap (8 * (j : Int))))] = catB8 c (j + 1) := by
  have hb := byte_at ⟨j, h⟩
  simp only at hb
  rw [hb.1]
  refine ⟨by omega, ?_⟩
  simp only [catB8, List.range_succ, List.map_append, List.map_cons, List.map_nil, byteN, shiftv, hb.2]
theorem bytesR_snoc (d : Int) (n : Nat) (l : List (Int × Int)) (x : Int × Int) : bytesR d n l ++ catB8 x.1 8 ++ [byteN x.2] = bytesR d n (l ++ [x]) := by
  simp [bytesR, entB, List.flatMap_append]
theorem bytes_ok : PSpecOk PP 32 (Q [lab] [.str] (fun x => sml x.1) (fun x => (bytesL x.1, ()))) := by
  refine pspec_Q mixed (fn := Tryd.f32) (c := c32) rfl rfl _ _ rfl ?_
  rintro ⟨l, ⟨⟩⟩ - hp
  have hp : l.2.length ≤ 1000000 := by simpa using hp
  refine ⟨_, env_ok [] [] [] [] (bytesLoop l), rfl, hold (bytes_vc l) ?_⟩
  simp only [true_and, and_true, Prod.eta]
  intro hA _
  refine ⟨0, by simp, ⟨rfl, by simp [bytesR, byteN]⟩, fun i hi => ?_⟩
  rcases get_cases l.2 i hi with ⟨x, hx, hi'⟩ | ⟨hx, hi'⟩
  · refine ⟨fun _ => ⟨by omega, fun y hy => ?_⟩, fun h => by simp at h; omega⟩
    obtain rfl : x = y := by simpa [hx] using hy
    have hlen := bytesR_len l.1 l.2.length (l.2.take i)
    rw [List.length_take] at hlen
    have hR : bytesR l.1 l.2.length (l.2.take (i + 1)) = bytesR l.1 l.2.length (l.2.take i) ++ catB8 x.1 8 ++ [byteN x.2] := by rw [bytesR_snoc, take_snoc' hx]
    generalize bytesR l.1 l.2.length (l.2.take i) = R at *
    refine ⟨0, by simp, ⟨rfl, by simp [catB8]⟩, fun j hj => ⟨fun h => ?_, fun h => ?_⟩⟩
    · have hj' : j < 8 := by simp at h; omega
      obtain ⟨g1, g2⟩ := catB8_snoc x.1 hj'
      refine ⟨g1, ?_, j + 1, by omega, by omega, wrap_succ (n := 8) hj' (by simp [maxLen_eq]), ?_⟩
      · rw [List.length_append, catB8_len]; simp only [List.length_cons, List.length_nil]; omega
      · rw [List.append_assoc, g2]
    · have hj' : j = 8 := by simp at h; omega
      subst hj'
      refine ⟨?_, i + 1, by omega, by omega, wrap_succ hi' hA, ?_⟩
      · rw [List.length_append, catB8_len]; simp only [List.length_cons, List.length_nil]; omega
      · rw [hR]; rfl
  · subst hi'
    refine ⟨fun h => by simp at h, fun _ => ?_⟩
    rw [List.take_length]; rfl
end Go.Proofs.YtblhojadchbcnaaDoor
namespace Go.Proofs.YtblhojadchbcnaaDoor
open Go.Proofs.YtblhojadchbcnaaDoor.Gx
set_option maxRecDepth 100000
set_option maxHeartbeats 0
noncomputable def p86 : Pv PP := ⟨86, _, ⟨rfl, fmt_ok⟩⟩
noncomputable def p32 : Pv PP := ⟨32, _, ⟨rfl, bytes_ok⟩⟩
theorem itoa_vc (n : Int) : fvc PP (eP [p86]) Tryd.f83 c83 (ofArgs [i64] (n, ())) St0 (gives [.str] (smallS n, ())) = (
  (decide ((0 : Int) ≤ n) && decide (n < (100 : Int)) && decide ((10 : Int) = (10 : Int))) = true ∧ smallS n = smallS n ∧ True) := by kernel_rfl
def pre100 (n : Int) : Bool := decide (0 ≤ n) && decide (n < 100)
theorem itoa_in_ok : PSpecOk PP 83 (Q [i64] [.str] (fun x => decide (0 ≤ x.1) && decide (x.1 < 100)) (fun x => (smallS x.1, ()))) := by
  refine pspec_Q mixed (fn := Tryd.f83) (c := c83) rfl rfl _ _ rfl ?_
  rintro ⟨n, ⟨⟩⟩ - hp
  refine ⟨_, env_ok [p86] [] [] [] [], rfl, hold (itoa_vc n) ?_⟩
  simp only [and_true, decide_true, Bool.and_true]
  exact hp
noncomputable def p83 : Pv PP := ⟨83, _, ⟨rfl, itoa_in_ok⟩⟩
theorem itoa2_vc (n : Int) : fvc PP (eP [p83]) Tryd.f72 c72 (ofArgs [i64] (n, ())) St0 (gives [.str] (smallS n, ())) = (
  (decide ((0 : Int) ≤ n) && decide (n < (100 : Int))) = true ∧ smallS n = smallS n ∧ True) := by kernel_rfl
theorem itoa_ok : PSpecOk PP 72 (Q [i64] [.str] (fun x => decide (0 ≤ x.1) && decide (x.1 < 100)) (fun x => (smallS x.1, ()))) := by
  refine pspec_Q mixed (fn := Tryd.f72) (c := c72) rfl rfl _ _ rfl ?_
  rintro ⟨n, ⟨⟩⟩ - hp
  refine ⟨_, env_ok [p83] [] [] [] [], rfl, hold (itoa2_vc n) ?_⟩
  simp only [and_true]
  exact hp
noncomputable def p72s : Pv PP := ⟨72, _, ⟨rfl, itoa_ok⟩⟩
def entS (x : Int × Int) : ByteArray := ((ByteArray.mk #[32] ++ smallS x.1) ++ ByteArray.mk #[58]) ++ signS x.2
def textR (d : Int) (l : List (Int × Int)) : ByteArray := l.foldl (fun s x => s ++ entS x) (ByteArray.mk #[123] ++ signS d)
def textS (l : Lab) : ByteArray := textR l.1 l.2 ++ ByteArray.mk #[125]
def textLoop (l : Lab) : List (Nat × (St → Option LoopSpec)) :=
  [(3, fun _ => some { α := Nat, inv := fun i => i ≤ l.2.length ∧ True, ov := fun i => [(13, .int .i64 (i : Int)), (3, .str (textR l.1 (l.2.take i)))], rov := fun _ => [], meas := fun i => l.2.length - i })]
theorem text_vc (l : Lab) : fvc PP (env PP [p71, p72s] [] [] [] (textLoop l)) Tryd.f45 c45 (ofArgs [lab] (l, ())) St0 (gives [.str] (textS l, ())) = (
  true = true ∧ (1 : Nat) + (signS l.fst).size ≤ maxLen ∧ (l.snd.length ≤ maxLen → ∃ (x0 : Nat), (x0 ≤ l.snd.length ∧ True) ∧ ((True ∧ True) ∧ ((0 : Int) = (↑x0 : Int) ∧ ByteArray.mk #[(123 : UInt8)] ++ signS l.fst = 
  textR l.fst (List.take x0 l.snd) ∧ (↑l.snd.length : Int) = (↑l.snd.length : Int) ∧ l.snd = l.snd ∧ ByteArray.mk #[] = ByteArray.mk #[] ∧ True ∧ (l.fst = l.fst ∧ l.snd = l.snd ∧ True) ∧ True) ∧ (l.fst = l.fst ∧ l.snd = 
  l.snd ∧ True) ∧ True) ∧ ∀ (x : Nat), x ≤ l.snd.length ∧ True → (decide ((↑x : Int) < (↑l.snd.length : Int)) = true → ((0 : Int) ≤ (↑x : Int) ∧ (↑x : Int) < (↑l.snd.length : Int)) ∧ ∀ (y : Int × Int), l.snd[(↑x : 
  Int).toNat]? = some y → (decide ((0 : Int) ≤ y.fst) && decide (y.fst < (100 : Int))) = true ∧ (1 : Nat) + (smallS y.fst).size ≤ maxLen ∧ (ByteArray.mk #[(32 : UInt8)] ++ smallS y.fst).size + (1 : Nat) ≤ maxLen ∧ true = 
  true ∧ (ByteArray.mk #[(32 : UInt8)] ++ smallS y.fst ++ ByteArray.mk #[(58 : UInt8)]).size + (signS y.snd).size ≤ maxLen ∧ (textR l.fst (List.take x l.snd)).size + (ByteArray.mk #[(32 : UInt8)] ++ smallS y.fst ++ 
  ByteArray.mk #[(58 : UInt8)] ++ signS y.snd).size ≤ maxLen ∧ ∃ (x' : Nat), (x' ≤ l.snd.length ∧ True) ∧ l.snd.length - x' < l.snd.length - x ∧ (True ∧ True) ∧ (IntKind.i64.wrap ((↑x : Int) + (1 : Int)) = (↑x' : Int) ∧ 
  textR l.fst (List.take x l.snd) ++ (ByteArray.mk #[(32 : UInt8)] ++ smallS y.fst ++ ByteArray.mk #[(58 : UInt8)] ++ signS y.snd) = textR l.fst (List.take x' l.snd) ∧ (↑l.snd.length : Int) = (↑l.snd.length : Int) ∧ 
  l.snd = l.snd ∧ ByteArray.mk #[] = ByteArray.mk #[] ∧ True ∧ (l.fst = l.fst ∧ l.snd = l.snd ∧ True) ∧ True) ∧ (l.fst = l.fst ∧ l.snd = l.snd ∧ True) ∧ True) ∧ (decide ((↑x : Int) < (↑l.snd.length : Int)) = false → 
  (textR l.fst (List.take x l.snd)).size + (1 : Nat) ≤ maxLen ∧ textR l.fst (List.take x l.snd) ++ ByteArray.mk #[(125 : UInt8)] = textS l ∧ True))) := by kernel_rfl
end Go.Proofs.YtblhojadchbcnaaDoor
namespace Go.Proofs.YtblhojadchbcnaaDoor
open Go.Proofs.YtblhojadchbcnaaDoor.Gx
set_option maxRecDepth 100000
set_option maxHeartbeats 4000000
set_option linter.unusedSimpArgs false
set_option linter.unusedVariables false
theorem sign_size (n : Int) : (signS n).size ≤ 1 := by
  unfold signS
  split
  · rw [ByteArray.size_extract]
    have : (ByteArray.mk #[42, 48, 49, 50, 51, 74]).size = 6 := rfl
    omega
  · exact Nat.zero_le _
theorem dig_size (n : Int) : (digS n).size = 1 := rfl
theorem small_size (n : Int) : (smallS n).size ≤ 2 := by
  unfold smallS
  split
  · rw [dig_size]; omega
  · rw [ByteArray.size_append, dig_size, dig_size]; omega
theorem ent_size (x : Int × Int) : (entS x).size ≤ 5 := by
  have h1 := small_size x.1
  have h2 := sign_size x.2
  have e1 : (ByteArray.mk #[32]).size = 1 := rfl
  have e2 : (ByteArray.mk #[58]).size = 1 := rfl
  simp only [entS, ByteArray.size_append, e1, e2]
  omega
theorem text_snoc (d : Int) (l : List (Int × Int)) (x : Int × Int) : textR d (l ++ [x]) = textR d l ++ entS x := by
  simp [textR]
theorem foldl_size (l : List (Int × Int)) : ∀ s : ByteArray, (l.foldl (fun s x => s ++ entS x) s).size ≤ s.size + 5 * l.length := by
  induction l with
  | nil => intro s; simp
  | cons x l ih =>
    intro s
    have h1 := ih (s ++ entS x)
    have h2 := ent_size x
    rw [ByteArray.size_append] at h1
    rw [List.foldl_cons, List.length_cons]
    omega
theorem text_size (d : Int) (l : List (Int × Int)) : (textR d l).size ≤ 2 + 5 * l.length := by
  have h1 := foldl_size l (ByteArray.mk #[123] ++ signS d)
  have h2 := sign_size d
  rw [ByteArray.size_append] at h1
  have e1 : (ByteArray.mk #[123]).size = 1 := rfl
  rw [e1] at h1
  unfold textR
  omega
abbrev catsSmall (l : Lab) : Bool := sml l && l.2.all fun x => decide (0 ≤ x.1) && decide (x.1 < 100)
theorem text_ok : PSpecOk PP 45 (Q [lab] [.str] (fun x => catsSmall x.1) (fun x => (textS x.1, ()))) := by
  refine pspec_Q mixed (fn := Tryd.f45) (c := c45) rfl rfl _ _ rfl ?_
  rintro ⟨l, ⟨⟩⟩ - hp
  have hp' : catsSmall l = true := hp
  rw [catsSmall, Bool.and_eq_true] at hp'
  obtain ⟨hp1, hp2⟩ := hp'
  have hp1 : l.2.length ≤ 1000000 := by simpa using hp1
  rw [List.all_eq_true] at hp2
  refine ⟨_, env_ok [p71, p72s] [] [] [] (textLoop l), rfl, hold (text_vc l) ?_⟩
  simp only [true_and, and_true, Prod.eta]
  have hs := sign_size l.1
  have hM := maxLen_eq
  refine ⟨by omega, fun hA => ⟨0, by simp, ⟨rfl, rfl⟩, fun i hi => ?_⟩⟩
  have hlen := text_size l.1 (l.2.take i)
  rw [List.length_take] at hlen
  rcases get_cases l.2 i hi with ⟨x, hx, hi'⟩ | ⟨hx, hi'⟩
  · refine ⟨fun _ => ⟨by omega, fun y hy => ?_⟩, fun h => by simp at h; omega⟩
    obtain rfl : x = y := by simpa [hx] using hy
    have h1 := small_size x.1
    have h2 := sign_size x.2
    have e1 : (ByteArray.mk #[32]).size = 1 := rfl
    have e2 : (ByteArray.mk #[58]).size = 1 := rfl
    refine ⟨hp2 x (List.mem_of_getElem? hx), by omega, ?_, ?_, ?_, i + 1, by omega, by omega, wrap_succ hi' hA, ?_⟩
    · rw [ByteArray.size_append, e1]; omega
    · simp only [ByteArray.size_append, e1, e2]; omega
    · simp only [ByteArray.size_append, e1, e2]; omega
    · rw [take_snoc' hx, text_snoc]; rfl
  · subst hi'
    rw [List.take_length] at *
    exact ⟨fun h => by simp at h, fun _ => ⟨by omega, rfl⟩⟩
end Go.Proofs.YtblhojadchbcnaaDoor
namespace Go.Proofs.YtblhojadchbcnaaDoor
open Go.Proofs.YtblhojadchbcnaaDoor.Gx
set_option maxRecDepth 100000
set_option maxHeartbeats 0
noncomputable def c13 : Code := Tryd.f13.body.getD .skip
noncomputable def p45 : Pv PP := ⟨45, _, ⟨rfl, text_ok⟩⟩
theorem lives_vc : fvc PP (eP [p14, p45, p20, p32]) Tryd.f13 c13 (ofArgs [] ()) St0 (gives [.bool] (true, ())) = (
  dist [((5 : Int), (0 : Int)), ((3 : Int), (4 : Int)), ((9 : Int), (2 : Int))] = true ∧ (((makeE (2 : Int) [((5 : Int), (0 : Int)), ((3 : Int), (4 : Int)), ((9 : Int), (2 : Int))]).snd == (0 : Int)) = true → catsSmall 
  ((makeE (2 : Int) [((5 : Int), (0 : Int)), ((3 : Int), (4 : Int)), ((9 : Int), (2 : Int))]).fst.fst, (makeE (2 : Int) [((5 : Int), (0 : Int)), ((3 : Int), (4 : Int)), ((9 : Int), (2 : Int))]).fst.snd) = true ∧ (((textS 
  ((makeE (2 : Int) [((5 : Int), (0 : Int)), ((3 : Int), (4 : Int)), ((9 : Int), (2 : Int))]).fst.fst, (makeE (2 : Int) [((5 : Int), (0 : Int)), ((3 : Int), (4 : Int)), ((9 : Int), (2 : Int))]).fst.snd)).toList == 
  (ByteArray.mk #[(123 : UInt8), (49 : UInt8), (32 : UInt8), (51 : UInt8), (58 : UInt8), (51 : UInt8), (32 : UInt8), (53 : UInt8), (58 : UInt8), (42 : UInt8), (125 : UInt8)]).toList) = true → sml ((2 : Int), [((5 : Int), 
  (0 : Int))]) = true ∧ (altersM ((2 : Int), [((5 : Int), (0 : Int))]) ((2 : Int), [((5 : Int), (4 : Int))]) = true → sml ((2 : Int), [((5 : Int), (4 : Int))]) = true ∧ ((!altersM ((2 : Int), [((5 : Int), (4 : Int))]) 
  ((2 : Int), [])) = true → sml ((2 : Int), [((5 : Int), (0 : Int))]) = true ∧ ((bytesL ((2 : Int), [((5 : Int), (0 : Int))])).toList == (ByteArray.mk #[(2 : UInt8), (1 : UInt8), (5 : UInt8), (0 : UInt8), (0 : UInt8), (0 
  : UInt8), (0 : UInt8), (0 : UInt8), (0 : UInt8), (0 : UInt8), (0 : UInt8)]).toList) = true ∧ True) ∧ ((!altersM ((2 : Int), [((5 : Int), (4 : Int))]) ((2 : Int), [])) = !true → false = true ∧ True)) ∧ (altersM ((2 : 
  Int), [((5 : Int), (0 : Int))]) ((2 : Int), [((5 : Int), (4 : Int))]) = !true → false = true ∧ True)) ∧ (((textS ((makeE (2 : Int) [((5 : Int), (0 : Int)), ((3 : Int), (4 : Int)), ((9 : Int), (2 : Int))]).fst.fst, 
  (makeE (2 : Int) [((5 : Int), (0 : Int)), ((3 : Int), (4 : Int)), ((9 : Int), (2 : Int))]).fst.snd)).toList == (ByteArray.mk #[(123 : UInt8), (49 : UInt8), (32 : UInt8), (51 : UInt8), (58 : UInt8), (51 : UInt8), (32 : 
  UInt8), (53 : UInt8), (58 : UInt8), (42 : UInt8), (125 : UInt8)]).toList) = !true → false = true ∧ True)) ∧ (((makeE (2 : Int) [((5 : Int), (0 : Int)), ((3 : Int), (4 : Int)), ((9 : Int), (2 : Int))]).snd == (0 : Int)) 
  = !true → false = true ∧ True)) := by kernel_rfl
end Go.Proofs.YtblhojadchbcnaaDoor
namespace Go.Proofs.YtblhojadchbcnaaDoor
open Go.Proofs.YtblhojadchbcnaaDoor.Gx
set_option maxRecDepth 100000
set_option maxHeartbeats 4000000
set_option linter.unusedSimpArgs false
set_option linter.unusedVariables false
theorem live_make : makeE 2 [(5, 0), (3, 4), (9, 2)] = ((2, [(3, 4), (5, 0)]), 0) := by decide +kernel
theorem live_text : textS (2, [(3, 4), (5, 0)]) = ByteArray.mk #[123, 49, 32, 51, 58, 51, 32, 53, 58, 42, 125] := by decide +kernel
theorem live_bytes : bytesL (2, [(5, 0)]) = ByteArray.mk #[2, 1, 5, 0, 0, 0, 0, 0, 0, 0, 0] := by decide +kernel
theorem live_a1 : altersM (2, [(5, 0)]) (2, [(5, 4)]) = true := by decide +kernel
theorem live_a2 : altersM (2, [(5, 4)]) (2, []) = false := by decide +kernel
theorem live_small : catsSmall (2, [(3, 4), (5, 0)]) = true := by decide +kernel
theorem live_dist : dist [(5, 0), (3, 4), (9, 2)] = true := by decide +kernel
theorem lives_ok : PSpecOk PP 13 (Q [] [.bool] (fun _ => true) (fun _ => (true, ()))) := by
  refine pspec_Q mixed (fn := Tryd.f13) (c := c13) rfl rfl _ _ rfl ?_
  rintro ⟨⟩ - -
  refine ⟨_, env_ok [p14, p45, p20, p32] [] [] [] [], rfl, hold lives_vc ?_⟩
  rw [live_make, live_dist, live_text, live_bytes, live_a1, live_a2, live_small]
  simp
end Go.Proofs.YtblhojadchbcnaaDoor
namespace Go.Proofs.YtblhojadchbcnaaDoor
open Go.Proofs.YtblhojadchbcnaaDoor.Gx
set_option maxRecDepth 100000
set_option maxHeartbeats 0
noncomputable def c4 : Code := Tryd.f4.body.getD .skip
noncomputable def c5 : Code := Tryd.f5.body.getD .skip
noncomputable def c6 : Code := Tryd.f6.body.getD .skip
noncomputable def c11 : Code := Tryd.f11.body.getD .skip
noncomputable def p13 : Pv PP := ⟨13, _, ⟨rfl, lives_ok⟩⟩
theorem looks_vc (t o : Lab) : fvc PP (eP [p13, p17, p18, p19, p20, p21]) Tryd.f4 c4 (ofArgs [lab, lab] (t, o, ())) St0 (gives [.bool] (true, ())) = (
  true = true ∧ ((!true) = true → false = true ∧ True) ∧ ((!true) = false → true = true ∧ ((!rightsL [(t.fst, t.snd), (o.fst, o.snd)]) = true → true = true ∧ True) ∧ ((!rightsL [(t.fst, t.snd), (o.fst, o.snd)]) = false → 
  ∃ (v : Bool), (sml (t.fst, t.snd) = true ∧ (sml (t.fst, t.snd) && sml (o.fst, o.snd)) = true ∧ ((seesM (t.fst, t.snd) (o.fst, o.snd) == seesN (t.fst, t.snd) (o.fst, o.snd)) = true → sml (t.fst, t.snd) = true ∧ (sml 
  (t.fst, t.snd) && sml (o.fst, o.snd)) = true ∧ (altersM (t.fst, t.snd) (o.fst, o.snd) == altersN (t.fst, t.snd) (o.fst, o.snd)) = v) ∧ ((seesM (t.fst, t.snd) (o.fst, o.snd) == seesN (t.fst, t.snd) (o.fst, o.snd)) = 
  !true → false = v)) ∧ v = true ∧ True))) := by kernel_rfl
theorem orders_vc (a b c : Lab) : fvc PP (eP [p13, p17, p22, p16]) Tryd.f5 c5 (ofArgs [lab, lab, lab] (a, b, c, ())) St0 (gives [.bool] (true, ())) = (
  true = true ∧ ((!true) = true → false = true ∧ True) ∧ ((!true) = false → true = true ∧ ((!rightsL [(a.fst, a.snd), (b.fst, b.snd), (c.fst, c.snd)]) = true → true = true ∧ True) ∧ ((!rightsL [(a.fst, a.snd), (b.fst, 
  b.snd), (c.fst, c.snd)]) = false → ∃ (v : Bool), (true = true ∧ ((!leqM (a.fst, a.snd) (a.fst, a.snd)) = false → true = true ∧ (leqM (a.fst, a.snd) (b.fst, b.snd) = true → true = true ∧ true = true ∧ (!leqM (b.fst, 
  b.snd) (a.fst, a.snd) == sameL (a.fst, a.snd) (b.fst, b.snd)) = v) ∧ (leqM (a.fst, a.snd) (b.fst, b.snd) = !true → false = v)) ∧ ((!leqM (a.fst, a.snd) (a.fst, a.snd)) = !false → true = v)) ∧ (v = true → false = true ∧ 
  True) ∧ (v = false → true = true ∧ ((!leqM (a.fst, a.snd) (b.fst, b.snd)) = false → true = true ∧ ((!leqM (b.fst, b.snd) (c.fst, c.snd)) = false → true = true ∧ leqM (a.fst, a.snd) (c.fst, c.snd) = true ∧ True) ∧ 
  ((!leqM (b.fst, b.snd) (c.fst, c.snd)) = !false → true = true ∧ True)) ∧ ((!leqM (a.fst, a.snd) (b.fst, b.snd)) = !false → true = true ∧ True))))) := by kernel_rfl
theorem flows_vc (t u o : Lab) : fvc PP (eP [p13, p23, p17, p20, p18, p25, p24, p16, p22, p26]) Tryd.f6 c6 (ofArgs [lab, lab, lab] (t, u, o, ())) St0 (gives [.bool] (true, ())) = (
  true = true ∧ ((!true) = true → false = true ∧ True) ∧ ((!true) = false → true = true ∧ ((!plainL (t.fst, t.snd)) = false → true = true ∧ ((!plainL (u.fst, u.snd)) = false → true = true ∧ ((!rightsL [(o.fst, o.snd)]) = 
  true → true = true ∧ True) ∧ ((!rightsL [(o.fst, o.snd)]) = false → ∃ (v : Bool), (sml (t.fst, t.snd) = true ∧ (altersM (t.fst, t.snd) (o.fst, o.snd) = true → sml (t.fst, t.snd) = true ∧ ((!seesM (t.fst, t.snd) (o.fst, 
  o.snd)) = false → decide (t.snd.length ≤ (1000000 : Nat)) = true ∧ sml ((upL (t.fst, t.snd)).fst, (upL (t.fst, t.snd)).snd) = true ∧ true = true ∧ (!sameL ((downL ((upL (t.fst, t.snd)).fst, (upL (t.fst, 
  t.snd)).snd)).fst, (downL ((upL (t.fst, t.snd)).fst, (upL (t.fst, t.snd)).snd)).snd) (t.fst, t.snd)) = v) ∧ ((!seesM (t.fst, t.snd) (o.fst, o.snd)) = !false → true = v)) ∧ (altersM (t.fst, t.snd) (o.fst, o.snd) = !true 
  → decide (t.snd.length ≤ (1000000 : Nat)) = true ∧ sml ((upL (t.fst, t.snd)).fst, (upL (t.fst, t.snd)).snd) = true ∧ true = true ∧ (!sameL ((downL ((upL (t.fst, t.snd)).fst, (upL (t.fst, t.snd)).snd)).fst, (downL ((upL 
  (t.fst, t.snd)).fst, (upL (t.fst, t.snd)).snd)).snd) (t.fst, t.snd)) = v)) ∧ (v = true → false = true ∧ True) ∧ (v = false → true = true ∧ (leqM (t.fst, t.snd) (u.fst, u.snd) = true → true = true ∧ (freeL (t.fst, 
  t.snd) = true → true = true ∧ (freeL (u.fst, u.snd) = true → sml (t.fst, t.snd) = true ∧ (seesM (t.fst, t.snd) (o.fst, o.snd) = true → sml (u.fst, u.snd) = true ∧ ((!seesM (u.fst, u.snd) (o.fst, o.snd)) = true → false 
  = true ∧ True) ∧ ((!seesM (u.fst, u.snd) (o.fst, o.snd)) = false → true = true ∧ ((!freeL (t.fst, t.snd)) = false → sml (t.fst, t.snd) = true ∧ ((!altersM (t.fst, t.snd) (o.fst, o.snd)) = false → true = true ∧ sameL 
  (t.fst, t.snd) (o.fst, o.snd) = true ∧ True) ∧ ((!altersM (t.fst, t.snd) (o.fst, o.snd)) = !false → true = true ∧ True)) ∧ ((!freeL (t.fst, t.snd)) = !false → true = true ∧ True))) ∧ (seesM (t.fst, t.snd) (o.fst, 
  o.snd) = !true → true = true ∧ ((!freeL (t.fst, t.snd)) = false → sml (t.fst, t.snd) = true ∧ ((!altersM (t.fst, t.snd) (o.fst, o.snd)) = false → true = true ∧ sameL (t.fst, t.snd) (o.fst, o.snd) = true ∧ True) ∧ 
  ((!altersM (t.fst, t.snd) (o.fst, o.snd)) = !false → true = true ∧ True)) ∧ ((!freeL (t.fst, t.snd)) = !false → true = true ∧ True))) ∧ (freeL (u.fst, u.snd) = !true → true = true ∧ ((!freeL (t.fst, t.snd)) = false → 
  sml (t.fst, t.snd) = true ∧ ((!altersM (t.fst, t.snd) (o.fst, o.snd)) = false → true = true ∧ sameL (t.fst, t.snd) (o.fst, o.snd) = true ∧ True) ∧ ((!altersM (t.fst, t.snd) (o.fst, o.snd)) = !false → true = true ∧ 
  True)) ∧ ((!freeL (t.fst, t.snd)) = !false → true = true ∧ True))) ∧ (freeL (t.fst, t.snd) = !true → true = true ∧ ((!freeL (t.fst, t.snd)) = false → sml (t.fst, t.snd) = true ∧ ((!altersM (t.fst, t.snd) (o.fst, 
  o.snd)) = false → true = true ∧ sameL (t.fst, t.snd) (o.fst, o.snd) = true ∧ True) ∧ ((!altersM (t.fst, t.snd) (o.fst, o.snd)) = !false → true = true ∧ True)) ∧ ((!freeL (t.fst, t.snd)) = !false → true = true ∧ True))) 
  ∧ (leqM (t.fst, t.snd) (u.fst, u.snd) = !true → true = true ∧ ((!freeL (t.fst, t.snd)) = false → sml (t.fst, t.snd) = true ∧ ((!altersM (t.fst, t.snd) (o.fst, o.snd)) = false → true = true ∧ sameL (t.fst, t.snd) 
  (o.fst, o.snd) = true ∧ True) ∧ ((!altersM (t.fst, t.snd) (o.fst, o.snd)) = !false → true = true ∧ True)) ∧ ((!freeL (t.fst, t.snd)) = !false → true = true ∧ True))))) ∧ ((!plainL (u.fst, u.snd)) = !false → true = true 
  ∧ True)) ∧ ((!plainL (t.fst, t.snd)) = !false → true = true ∧ True))) := by kernel_rfl
theorem forms_vc (l : Lab) (k : Int) : fvc PP (eP [p13, p39, p40, p41, p23, p42, p26, p43, p44]) Tryd.f11 c11 (ofArgs [lab, i64] (l, k, ())) St0 (gives [.bool] (true, ())) = (
  true = true ∧ ((!true) = true → false = true ∧ True) ∧ ((!true) = false → ∃ (v : Bool), (true = true ∧ true = true ∧ ((rightL (l.fst, l.snd) == rightL (l.fst, l.snd)) = true → true = true ∧ true = true ∧ ((plainL 
  (l.fst, l.snd) == plainL (l.fst, l.snd)) = true → true = true ∧ true = true ∧ ((freeL (l.fst, l.snd) == freeL (l.fst, l.snd)) = true → true = true ∧ true = true ∧ (atL (l.fst, l.snd) k == atL (l.fst, l.snd) k) = v) ∧ 
  ((freeL (l.fst, l.snd) == freeL (l.fst, l.snd)) = !true → false = v)) ∧ ((plainL (l.fst, l.snd) == plainL (l.fst, l.snd)) = !true → false = v)) ∧ ((rightL (l.fst, l.snd) == rightL (l.fst, l.snd)) = !true → false = v)) 
  ∧ v = true ∧ True)) := by kernel_rfl
end Go.Proofs.YtblhojadchbcnaaDoor
namespace Go.Proofs.YtblhojadchbcnaaDoor
open Go.Proofs.YtblhojadchbcnaaDoor.Gx
set_option maxRecDepth 100000
set_option maxHeartbeats 4000000
set_option linter.unusedSimpArgs false
set_option linter.unusedVariables false
theorem sml_right {l : Lab} (h : rightL l = true) : sml l = true := by
  have := right_len h; simp; omega
theorem same_self (l : Lab) : sameL l l = true := by simp [sameL]
theorem looks_ok : PSpecOk PP 4 (Q [lab, lab] [.bool] (fun _ => true) (fun _ => (true, ()))) := by
  refine pspec_Q mixed (fn := Tryd.f4) (c := c4) rfl rfl _ _ rfl ?_
  rintro ⟨t, o, ⟨⟩⟩ - -
  refine ⟨_, env_ok [p13, p17, p18, p19, p20, p21] [] [] [] [], rfl, hold (looks_vc t o) ?_⟩
  simp only [true_and, and_true, Prod.eta]
  refine ⟨fun h => by simp at h, fun _ => ⟨fun _ => trivial, fun h => ?_⟩⟩
  simp [rightsL] at h
  obtain ⟨h1, h2⟩ := h
  have e1 : seesM t o = seesN t o := by simp only [seesM, seesN, leq_eq (right_srt h2) (up_srt (right_srt h1))]
  refine ⟨true, ⟨sml_right h1, by rw [sml_right h1, sml_right h2]; rfl, fun _ => ⟨sml_right h1, by rw [sml_right h1, sml_right h2]; rfl, by rw [altersM_eq h1 h2]; simp⟩, fun h => ?_⟩, rfl⟩
  rw [e1] at h; simp at h
theorem orders_ok : PSpecOk PP 5 (Q [lab, lab, lab] [.bool] (fun _ => true) (fun _ => (true, ()))) := by
  refine pspec_Q mixed (fn := Tryd.f5) (c := c5) rfl rfl _ _ rfl ?_
  rintro ⟨a, b, c, ⟨⟩⟩ - -
  refine ⟨_, env_ok [p13, p17, p22, p16] [] [] [] [], rfl, hold (orders_vc a b c) ?_⟩
  simp only [true_and, and_true, Prod.eta]
  refine ⟨fun h => by simp at h, fun _ => ⟨fun _ => trivial, fun h => ?_⟩⟩
  simp [rightsL] at h
  obtain ⟨h1, h2, h3⟩ := h
  refine ⟨false, ⟨fun _ => ⟨fun h => ?_, fun _ => rfl⟩, fun h => ?_⟩, fun h => Bool.noConfusion h, fun _ => ⟨fun e1 => ⟨fun e2 => ?_, fun _ => trivial⟩, fun _ => trivial⟩⟩
  · rw [leqM_same h1 h2 h]; simp
  · rw [leqM_refl h1] at h; simp at h
  · exact leqM_trans h1 h2 h3 (by simpa using e1) (by simpa using e2)
theorem flows_ok : PSpecOk PP 6 (Q [lab, lab, lab] [.bool] (fun _ => true) (fun _ => (true, ()))) := by
  refine pspec_Q mixed (fn := Tryd.f6) (c := c6) rfl rfl _ _ rfl ?_
  rintro ⟨t, u, o, ⟨⟩⟩ - -
  refine ⟨_, env_ok [p13, p23, p17, p20, p18, p25, p24, p16, p22, p26] [] [] [] [], rfl, hold (flows_vc t u o) ?_⟩
  simp only [true_and, and_true, Prod.eta]
  refine ⟨fun h => by simp at h, fun _ => ⟨fun ht => ⟨fun hu => ⟨fun _ => trivial, fun ho => ?_⟩, fun _ => trivial⟩, fun _ => trivial⟩⟩
  have ht : plainL t = true := by simpa using ht
  have hu : plainL u = true := by simpa using hu
  have ho : rightL o = true := by simpa [rightsL] using ho
  have s1 := sml_right (plain_right ht); have s2 := sml_right (plain_right hu)
  have s3 := sml_up s1
  have hD : decide (t.2.length ≤ 1000000) = true := s1
  have hE : ((!freeL t) = false → (!altersM t o) = false → sameL t o = true) := by
    intro h1 h2
    have h1 : freeL t = true := by simpa using h1
    have h2 : altersM t o = true := by simpa using h2
    rw [alters_same h1 ho h2]; exact same_self _
  have hV : (!sameL (downL (upL t)) t) = false := by rw [down_up ht, same_self]; rfl
  simp only [s1, s2, s3, hD, hV, true_and]
  refine ⟨false, ⟨fun h => ⟨fun _ => rfl, fun h2 => ?_⟩, fun _ => rfl⟩, fun h => Bool.noConfusion h, fun _ => ⟨fun h1 => ⟨fun h2 => ⟨fun h3 => ⟨fun h4 => ⟨fun h5 => ?_, fun _ => ⟨fun a => ⟨hE a, fun _ => trivial⟩, fun _ => trivial⟩⟩, fun _ => ⟨fun a => ⟨hE a, fun _ => trivial⟩, fun _ => trivial⟩⟩, fun _ => ⟨fun a => ⟨hE a, fun _ => trivial⟩, fun _ => trivial⟩⟩, fun _ => ⟨fun a => ⟨hE a, fun _ => trivial⟩, fun _ => trivial⟩⟩, fun _ => ⟨fun a => ⟨hE a, fun _ => trivial⟩, fun _ => trivial⟩⟩⟩
  · have : seesM t o = true := by simp only [altersM, Bool.and_eq_true] at h; exact h.2
    rw [this] at h2; cases h2
  · rw [sees_up h2 h3 ho h1 h4] at h5; cases h5
theorem forms_ok : PSpecOk PP 11 (Q [lab, i64] [.bool] (fun _ => true) (fun _ => (true, ()))) := by
  refine pspec_Q mixed (fn := Tryd.f11) (c := c11) rfl rfl _ _ rfl ?_
  rintro ⟨l, k, ⟨⟩⟩ - -
  refine ⟨_, env_ok [p13, p39, p40, p41, p23, p42, p26, p43, p44] [] [] [] [], rfl, hold (forms_vc l k) ?_⟩
  simp only [true_and, and_true, Prod.eta, beq_self_eq_true]
  refine ⟨fun h => by simp at h, fun _ => ⟨true, ⟨fun _ => ⟨fun _ => ⟨fun _ => rfl, fun h => by simp at h⟩, fun h => by simp at h⟩, fun h => by simp at h⟩, rfl⟩⟩
end Go.Proofs.YtblhojadchbcnaaDoor
