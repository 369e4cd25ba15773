/- Sort at ints off the shelf, Visible, small functions, the example; conditions: lists below a thousand. -/
import Derived.Shelf.Sort.Plain
import Derived.Shelf.Slices.In.SortNone
import Derived.Test.YtlnclaggmjhbfaaProg
import Derived.Test.YtlnclaggmjhbfaaVa8
namespace Go.Proofs.Ytlnclaggmjhbfaa
open Go.Shelf
def Try.lays189_ren : Go.Shelf.Ren := ⟨fun | 189 => 46 | 125 => 62 | 257 => 61 | 128 => 75 | 129 => 76 | 294 => 66 | 295 => 67 | 296 => 68 | 297 => 69 | 298 => 70 | 299 => 71 | 216 => 72 | 300 => 73 | 301 => 74 | 328 => 79 | 329 => 80 | 330 => 81 | 331 => 82 | 332 => 83 | 215 => 84 | 343 => 86 | n => n, fun | 28 => 28 | 3 => 3 | 46 => 88 | 0 => 0 | 51 => 99 | 53 => 37 | 4 => 4 | 183 => 92 | 182 => 91 | 131 => 96 | 5 => 5 | 9 => 9 | 218 => 103 | 222 => 107 | 228 => 110 | 229 => 111 | n => n, fun | n => n⟩
theorem Try.lays189 : Lays.n189 Try.prog Try.lays189_ren := {
  mixed := by kernel_rfl
  f125 := Try.func62.trans (congrArg some (by kernel_rfl))
  f128 := Try.func75.trans (congrArg some (by kernel_rfl))
  f129 := Try.func76.trans (congrArg some (by kernel_rfl))
  f189 := Try.func46.trans (congrArg some (by kernel_rfl))
  f215 := Try.func84.trans (congrArg some (by kernel_rfl))
  f216 := Try.func72.trans (congrArg some (by kernel_rfl))
  f257 := Try.func61.trans (congrArg some (by kernel_rfl))
  f294 := Try.func66.trans (congrArg some (by kernel_rfl))
  f295 := Try.func67.trans (congrArg some (by kernel_rfl))
  f296 := Try.func68.trans (congrArg some (by kernel_rfl))
  f297 := Try.func69.trans (congrArg some (by kernel_rfl))
  f298 := Try.func70.trans (congrArg some (by kernel_rfl))
  f299 := Try.func71.trans (congrArg some (by kernel_rfl))
  f300 := Try.func73.trans (congrArg some (by kernel_rfl))
  f301 := Try.func74.trans (congrArg some (by kernel_rfl))
  f328 := Try.func79.trans (congrArg some (by kernel_rfl))
  f329 := Try.func80.trans (congrArg some (by kernel_rfl))
  f330 := Try.func81.trans (congrArg some (by kernel_rfl))
  f331 := Try.func82.trans (congrArg some (by kernel_rfl))
  f332 := Try.func83.trans (congrArg some (by kernel_rfl))
  f343 := Try.func86.trans (congrArg some (by kernel_rfl))
  t0 := Try.underlying0
  a0 := Try.isAgg0
  z0 := Try.sizeOf0
  v0 := Try.zeroValue0
  t3 := Try.underlying3
  a3 := Try.isAgg3
  z3 := Try.sizeOf3
  v3 := Try.zeroValue3
  t4 := Try.underlying4
  a4 := Try.isAgg4
  z4 := Try.sizeOf4
  v4 := Try.zeroValue4
  t5 := Try.underlying5
  a5 := Try.isAgg5
  z5 := Try.sizeOf5
  v5 := Try.zeroValue5
  t9 := Try.underlying9
  a9 := Try.isAgg9
  z9 := Try.sizeOf9
  v9 := Try.zeroValue9
  t28 := Try.underlying28
  a28 := Try.isAgg28
  z28 := Try.sizeOf28
  v28 := Try.zeroValue28
  t46 := Try.underlying88
  a46 := Try.isAgg88
  z46 := Try.sizeOf88
  v46 := Try.zeroValue88
  t51 := Try.underlying99
  a51 := Try.isAgg99
  z51 := Try.sizeOf99
  v51 := Try.zeroValue99
  t53 := Try.underlying37
  a53 := Try.isAgg37
  z53 := Try.sizeOf37
  v53 := Try.zeroValue37
  t131 := Try.underlying96
  a131 := Try.isAgg96
  z131 := Try.sizeOf96
  v131 := Try.zeroValue96
  t182 := Try.underlying91
  a182 := Try.isAgg91
  z182 := Try.sizeOf91
  v182 := Try.zeroValue91
  t183 := Try.underlying92
  a183 := Try.isAgg92
  z183 := Try.sizeOf92
  v183 := Try.zeroValue92
  t218 := Try.underlying103
  a218 := Try.isAgg103
  z218 := Try.sizeOf103
  v218 := Try.zeroValue103
  t222 := Try.underlying107
  a222 := Try.isAgg107
  z222 := Try.sizeOf107
  v222 := Try.zeroValue107
  t228 := Try.underlying110
  a228 := Try.isAgg110
  z228 := Try.sizeOf110
  v228 := Try.zeroValue110
  t229 := Try.underlying111
  a229 := Try.isAgg111
  z229 := Try.sizeOf111
  v229 := Try.zeroValue111 }
end Go.Proofs.Ytlnclaggmjhbfaa
namespace Go.Proofs.Ytlnclaggmjhbfaa
open Go.Proofs.Ytlnclaggmjhbfaa.Gx Go.RowKit Go.Sort
set_option maxRecDepth 100000
set_option linter.unusedSimpArgs false
set_option linter.unusedVariables false
abbrev sortI (xs : List Int) : List Int := xs.mergeSort fun x y => decide (x ≤ y)
def sortA : Alt (List Int) := { β := Unit, post := fun _ _ => True, r := fun _ _ => .tup [], res := fun x _ => [.row 3 i64 (sortI x)], kp := [true] }
def sortH : HC where
  α := List Int
  m := 1
  ss := fun _ => [.row 0]
  Rs := fun x => [.row 3 i64 x]
  pre := fun x => x.length < 4611686018427387904
  alts := [sortA]
theorem ints_of {I : Nat → Prop} {w : World} : (xs : List Int) → {cs : List Value} → RdL I w i64 xs cs → cs = xs.map (Value.int .i64)
  | [], _, h => h
  | x :: xs, _, h => by
    obtain ⟨c1, c2, rfl, h1, h2⟩ := h
    rw [ints_of xs h2, show c1 = [Value.int .i64 x] from h1]; rfl
theorem of_ints {I : Nat → Prop} {w : World} : (xs : List Int) → RdL I w i64 xs (xs.map (Value.int .i64))
  | [] => rfl
  | x :: xs => ⟨[.int .i64 x], _, rfl, rfl, of_ints xs⟩
theorem sort_ok : sortH.ok PP 46 := by
  intro (x : List Int) (hpre : x.length < 4611686018427387904) ρ0 I F w vs hown hI hd
  obtain ⟨v, cells, hv, ⟨hl, ho⟩, hr, hF⟩ := hown.holds 0 _ rfl
  have hvs : vs = [v] := by
    have hd : SV.denL ρ0 I w [.row 0] vs := hd
    unfold SV.denL at hd
    obtain ⟨u, us, rfl, h1, h2⟩ := hd
    unfold SV.den at h1
    unfold SV.denL at h2
    subst h2
    rw [h1.1] at hv; cases hv; rfl
  subst hvs
  have hcs := ints_of x hr
  have hlen : (sortI x).length = x.length := List.length_mergeSort x
  rcases ho with ⟨rfl, hn⟩ | ⟨g, cap, cur, rfl, -, hh, hnc, hcap, hsz, htk⟩
  · have hx : x = [] := List.length_eq_zero_iff.1 hn
    subst hx
    refine (Any.slices_Sort_int_none Try.lays189 none 0 w).mono ?_
    rintro e w' ⟨rfl, rfl⟩
    refine ⟨_, rfl, sortA, List.mem_singleton.2 rfl, (), ρ0, I, F, ⟨trivial, ?_, ?_, Nat.le_refl 1, ?_, fun i _ _ => rfl, ?_⟩⟩
    · exact ⟨hown.len, hown.ones, fun i r hi => hown.holds i r (by have e : sortI [] = [] := List.length_eq_zero_iff.1 hlen; simpa [sortA, sortH, e] using hi), hown.apart, hown.lt, hown.notI⟩
    · show SV.den ρ0 I w' (.tup []) _
      unfold SV.den
      exact ⟨[], rfl, by simp [SV.denL]⟩
    · intro r hr'
      rw [List.mem_singleton.1 hr']; rfl
    · exact ⟨rfl, rfl, rfl, Nat.le_refl _, fun _ _ _ => rfl, fun _ h => h, fun _ h => .inl h, hI, fun i k hi hk => .inl ⟨i, hi, hk⟩⟩
  · have hgl : g < w.heap.size := (Array.getElem?_eq_some_iff.1 hh).1
    have hs1 : Ty.sz i64 = 1 := rfl
    rw [hs1, Nat.mul_one] at hsz htk hl
    have hget : ∀ j, j < x.length → cur[j]? = some (.int .i64 (x.toArray[j]!)) := by
      intro j hj
      have h1 : (cur.toList.take x.length)[j]? = some (.int .i64 x[j]) := by
        rw [htk, hcs, List.getElem?_map, List.getElem?_eq_getElem hj]; rfl
      rw [List.getElem?_take_of_lt hj] at h1
      rw [← Array.getElem?_toList, h1]
      simp [hj]
    have hH : Holds (Value.int .i64) w g 0 x.toArray := by
      intro j hj
      have hj : j < x.length := by simpa using hj
      refine ⟨?_, ?_⟩
      · simp only [World.cell?, hh, Nat.zero_add]
        exact hget j hj
      · simp [World.frozen?, hh]
    refine (Any.slices_Sort_int Try.lays189 g 0 cap x w hH hgl hpre).mono ?_
    rintro e w' ⟨rfl, n, os, rfl⟩
    have hheap : ∀ k, k < w.heap.size → (grow (putRow (Value.int .i64) (Sort.ahead w n) g 0 (sortI x).toArray) os).heap[k]? = if k = g then some (.cells (putCells (Value.int .i64) 0 (sortI x).toArray cur) 3 (0, 0)) else w.heap[k]? := by
      intro k hk
      simp only [grow, putRow, mapBlock, Sort.ahead]
      rw [Array.getElem?_append_left (by simpa using hk), Array.getElem?_modify]
      by_cases e : g = k
      · subst e; rw [if_pos rfl, if_pos rfl, hh]; rfl
      · rw [if_neg e, if_neg (fun h => e h.symm)]
    have hsize : w.heap.size ≤ (grow (putRow (Value.int .i64) (Sort.ahead w n) g 0 (sortI x).toArray) os).heap.size := by
      simp [grow, putRow, mapBlock, Sort.ahead]
    refine ⟨_, rfl, sortA, List.mem_singleton.2 rfl, (), ρ0, I, F, ⟨trivial, ?_, ?_, Nat.le_refl 1, ?_, fun i _ _ => rfl, ?_⟩⟩
    · refine ⟨hown.len, hown.ones, fun i r hi => ?_, hown.apart, fun i k h1 h2 => Nat.lt_of_lt_of_le (hown.lt i k h1 h2) hsize, hown.notI⟩
      cases i with
      | succ i => cases hi
      | zero =>
        cases hi
        refine ⟨_, (sortI x).map (Value.int .i64), hv, ⟨by rw [List.length_map, hs1, Nat.mul_one], .inr ⟨g, cap, putCells (Value.int .i64) 0 (sortI x).toArray cur, by rw [hlen], Nat.zero_le _, ?_, by rw [hlen]; exact hnc, hcap, ?_, ?_⟩⟩, of_ints _, hF⟩
        · rw [hheap g hgl, if_pos rfl]
        · rw [hs1, Nat.mul_one]; simp [putCells, hsz]
        · rw [hs1, Nat.mul_one, hlen]
          apply List.ext_getElem?
          intro j
          by_cases hj : j < x.length
          · rw [List.getElem?_take_of_lt hj, Array.getElem?_toList]
            simp only [putCells, Array.getElem?_mapIdx, hget j hj, Option.map_some]
            rw [if_pos ⟨Nat.zero_le _, by simp [hlen]; exact hj⟩, List.getElem?_map, List.getElem?_eq_getElem (by rw [hlen]; exact hj)]
            simp [hlen, hj]
          · rw [List.getElem?_eq_none (by simp; omega), List.getElem?_eq_none (by simp; omega)]
    · show SV.den ρ0 I _ (.tup []) _
      unfold SV.den
      exact ⟨[], rfl, by simp [SV.denL]⟩
    · intro r hr'
      rw [List.mem_singleton.1 hr']; rfl
    · refine ⟨rfl, rfl, rfl, hsize, fun k hk hnF => ?_, fun _ h => h, fun _ h => .inl h, fun k h => Nat.lt_of_lt_of_le (hI k h) hsize, fun i k hi hk => .inl ⟨i, hi, hk⟩⟩
      rw [hheap k hk, if_neg]
      intro e
      subst e
      exact hnF 0 (by decide) ((hF _).2 rfl)
end Go.Proofs.Ytlnclaggmjhbfaa
namespace Go.Proofs.Ytlnclaggmjhbfaa
open Go.Proofs.Ytlnclaggmjhbfaa.Gx
set_option linter.unusedSimpArgs false
set_option linter.unusedVariables false
structure VisSpec (d : List Obj) (root : Int) (l : Lab) (ys : List Int) : Prop where
  sorted : ys.Pairwise (· < ·)
  no : freeL l = false → ys = []
  yes : freeL l = true → ∀ id, id ∈ ys ↔ Vis d root l id
open Classical in
noncomputable def visL (d : List Obj) (root : Int) (l : Lab) : List Int := if h : ∃ ys, VisSpec d root l ys then h.choose else []
theorem sorted_ext : {xs ys : List Int} → xs.Pairwise (· < ·) → ys.Pairwise (· < ·) → (∀ i, i ∈ xs ↔ i ∈ ys) → xs = ys
  | [], [], _, _, _ => rfl
  | [], y :: ys, _, _, h => by have := (h y).2 (by simp); simp at this
  | x :: xs, [], _, _, h => by have := (h x).1 (by simp); simp at this
  | x :: xs, y :: ys, hx, hy, h => by
    rw [List.pairwise_cons] at hx hy
    have e : x = y := by
      have h1 := (h x).1 (by simp)
      have h2 := (h y).2 (by simp)
      simp only [List.mem_cons] at h1 h2
      rcases h1 with h1 | h1
      · exact h1
      · rcases h2 with h2 | h2
        · exact h2.symm
        · have := hy.1 x h1; have := hx.1 y h2; omega
    subst e
    congr 1
    refine sorted_ext hx.2 hy.2 (fun i => ⟨fun hi => ?_, fun hi => ?_⟩)
    · have := (h i).1 (by simp [hi])
      simp only [List.mem_cons] at this
      rcases this with e | h2
      · have := hx.1 i hi; omega
      · exact h2
    · have := (h i).2 (by simp [hi])
      simp only [List.mem_cons] at this
      rcases this with e | h2
      · have := hy.1 i hi; omega
      · exact h2
theorem VisSpec.uniq {d : List Obj} {root : Int} {l : Lab} {xs ys : List Int} (h : VisSpec d root l xs) (k : VisSpec d root l ys) : xs = ys := by
  cases hf : freeL l with
  | false => rw [h.no hf, k.no hf]
  | true => exact sorted_ext h.sorted k.sorted (fun i => (h.yes hf i).trans (k.yes hf i).symm)
theorem visL_eq {d : List Obj} {root : Int} {l : Lab} {ys : List Int} (h : VisSpec d root l ys) : visL d root l = ys := by
  have he : ∃ ys, VisSpec d root l ys := ⟨ys, h⟩
  unfold visL
  rw [dif_pos he]
  exact he.choose_spec.uniq h
theorem sort_spec {d : List Obj} {root : Int} {l : Lab} {y : List (Int × Obj)} (h : FindPost d root l y) {got : List Int} (hp : got.Perm (y.map (·.1))) : VisSpec d root l (sortI got) where
  sorted := by
    have h1 : (sortI got).Pairwise (fun a b => decide (a ≤ b) = true) := List.pairwise_mergeSort (fun a b c h1 h2 => by simp at *; omega) (fun a b => by simp; omega) got
    have h2 : (sortI got).Nodup := ((List.mergeSort_perm got _).trans hp).nodup_iff.2 h.nodup
    exact (h1.and h2).imp (fun ⟨a, b⟩ => by simp at a; omega)
  no := fun hf => by
    have := h.no hf
    subst this
    have : got = [] := List.Perm.eq_nil (by simpa using hp)
    subst this
    exact List.length_eq_zero_iff.1 (List.length_mergeSort _)
  yes := fun hf id => by
    rw [← h.yes hf id]
    exact ((List.mergeSort_perm got _).trans hp).mem_iff
end Go.Proofs.Ytlnclaggmjhbfaa
namespace Go.Proofs.Ytlnclaggmjhbfaa
open Go.Proofs.Ytlnclaggmjhbfaa.Gx
set_option maxRecDepth 100000
set_option linter.unusedVariables false
set_option maxHeartbeats 0
def keyLoop : List (Nat × (St → Option LoopSpec)) :=
  [(1, fun (S : St) => match getT S.fr.tm 5, S.stk with
      | .ptr jt _, fr :: _ => match S.res[jt]?, getT fr.tm 2 with
        | some (.mit mi), .ptr q _ => match S.res[mi]? with
          | some (.mapr kk ag vt es (some _)) => some { α := Option Int × List Int × List Int, inv := fun x => List.Perm (x.2.2 ++ x.2.1) (es.map fun p => p.1), ov := fun _ => [], rov := fun x => [(mi, .mapr kk ag vt es (some (jt, x.1, x.2.1))), (q, .blk 0 [.row S.res.length]), (S.res.length, .row 0 i64 x.2.2)], meas := fun x => x.2.1.length, nil := [(.cell q 0, 3, i64)] }
          | _ => none
        | _, _ => none
      | _, _ => none)]
noncomputable def i47 : Iv PP := ⟨47, inlY PP (env PP [] [] [] [] keyLoop) Try.f47 c47, ⟨rfl, inlY_ok (env_ok ..) mixed rfl rfl⟩⟩
noncomputable def s60 : Sv PP := ⟨60, inl PP (env PP [] [] [i47] [] []) Try.f60 c60, ⟨rfl, inl_ok (env_ok ..) rfl mixed rfl rfl⟩⟩
noncomputable def s45 : Sv PP := ⟨45, inl PP (env PP [] [s60] [] [] []) Try.f45 c45, ⟨rfl, inl_ok (env_ok ..) rfl mixed rfl rfl⟩⟩
noncomputable def s46 : Sv PP := ⟨46, hspec sortH [] (fun ss S => match ss with
  | [.row j] => match S.res[j]? with
    | some (.row _ (.int .i64) xs) => some ([j], xs)
    | _ => none
  | _ => none), ⟨rfl, hspec_ok sort_ok _ _⟩⟩
noncomputable def s27 : Sv PP := ⟨27, inl PP (env PP [] [s45, s46] [] [] []) Try.f27 c27, ⟨rfl, inl_ok (env_ok ..) rfl mixed rfl rfl⟩⟩
noncomputable def s28 : Sv PP := ⟨28, inl PP (env PP [] [] [] [] []) Try.f28 c28, ⟨rfl, inl_ok (env_ok ..) rfl mixed rfl rfl⟩⟩
noncomputable def s29 : Sv PP := ⟨29, hspec findH [0, 1, 2] (fun ss _ => match asArgs [.slice objT, i64, lab] ss with
  | some (d, root, l, _) => some ([], (d, root, l))
  | none => none), ⟨rfl, hspec_ok find_ok _ _⟩⟩
theorem vis_vc (d : List Obj) (root : Int) (l : Lab) : fvc PP (env PP [] [s29, s28, s27] [] [] []) Try.f10 c10 (ofArgs [.slice objT, i64, lab] (d, root, l, ())) St0 (givesRow 3 i64 (visL d root l)) = (
  smallD d = true ∧ (d = d ∧ root = root ∧ (l.fst = l.fst ∧ l.snd = l.snd ∧ True) ∧ True) ∧ True ∧ (∀ (y : List (Int × Obj)), FindPost d root l y → ∃ (x0 : Option Int × List Int × List Int), (x0.snd.snd ++ 
  x0.snd.fst).Perm (List.map (fun (p : Int × (Int × Int × Int × Int × Int × Int × List (Int × Int)) × List Int × ByteArray × List (Int × Int × Int × Int × Int × Bool × Bool) × (Int × List (Int × Int)) × (Int × Int) × 
  ((Int × Int × Int × Int × Int × Int × Int × Int × Int × Int × Int × Int × Int × Int × Int × Int) × Int) × Int × Int × Int × Int × List Int × ByteArray × ByteArray) => p.fst) y) ∧ ((((True ∧ True) ∧ SV.val (Value.slice 
  none (0 : Nat) (0 : Nat)) = SV.val (Value.slice none (0 : Nat) (0 : Nat)) ∧ True ∧ SV.val (Value.slice none (0 : Nat) (0 : Nat)) = SV.val (Value.slice none (0 : Nat) (0 : Nat)) ∧ (True ∧ True) ∧ True) ∧ ((True ∧ True) 
  ∧ SV.val (Value.slice none (0 : Nat) (0 : Nat)) = SV.val (Value.slice none (0 : Nat) (0 : Nat)) ∧ (True ∧ True) ∧ True) ∧ ((True ∧ True) ∧ SV.val (Value.slice none (0 : Nat) (0 : Nat)) = SV.val (Value.slice none (0 : 
  Nat) (0 : Nat)) ∧ (True ∧ True) ∧ True) ∧ ((True ∧ True) ∧ True ∧ (l.fst = l.fst ∧ l.snd = l.snd ∧ True) ∧ root = root ∧ d = d ∧ SV.val (Value.slice none (0 : Nat) (0 : Nat)) = SV.val (Value.slice none (0 : Nat) (0 : 
  Nat)) ∧ True ∧ d = d ∧ root = root ∧ (l.fst = l.fst ∧ l.snd = l.snd ∧ True) ∧ True) ∧ True ∧ True) ∧ (True ∧ True ∧ True ∧ True) ∧ (l.fst = l.fst ∧ l.snd = l.snd ∧ True) ∧ True ∧ (y = y ∧ none = x0.fst ∧ List.map (fun 
  (x : Int × (Int × Int × Int × Int × Int × Int × List (Int × Int)) × List Int × ByteArray × List (Int × Int × Int × Int × Int × Bool × Bool) × (Int × List (Int × Int)) × (Int × Int) × ((Int × Int × Int × Int × Int × Int 
  × Int × Int × Int × Int × Int × Int × Int × Int × Int × Int) × Int) × Int × Int × Int × Int × List Int × ByteArray × ByteArray) => x.fst) y = x0.snd.fst) ∧ (True ∧ True) ∧ (True ∧ True) ∧ True ∧ ((True ∧ True) ∧ SV.val 
  (Value.slice none (0 : Nat) (0 : Nat)) = SV.val (Value.slice none (0 : Nat) (0 : Nat)) ∧ True ∧ SV.val (Value.slice none (0 : Nat) (0 : Nat)) = SV.val (Value.slice none (0 : Nat) (0 : Nat)) ∧ (True ∧ True) ∧ True) ∧ 
  True ∧ [] = x0.snd.snd ∧ True) ∧ ∀ (x : Option Int × List Int × List Int), (x.snd.snd ++ x.snd.fst).Perm (List.map (fun (p : Int × (Int × Int × Int × Int × Int × Int × List (Int × Int)) × List Int × ByteArray × List 
  (Int × Int × Int × Int × Int × Bool × Bool) × (Int × List (Int × Int)) × (Int × Int) × ((Int × Int × Int × Int × Int × Int × Int × Int × Int × Int × Int × Int × Int × Int × Int × Int) × Int) × Int × Int × Int × Int × 
  List Int × ByteArray × ByteArray) => p.fst) y) → (x.snd.fst = [] → x.snd.snd.length.succ.le (4611686018427387904 : Nat) ∧ (True ∧ True) ∧ (x.snd.snd = x.snd.snd ∧ True) ∧ (∀ (y : sortA.β), True → sortI x.snd.snd = visL 
  d root l) ∧ True) ∧ ∀ (n : Nat) (key : Int), x.snd.fst[n]? = some key → ∀ (y_1 : (Int × Int × Int × Int × Int × Int × List (Int × Int)) × List Int × ByteArray × List (Int × Int × Int × Int × Int × Bool × Bool) × (Int × 
  List (Int × Int)) × (Int × Int) × ((Int × Int × Int × Int × Int × Int × Int × Int × Int × Int × Int × Int × Int × Int × Int × Int) × Int) × Int × Int × Int × Int × List Int × ByteArray × ByteArray), lookL y key = some 
  y_1 → (x.snd.snd.length + [key].length) * (8 : Nat) ≤ (140737488355328 : Nat) ∧ ∃ (x' : Option Int × List Int × List Int), (x'.snd.snd ++ x'.snd.fst).Perm (List.map (fun (p : Int × (Int × Int × Int × Int × Int × Int × 
  List (Int × Int)) × List Int × ByteArray × List (Int × Int × Int × Int × Int × Bool × Bool) × (Int × List (Int × Int)) × (Int × Int) × ((Int × Int × Int × Int × Int × Int × Int × Int × Int × Int × Int × Int × Int × Int 
  × Int × Int) × Int) × Int × Int × Int × Int × List Int × ByteArray × ByteArray) => p.fst) y) ∧ x'.snd.fst.length < x.snd.fst.length ∧ (((True ∧ True) ∧ SV.val (Value.slice none (0 : Nat) (0 : Nat)) = SV.val 
  (Value.slice none (0 : Nat) (0 : Nat)) ∧ True ∧ SV.val (Value.slice none (0 : Nat) (0 : Nat)) = SV.val (Value.slice none (0 : Nat) (0 : Nat)) ∧ (True ∧ True) ∧ True) ∧ ((True ∧ True) ∧ SV.val (Value.slice none (0 : 
  Nat) (0 : Nat)) = SV.val (Value.slice none (0 : Nat) (0 : Nat)) ∧ (True ∧ True) ∧ True) ∧ ((True ∧ True) ∧ SV.val (Value.slice none (0 : Nat) (0 : Nat)) = SV.val (Value.slice none (0 : Nat) (0 : Nat)) ∧ (True ∧ True) ∧ 
  True) ∧ ((True ∧ True) ∧ True ∧ (l.fst = l.fst ∧ l.snd = l.snd ∧ True) ∧ root = root ∧ d = d ∧ SV.val (Value.slice none (0 : Nat) (0 : Nat)) = SV.val (Value.slice none (0 : Nat) (0 : Nat)) ∧ True ∧ d = d ∧ root = root 
  ∧ (l.fst = l.fst ∧ l.snd = l.snd ∧ True) ∧ True) ∧ True ∧ True) ∧ (True ∧ True ∧ True ∧ True) ∧ (l.fst = l.fst ∧ l.snd = l.snd ∧ True) ∧ True ∧ (y = y ∧ some key = x'.fst ∧ x.snd.fst.eraseIdx n = x'.snd.fst) ∧ (True ∧ 
  True) ∧ (True ∧ True) ∧ True ∧ ((True ∧ True) ∧ SV.val (Value.slice none (0 : Nat) (0 : Nat)) = SV.val (Value.slice none (0 : Nat) (0 : Nat)) ∧ True ∧ SV.val (Value.slice none (0 : Nat) (0 : Nat)) = SV.val (Value.slice 
  none (0 : Nat) (0 : Nat)) ∧ (True ∧ True) ∧ True) ∧ True ∧ x.snd.snd ++ [key] = x'.snd.snd ∧ True) ∧ True) := by kernel_rfl
end Go.Proofs.Ytlnclaggmjhbfaa
namespace Go.Proofs.Ytlnclaggmjhbfaa
open Go.Proofs.Ytlnclaggmjhbfaa.Gx
set_option maxRecDepth 100000
set_option maxHeartbeats 4000000
set_option linter.unusedSimpArgs false
set_option linter.unusedVariables false
theorem nodup_len : {xs ys : List Int} → xs.Nodup → (∀ x ∈ xs, x ∈ ys) → xs.length ≤ ys.length
  | [], _, _, _ => Nat.zero_le _
  | x :: xs, ys, h, hs => by
    rw [List.nodup_cons] at h
    have hx := hs x (by simp)
    have := nodup_len (ys := ys.erase x) h.2 (fun z hz => (List.mem_erase_of_ne (fun e => by subst e; exact h.1 hz)).2 (hs z (by simp [hz])))
    rw [List.length_erase_of_mem hx] at this
    have : 0 < ys.length := List.length_pos_of_mem hx
    simp only [List.length_cons]; omega
theorem first_mem {d : List Obj} {id : Int} {o : Obj} (h : first d id = some o) : o ∈ d ∧ oid o = id := by
  have h1 := List.mem_of_find?_eq_some h
  have h2 := List.find?_some h
  exact ⟨h1, by simpa using h2⟩
theorem post_len {d : List Obj} {root : Int} {l : Lab} {y : List (Int × Obj)} (h : FindPost d root l y) : y.length ≤ d.length := by
  have := nodup_len (xs := y.map (·.1)) (ys := d.map oid) h.nodup (fun x hx => by
    obtain ⟨p, hp, rfl⟩ := List.mem_map.1 hx
    obtain ⟨h1, h2⟩ := first_mem (h.vals p hp)
    exact List.mem_map.2 ⟨_, h1, h2⟩)
  simpa using this
theorem erase_perm : {l : List Int} → {n : Nat} → {k : Int} → l[n]? = some k → (k :: l.eraseIdx n).Perm l
  | [], _, _, h => by simp at h
  | x :: l, 0, k, h => by simp at h; subst h; exact List.Perm.refl _
  | x :: l, n + 1, k, h => by
    have := erase_perm (l := l) (n := n) (by simpa using h)
    simp only [List.eraseIdx_cons_succ]
    exact (List.Perm.swap x k _).trans (this.cons x)
theorem perm_step {got left : List Int} {ks : List Int} {n : Nat} {key : Int} (h : (got ++ left).Perm ks) (hk : left[n]? = some key) : ((got ++ [key]) ++ left.eraseIdx n).Perm ks := by
  refine List.Perm.trans ?_ h
  rw [List.append_assoc]
  refine List.Perm.append_left got ?_
  simp only [List.cons_append, List.nil_append]
  exact erase_perm hk
theorem vis_own : OwnOk PP 10 [.slice objT, i64, lab] 3 i64 (fun x => smallD x.1) (fun x => visL x.1 x.2.1 x.2.2.1) := by
  refine own_Q mixed (fn := Try.f10) (c := c10) rfl rfl [.slice objT, i64, lab] 3 i64 rfl ?_
  rintro ⟨d, root, l, ⟨⟩⟩ - hp
  have hp : smallD d = true := hp
  refine ⟨env PP [] [s29, s28, s27] [] [] [], env_ok .., rfl, hold (vis_vc d root l) ?_⟩
  simp only [true_and, and_true, Prod.eta, eq_self_iff_true]
  refine ⟨hp, fun y hy => ⟨(none, y.map (·.1), []), List.Perm.refl _, ⟨⟨rfl, rfl⟩, rfl⟩, ?_⟩⟩
  rintro ⟨cur, left, got⟩ hperm
  simp only at hperm ⊢
  have hsm := (small_list hp).1
  have hyl := post_len hy
  have hgl : got.length + left.length = y.length := by
    have := hperm.length_eq
    simpa using this
  refine ⟨fun hl => ⟨?_, fun _ _ => ?_⟩, fun n key hk o ho => ⟨?_, (some key, left.eraseIdx n, got ++ [key]), perm_step hperm hk, ?_, ⟨rfl, rfl⟩, rfl⟩⟩
  · show got.length + 1 ≤ 4611686018427387904
    omega
  · subst hl
    rw [List.append_nil] at hperm
    exact (visL_eq (sort_spec hy hperm)).symm
  · simp only [List.length_cons, List.length_nil]
    have : left.length = y.length - got.length := by omega
    omega
  · have hn := (List.getElem?_eq_some_iff.1 hk).1
    show (left.eraseIdx n).length < left.length
    rw [List.length_eraseIdx_of_lt hn]; omega
noncomputable def p10 : Pv PP := ⟨10, _, ⟨rfl, pspec_of_own vis_own⟩⟩
end Go.Proofs.Ytlnclaggmjhbfaa
namespace Go.Proofs.Ytlnclaggmjhbfaa
open Go.Proofs.Ytlnclaggmjhbfaa.Gx
set_option linter.unusedSimpArgs false
set_option linter.unusedVariables false
noncomputable def c20 : Code := Try.f20.body.getD .skip
noncomputable def c13 : Code := Try.f13.body.getD .skip
noncomputable def c9 : Code := Try.f9.body.getD .skip
noncomputable def c11 : Code := Try.f11.body.getD .skip
noncomputable def c8 : Code := Try.f8.body.getD .skip
noncomputable def c3 : Code := Try.f3.body.getD .skip
noncomputable def c4 : Code := Try.f4.body.getD .skip
noncomputable def c16 : Code := Try.f16.body.getD .skip
noncomputable def c18 : Code := Try.f18.body.getD .skip
def sameI (a b : List Int) : Bool := decide (a = b)
def inL (l : List Int) (x : Int) : Bool := l.any fun y => y == x
def fewO (o : Obj) : Bool := !(decide ((olist o).length > 100) || decide ((olab o).2.length > 100))
def fewD (d : List Obj) : Bool := d.all fewO && decide (d.length ≤ 100)
def atO (d : List Obj) (id : Int) : Int := match d.findIdx? (fun o => oid o == id) with
  | some i => (i : Int)
  | none => -1
/-- What a visible object leads to. -/
def leads (d : List Obj) (id : Int) : List Int := match first d id with
  | some o => if okind o = 1 then olist o else []
  | none => []
def entr (d : List Obj) (root : Int) (seen : List Int) : List Int := root :: seen.flatMap (leads d)
end Go.Proofs.Ytlnclaggmjhbfaa
namespace Go.Proofs.Ytlnclaggmjhbfaa
open Go.Proofs.Ytlnclaggmjhbfaa.Gx
set_option maxRecDepth 100000
set_option linter.unusedVariables false
set_option maxHeartbeats 0
def sameLoop (a b : List Int) : List (Nat × (St → Option LoopSpec)) :=
  [(4, fun _ => some { α := Nat, inv := fun i => i ≤ a.length ∧ a.take i = b.take i, ov := fun i => [(13, .int .i64 (i : Int))], rov := fun _ => [], meas := fun i => a.length - i })]
theorem sameI_vc (a b : List Int) : fvc PP (eL (sameLoop a b)) Try.f20 c20 (ofArgs [ints, ints] (a, b, ())) St0 (gives [.bool] (sameI a b, ())) = (
  a.length ≤ maxLen → b.length ≤ maxLen → (((↑a.length : Int) != (↑b.length : Int)) = true → false = sameI a b ∧ True) ∧ (((↑a.length : Int) != (↑b.length : Int)) = false → a.length ≤ maxLen → ∃ (x0 : Nat), (x0 ≤ 
  a.length ∧ List.take x0 a = List.take x0 b) ∧ ((True ∧ True) ∧ ((0 : Int) = (↑x0 : Int) ∧ (↑a.length : Int) = (↑a.length : Int) ∧ false = false ∧ a = a ∧ b = b ∧ True) ∧ True) ∧ ∀ (x : Nat), x ≤ a.length ∧ List.take x 
  a = List.take x b → (decide ((↑x : Int) < (↑a.length : Int)) = true → ((0 : Int) ≤ (↑x : Int) ∧ (↑x : Int) < (↑a.length : Int)) ∧ ∀ (y : Int), a[(↑x : Int).toNat]? = some y → ((0 : Int) ≤ (↑x : Int) ∧ (↑x : Int) < 
  (↑b.length : Int)) ∧ ∀ (y_1 : Int), b[(↑x : Int).toNat]? = some y_1 → ((y != y_1) = true → false = sameI a b ∧ True) ∧ ((y != y_1) = false → ∃ (x' : Nat), (x' ≤ a.length ∧ List.take x' a = List.take x' b) ∧ a.length - 
  x' < a.length - x ∧ (True ∧ True) ∧ (IntKind.i64.wrap ((↑x : Int) + (1 : Int)) = (↑x' : Int) ∧ (↑a.length : Int) = (↑a.length : Int) ∧ false = false ∧ a = a ∧ b = b ∧ True) ∧ True)) ∧ (decide ((↑x : Int) < (↑a.length : 
  Int)) = false → true = sameI a b ∧ True))) := by kernel_rfl
def inLoop (l : List Int) (x : Int) : List (Nat × (St → Option LoopSpec)) :=
  [(2, fun _ => some { α := Nat, inv := fun i => i ≤ l.length ∧ inL (l.drop i) x = inL l x, ov := fun i => [(9, .int .i64 (i : Int))], rov := fun _ => [], meas := fun i => l.length - i })]
theorem inL_vc (l : List Int) (x : Int) : fvc PP (eL (inLoop l x)) Try.f13 c13 (ofArgs [ints, i64] (l, x, ())) St0 (gives [.bool] (inL l x, ())) = (
  l.length ≤ maxLen → ∃ (x0 : Nat), (x0 ≤ l.length ∧ inL (List.drop x0 l) x = inL l x) ∧ ((True ∧ True) ∧ ((0 : Int) = (↑x0 : Int) ∧ (↑l.length : Int) = (↑l.length : Int) ∧ l = l ∧ l = l ∧ x = x ∧ True) ∧ True) ∧ ∀ (x_1 
  : Nat), x_1 ≤ l.length ∧ inL (List.drop x_1 l) x = inL l x → (decide ((↑x_1 : Int) < (↑l.length : Int)) = true → ((0 : Int) ≤ (↑x_1 : Int) ∧ (↑x_1 : Int) < (↑l.length : Int)) ∧ ∀ (y : Int), l[(↑x_1 : Int).toNat]? = 
  some y → ((y == x) = true → true = inL l x ∧ True) ∧ ((y == x) = false → ∃ (x' : Nat), (x' ≤ l.length ∧ inL (List.drop x' l) x = inL l x) ∧ l.length - x' < l.length - x_1 ∧ (True ∧ True) ∧ (IntKind.i64.wrap ((↑x_1 : 
  Int) + (1 : Int)) = (↑x' : Int) ∧ (↑l.length : Int) = (↑l.length : Int) ∧ l = l ∧ l = l ∧ x = x ∧ True) ∧ True)) ∧ (decide ((↑x_1 : Int) < (↑l.length : Int)) = false → false = inL l x ∧ True)) := by kernel_rfl
def fewLoop (d : List Obj) : List (Nat × (St → Option LoopSpec)) :=
  [(2, fun _ => some { α := Nat, inv := fun i => i ≤ d.length ∧ (d.drop i).all fewO = d.all fewO, ov := fun i => [(7, .int .i64 (i : Int))], rov := fun _ => [], meas := fun i => d.length - i })]
theorem few_vc (d : List Obj) : fvc PP (eL (fewLoop d)) Try.f9 c9 (ofArgs [.slice objT] (d, ())) St0 (gives [.bool] (fewD d, ())) = (
  d.length ≤ maxLen → ∃ (x0 : Nat), (x0 ≤ d.length ∧ (List.drop x0 d).all fewO = d.all fewO) ∧ ((True ∧ True) ∧ ((0 : Int) = (↑x0 : Int) ∧ (↑d.length : Int) = (↑d.length : Int) ∧ d = d ∧ d = d ∧ True) ∧ True) ∧ ∀ (x : 
  Nat), x ≤ d.length ∧ (List.drop x d).all fewO = d.all fewO → (decide ((↑x : Int) < (↑d.length : Int)) = true → ((0 : Int) ≤ (↑x : Int) ∧ (↑x : Int) < (↑d.length : Int)) ∧ ∀ (y : (Int × Int × Int × Int × Int × Int × 
  List (Int × Int)) × List Int × ByteArray × List (Int × Int × Int × Int × Int × Bool × Bool) × (Int × List (Int × Int)) × (Int × Int) × ((Int × Int × Int × Int × Int × Int × Int × Int × Int × Int × Int × Int × Int × Int 
  × Int × Int) × Int) × Int × Int × Int × Int × List Int × ByteArray × ByteArray), d[(↑x : Int).toNat]? = some y → ∃ (v : Bool), (y.snd.fst.length ≤ maxLen → (decide ((↑y.snd.fst.length : Int) > (100 : Int)) = false → 
  y.fst.snd.snd.snd.snd.snd.snd.length ≤ maxLen → decide ((↑y.fst.snd.snd.snd.snd.snd.snd.length : Int) > (100 : Int)) = v) ∧ (decide ((↑y.snd.fst.length : Int) > (100 : Int)) = !false → true = v)) ∧ (v = true → false = 
  fewD d ∧ True) ∧ (v = false → ∃ (x' : Nat), (x' ≤ d.length ∧ (List.drop x' d).all fewO = d.all fewO) ∧ d.length - x' < d.length - x ∧ (True ∧ True) ∧ (IntKind.i64.wrap ((↑x : Int) + (1 : Int)) = (↑x' : Int) ∧ 
  (↑d.length : Int) = (↑d.length : Int) ∧ d = d ∧ d = d ∧ True) ∧ True)) ∧ (decide ((↑x : Int) < (↑d.length : Int)) = false → d.length ≤ maxLen → decide ((↑d.length : Int) ≤ (100 : Int)) = fewD d ∧ True)) := by kernel_rfl
def atOLoop (d : List Obj) (id : Int) : List (Nat × (St → Option LoopSpec)) :=
  [(2, fun _ => some { α := Nat, inv := fun i => i ≤ d.length ∧ ((d.take i).all fun o => !(oid o == id)) = true, ov := fun i => [(8, .int .i64 (i : Int))], rov := fun _ => [], meas := fun i => d.length - i })]
theorem atO_vc (d : List Obj) (id : Int) : fvc PP (eL (atOLoop d id)) Try.f11 c11 (ofArgs [.slice objT, i64] (d, id, ())) St0 (gives [i64] (atO d id, ())) = (
  d.length ≤ maxLen → ∃ (x0 : Nat), (x0 ≤ d.length ∧ ((List.take x0 d).all fun (o : Obj) => !oid o == id) = true) ∧ ((True ∧ True) ∧ ((0 : Int) = (↑x0 : Int) ∧ (↑d.length : Int) = (↑d.length : Int) ∧ d = d ∧ id = id ∧ 
  True) ∧ True) ∧ ∀ (x : Nat), x ≤ d.length ∧ ((List.take x d).all fun (o : Obj) => !oid o == id) = true → (decide ((↑x : Int) < (↑d.length : Int)) = true → ((0 : Int) ≤ (↑x : Int) ∧ (↑x : Int) < (↑d.length : Int)) ∧ ∀ 
  (y : (Int × Int × Int × Int × Int × Int × List (Int × Int)) × List Int × ByteArray × List (Int × Int × Int × Int × Int × Bool × Bool) × (Int × List (Int × Int)) × (Int × Int) × ((Int × Int × Int × Int × Int × Int × Int 
  × Int × Int × Int × Int × Int × Int × Int × Int × Int) × Int) × Int × Int × Int × Int × List Int × ByteArray × ByteArray), d[(↑x : Int).toNat]? = some y → ((y.fst.fst == id) = true → (↑x : Int) = atO d id ∧ True) ∧ 
  ((y.fst.fst == id) = false → ∃ (x' : Nat), (x' ≤ d.length ∧ ((List.take x' d).all fun (o : Obj) => !oid o == id) = true) ∧ d.length - x' < d.length - x ∧ (True ∧ True) ∧ (IntKind.i64.wrap ((↑x : Int) + (1 : Int)) = 
  (↑x' : Int) ∧ (↑d.length : Int) = (↑d.length : Int) ∧ d = d ∧ id = id ∧ True) ∧ True)) ∧ (decide ((↑x : Int) < (↑d.length : Int)) = false → (-1 : Int) = atO d id ∧ True)) := by kernel_rfl
end Go.Proofs.Ytlnclaggmjhbfaa
namespace Go.Proofs.Ytlnclaggmjhbfaa
open Go.Proofs.Ytlnclaggmjhbfaa.Gx
set_option maxRecDepth 100000
set_option maxHeartbeats 4000000
set_option linter.unusedSimpArgs false
set_option linter.unusedVariables false
theorem toNat_cast (i : Nat) : (i : Int).toNat = i := rfl
theorem sameI_ok : PSpecOk PP 20 (Q [ints, ints] [.bool] (fun _ => true) (fun x => (sameI x.1 x.2.1, ()))) := by
  refine pspec_Q mixed (fn := Try.f20) (c := c20) rfl rfl _ _ rfl ?_
  rintro ⟨a, b, ⟨⟩⟩ - -
  refine ⟨eL (sameLoop a b), env_ok .., rfl, hold (sameI_vc a b) ?_⟩
  simp only [true_and, and_true, Prod.eta, eq_self_iff_true, toNat_cast]
  intro hA hB
  refine ⟨fun h => ?_, fun h _ => ⟨0, ⟨Nat.zero_le _, rfl⟩, rfl, ?_⟩⟩
  · have h : (a.length : Int) ≠ b.length := by simpa using h
    have : a ≠ b := fun e => h (by rw [e])
    simp [sameI, this]
  have hl : a.length = b.length := by simp at h; omega
  rintro i ⟨hi, hinv⟩
  refine ⟨fun hlt => ?_, fun hge => ?_⟩
  · have hlt : i < a.length := by simp at hlt; omega
    refine ⟨⟨by omega, by omega⟩, fun y hy => ⟨⟨by omega, by omega⟩, fun z hz => ⟨fun hne => ?_, fun he => ?_⟩⟩⟩
    · have : a ≠ b := fun e => by subst e; rw [hy] at hz; cases hz; simp at hne
      simp [sameI, this]
    · have : y = z := by simpa using he
      subst this
      exact ⟨i + 1, ⟨by omega, by rw [take_snoc hy, take_snoc hz, hinv]⟩, by omega, wrap_succ hlt hA⟩
  · have hie : i = a.length := by simp at hge; omega
    subst hie
    rw [List.take_length, hl, List.take_length] at hinv
    simp [sameI, hinv]
theorem inL_ok : PSpecOk PP 13 (Q [ints, i64] [.bool] (fun _ => true) (fun x => (inL x.1 x.2.1, ()))) := by
  refine pspec_Q mixed (fn := Try.f13) (c := c13) rfl rfl _ _ rfl ?_
  rintro ⟨l, x, ⟨⟩⟩ - -
  refine ⟨eL (inLoop l x), env_ok .., rfl, hold (inL_vc l x) ?_⟩
  simp only [true_and, and_true, Prod.eta, eq_self_iff_true, toNat_cast]
  intro hA
  refine ⟨0, ⟨Nat.zero_le _, rfl⟩, rfl, ?_⟩
  rintro i ⟨hi, hinv⟩
  refine ⟨fun hlt => ?_, fun hge => ?_⟩
  · have hlt : i < l.length := by simp at hlt; omega
    refine ⟨⟨by omega, by omega⟩, fun y hy => ?_⟩
    obtain ⟨_, rfl⟩ := List.getElem?_eq_some_iff.1 hy
    rw [List.drop_eq_getElem_cons hlt] at hinv
    refine ⟨fun he => ?_, fun hne => ⟨i + 1, ⟨by omega, ?_⟩, by omega, wrap_succ hlt hA⟩⟩
    · rw [← hinv]; simp only [inL, List.any_cons, he, Bool.true_or]
    · rw [← hinv]; simp only [inL, List.any_cons, hne, Bool.false_or]
  · have hie : i = l.length := by simp at hge; omega
    rw [← hinv, hie, List.drop_length]; rfl
theorem fewD_ok : PSpecOk PP 9 (Q [.slice objT] [.bool] (fun _ => true) (fun x => (fewD x.1, ()))) := by
  refine pspec_Q mixed (fn := Try.f9) (c := c9) rfl rfl _ _ rfl ?_
  rintro ⟨d, ⟨⟩⟩ - -
  refine ⟨eL (fewLoop d), env_ok .., rfl, hold (few_vc d) ?_⟩
  simp only [true_and, and_true, Prod.eta, eq_self_iff_true, toNat_cast]
  intro hA
  refine ⟨0, ⟨Nat.zero_le _, rfl⟩, rfl, ?_⟩
  rintro i ⟨hi, hinv⟩
  refine ⟨fun hlt => ?_, fun hge _ => ?_⟩
  · have hlt : i < List.length d := by simpa using hlt
    refine ⟨⟨by omega, by omega⟩, fun y hy => ⟨!fewO y, fun _ => ⟨fun h1 _ => ?_, fun h1 => ?_⟩, fun hv => ?_, fun hv => ⟨i + 1, ⟨by omega, ?_⟩, by omega, wrap_succ hlt hA⟩⟩⟩
    · have h1 : decide ((olist y).length > 100) = false := by
        have : ¬ (List.length (olist y) > 100) := by simp at h1; show ¬ (List.length y.2.1 > 100); omega
        simpa using this
      have h2 : decide (((olab y).2.length : Int) > 100) = decide ((olab y).2.length > 100) := decide_eq_decide.2 (by omega)
      simp only [fewO, h1, Bool.false_or, Bool.not_not]
      exact h2
    · have h1 : decide ((olist y).length > 100) = true := by
        have : (List.length (olist y) > 100) := by simp at h1; show (List.length y.2.1 > 100); omega
        simpa using this
      simp only [fewO, h1, Bool.true_or, Bool.not_not]
    · obtain ⟨_, rfl⟩ := List.getElem?_eq_some_iff.1 hy
      rw [List.drop_eq_getElem_cons hlt] at hinv
      have hv' : fewO d[i] = false := by simpa using hv
      simp only [fewD, ← hinv, List.all_cons, hv', Bool.false_and]
    · obtain ⟨_, rfl⟩ := List.getElem?_eq_some_iff.1 hy
      rw [List.drop_eq_getElem_cons hlt] at hinv
      have hv' : fewO d[i] = true := by simpa using hv
      simp only [List.all_cons, hv', Bool.true_and] at hinv
      exact hinv
  · have hge : ¬ i < List.length d := by simpa using hge
    have hie : i = List.length d := by omega
    rw [hie, List.drop_length] at hinv
    simp only [fewD, ← hinv]
    exact decide_eq_decide.2 (by omega)
theorem atO_none {d : List Obj} {id : Int} (h : (d.all fun o => !(oid o == id)) = true) : atO d id = -1 := by
  have : d.findIdx? (fun o => oid o == id) = none := List.findIdx?_eq_none_iff.2 (fun x hx => by simpa using List.all_eq_true.1 h x hx)
  rw [atO, this]
theorem atO_some {d : List Obj} {id : Int} {i : Nat} (h : ((d.take i).all fun o => !(oid o == id)) = true) {y : Obj} (hy : d[i]? = some y) (he : (oid y == id) = true) : atO d id = i := by
  obtain ⟨hi, rfl⟩ := List.getElem?_eq_some_iff.1 hy
  have : d.findIdx? (fun o => oid o == id) = some i := by
    rw [List.findIdx?_eq_some_iff_getElem]
    refine ⟨hi, he, fun j hj => ?_⟩
    have := List.all_eq_true.1 h d[j] (List.mem_take_iff_getElem.2 ⟨j, by omega, rfl⟩)
    simpa using this
  rw [atO, this]
theorem atO_ok : PSpecOk PP 11 (Q [.slice objT, i64] [i64] (fun _ => true) (fun x => (atO x.1 x.2.1, ()))) := by
  refine pspec_Q mixed (fn := Try.f11) (c := c11) rfl rfl _ _ rfl ?_
  rintro ⟨d, id, ⟨⟩⟩ - -
  refine ⟨eL (atOLoop d id), env_ok .., rfl, hold (atO_vc d id) ?_⟩
  simp only [true_and, and_true, Prod.eta, eq_self_iff_true, toNat_cast]
  intro hA
  refine ⟨0, ⟨Nat.zero_le _, by simp⟩, rfl, ?_⟩
  rintro i ⟨hi, hinv⟩
  refine ⟨fun hlt => ?_, fun hge => ?_⟩
  · have hlt : i < List.length d := by simpa using hlt
    refine ⟨⟨by omega, by omega⟩, fun y hy => ⟨fun he => (atO_some hinv hy he).symm, fun hne => ⟨i + 1, ⟨by omega, ?_⟩, by omega, wrap_succ hlt hA⟩⟩⟩
    rw [take_snoc hy, List.all_append, hinv]
    have : (oid y == id) = false := hne
    simp [this]
  · have hge : ¬ i < List.length d := by simpa using hge
    have hie : i = List.length d := by omega
    rw [hie, List.take_length] at hinv
    exact (atO_none hinv).symm
noncomputable def p20 : Pv PP := ⟨20, _, ⟨rfl, sameI_ok⟩⟩
noncomputable def p13 : Pv PP := ⟨13, _, ⟨rfl, inL_ok⟩⟩
noncomputable def p9 : Pv PP := ⟨9, _, ⟨rfl, fewD_ok⟩⟩
noncomputable def p11 : Pv PP := ⟨11, _, ⟨rfl, atO_ok⟩⟩
end Go.Proofs.Ytlnclaggmjhbfaa
namespace Go.Proofs.Ytlnclaggmjhbfaa
open Go.Proofs.Ytlnclaggmjhbfaa.Gx
set_option maxRecDepth 100000
set_option linter.unusedVariables false
set_option maxHeartbeats 0
theorem lives_vc : fvc PP (eP [p10, p20]) Try.f8 c8 (ofArgs [] ()) St0 (gives [.bool] (true, ())) = (
  smallD [(((1 : Int), (1 : Int), (0 : Int), (0 : Int), (0 : Int), (2 : Int), []), [(2 : Int), (3 : Int)], ByteArray.mk #[], [], ((0 : Int), []), ((0 : Int), (0 : Int)), (((0 : Int), (0 : Int), (0 : Int), (0 : Int), (0 : 
  Int), (0 : Int), (0 : Int), (0 : Int), (0 : Int), (0 : Int), (0 : Int), (0 : Int), (0 : Int), (0 : Int), (0 : Int), (0 : Int)), (0 : Int)), (0 : Int), (0 : Int), (0 : Int), (0 : Int), [], ByteArray.mk #[], ByteArray.mk 
  #[]), (((2 : Int), (2 : Int), (0 : Int), (0 : Int), (0 : Int), (2 : Int), []), [], ByteArray.mk #[], [], ((0 : Int), []), ((0 : Int), (0 : Int)), (((0 : Int), (0 : Int), (0 : Int), (0 : Int), (0 : Int), (0 : Int), (0 : 
  Int), (0 : Int), (0 : Int), (0 : Int), (0 : Int), (0 : Int), (0 : Int), (0 : Int), (0 : Int), (0 : Int)), (0 : Int)), (0 : Int), (0 : Int), (0 : Int), (0 : Int), [], ByteArray.mk #[], ByteArray.mk #[]), (((3 : Int), (2 
  : Int), (0 : Int), (0 : Int), (0 : Int), (2 : Int), [((20 : Int), (4 : Int))]), [], ByteArray.mk #[], [], ((0 : Int), []), ((0 : Int), (0 : Int)), (((0 : Int), (0 : Int), (0 : Int), (0 : Int), (0 : Int), (0 : Int), (0 
  : Int), (0 : Int), (0 : Int), (0 : Int), (0 : Int), (0 : Int), (0 : Int), (0 : Int), (0 : Int), (0 : Int)), (0 : Int)), (0 : Int), (0 : Int), (0 : Int), (0 : Int), [], ByteArray.mk #[], ByteArray.mk #[])] = true ∧ true 
  = true ∧ (sameI (visL [(((1 : Int), (1 : Int), (0 : Int), (0 : Int), (0 : Int), (2 : Int), []), [(2 : Int), (3 : Int)], ByteArray.mk #[], [], ((0 : Int), []), ((0 : Int), (0 : Int)), (((0 : Int), (0 : Int), (0 : Int), 
  (0 : Int), (0 : Int), (0 : Int), (0 : Int), (0 : Int), (0 : Int), (0 : Int), (0 : Int), (0 : Int), (0 : Int), (0 : Int), (0 : Int), (0 : Int)), (0 : Int)), (0 : Int), (0 : Int), (0 : Int), (0 : Int), [], ByteArray.mk 
  #[], ByteArray.mk #[]), (((2 : Int), (2 : Int), (0 : Int), (0 : Int), (0 : Int), (2 : Int), []), [], ByteArray.mk #[], [], ((0 : Int), []), ((0 : Int), (0 : Int)), (((0 : Int), (0 : Int), (0 : Int), (0 : Int), (0 : 
  Int), (0 : Int), (0 : Int), (0 : Int), (0 : Int), (0 : Int), (0 : Int), (0 : Int), (0 : Int), (0 : Int), (0 : Int), (0 : Int)), (0 : Int)), (0 : Int), (0 : Int), (0 : Int), (0 : Int), [], ByteArray.mk #[], ByteArray.mk 
  #[]), (((3 : Int), (2 : Int), (0 : Int), (0 : Int), (0 : Int), (2 : Int), [((20 : Int), (4 : Int))]), [], ByteArray.mk #[], [], ((0 : Int), []), ((0 : Int), (0 : Int)), (((0 : Int), (0 : Int), (0 : Int), (0 : Int), (0 
  : Int), (0 : Int), (0 : Int), (0 : Int), (0 : Int), (0 : Int), (0 : Int), (0 : Int), (0 : Int), (0 : Int), (0 : Int), (0 : Int)), (0 : Int)), (0 : Int), (0 : Int), (0 : Int), (0 : Int), [], ByteArray.mk #[], 
  ByteArray.mk #[])] (1 : Int) ((2 : Int), [])) [(1 : Int), (2 : Int)] = true → smallD [(((1 : Int), (1 : Int), (0 : Int), (0 : Int), (0 : Int), (2 : Int), []), [(2 : Int), (3 : Int)], ByteArray.mk #[], [], ((0 : Int), 
  []), ((0 : Int), (0 : Int)), (((0 : Int), (0 : Int), (0 : Int), (0 : Int), (0 : Int), (0 : Int), (0 : Int), (0 : Int), (0 : Int), (0 : Int), (0 : Int), (0 : Int), (0 : Int), (0 : Int), (0 : Int), (0 : Int)), (0 : 
  Int)), (0 : Int), (0 : Int), (0 : Int), (0 : Int), [], ByteArray.mk #[], ByteArray.mk #[]), (((2 : Int), (2 : Int), (0 : Int), (0 : Int), (0 : Int), (2 : Int), []), [], ByteArray.mk #[], [], ((0 : Int), []), ((0 : 
  Int), (0 : Int)), (((0 : Int), (0 : Int), (0 : Int), (0 : Int), (0 : Int), (0 : Int), (0 : Int), (0 : Int), (0 : Int), (0 : Int), (0 : Int), (0 : Int), (0 : Int), (0 : Int), (0 : Int), (0 : Int)), (0 : Int)), (0 : 
  Int), (0 : Int), (0 : Int), (0 : Int), [], ByteArray.mk #[], ByteArray.mk #[]), (((3 : Int), (2 : Int), (0 : Int), (0 : Int), (0 : Int), (2 : Int), [((20 : Int), (4 : Int))]), [], ByteArray.mk #[], [], ((0 : Int), []), 
  ((0 : Int), (0 : Int)), (((0 : Int), (0 : Int), (0 : Int), (0 : Int), (0 : Int), (0 : Int), (0 : Int), (0 : Int), (0 : Int), (0 : Int), (0 : Int), (0 : Int), (0 : Int), (0 : Int), (0 : Int), (0 : Int)), (0 : Int)), (0 
  : Int), (0 : Int), (0 : Int), (0 : Int), [], ByteArray.mk #[], ByteArray.mk #[])] = true ∧ true = true ∧ sameI (visL [(((1 : Int), (1 : Int), (0 : Int), (0 : Int), (0 : Int), (2 : Int), []), [(2 : Int), (3 : Int)], 
  ByteArray.mk #[], [], ((0 : Int), []), ((0 : Int), (0 : Int)), (((0 : Int), (0 : Int), (0 : Int), (0 : Int), (0 : Int), (0 : Int), (0 : Int), (0 : Int), (0 : Int), (0 : Int), (0 : Int), (0 : Int), (0 : Int), (0 : Int), 
  (0 : Int), (0 : Int)), (0 : Int)), (0 : Int), (0 : Int), (0 : Int), (0 : Int), [], ByteArray.mk #[], ByteArray.mk #[]), (((2 : Int), (2 : Int), (0 : Int), (0 : Int), (0 : Int), (2 : Int), []), [], ByteArray.mk #[], [], 
  ((0 : Int), []), ((0 : Int), (0 : Int)), (((0 : Int), (0 : Int), (0 : Int), (0 : Int), (0 : Int), (0 : Int), (0 : Int), (0 : Int), (0 : Int), (0 : Int), (0 : Int), (0 : Int), (0 : Int), (0 : Int), (0 : Int), (0 : 
  Int)), (0 : Int)), (0 : Int), (0 : Int), (0 : Int), (0 : Int), [], ByteArray.mk #[], ByteArray.mk #[]), (((3 : Int), (2 : Int), (0 : Int), (0 : Int), (0 : Int), (2 : Int), [((20 : Int), (4 : Int))]), [], ByteArray.mk 
  #[], [], ((0 : Int), []), ((0 : Int), (0 : Int)), (((0 : Int), (0 : Int), (0 : Int), (0 : Int), (0 : Int), (0 : Int), (0 : Int), (0 : Int), (0 : Int), (0 : Int), (0 : Int), (0 : Int), (0 : Int), (0 : Int), (0 : Int), 
  (0 : Int)), (0 : Int)), (0 : Int), (0 : Int), (0 : Int), (0 : Int), [], ByteArray.mk #[], ByteArray.mk #[])] (1 : Int) ((4 : Int), [])) [(1 : Int), (2 : Int), (3 : Int)] = true ∧ True) ∧ (sameI (visL [(((1 : Int), (1 : 
  Int), (0 : Int), (0 : Int), (0 : Int), (2 : Int), []), [(2 : Int), (3 : Int)], ByteArray.mk #[], [], ((0 : Int), []), ((0 : Int), (0 : Int)), (((0 : Int), (0 : Int), (0 : Int), (0 : Int), (0 : Int), (0 : Int), (0 : 
  Int), (0 : Int), (0 : Int), (0 : Int), (0 : Int), (0 : Int), (0 : Int), (0 : Int), (0 : Int), (0 : Int)), (0 : Int)), (0 : Int), (0 : Int), (0 : Int), (0 : Int), [], ByteArray.mk #[], ByteArray.mk #[]), (((2 : Int), (2 
  : Int), (0 : Int), (0 : Int), (0 : Int), (2 : Int), []), [], ByteArray.mk #[], [], ((0 : Int), []), ((0 : Int), (0 : Int)), (((0 : Int), (0 : Int), (0 : Int), (0 : Int), (0 : Int), (0 : Int), (0 : Int), (0 : Int), (0 : 
  Int), (0 : Int), (0 : Int), (0 : Int), (0 : Int), (0 : Int), (0 : Int), (0 : Int)), (0 : Int)), (0 : Int), (0 : Int), (0 : Int), (0 : Int), [], ByteArray.mk #[], ByteArray.mk #[]), (((3 : Int), (2 : Int), (0 : Int), (0 
  : Int), (0 : Int), (2 : Int), [((20 : Int), (4 : Int))]), [], ByteArray.mk #[], [], ((0 : Int), []), ((0 : Int), (0 : Int)), (((0 : Int), (0 : Int), (0 : Int), (0 : Int), (0 : Int), (0 : Int), (0 : Int), (0 : Int), (0 
  : Int), (0 : Int), (0 : Int), (0 : Int), (0 : Int), (0 : Int), (0 : Int), (0 : Int)), (0 : Int)), (0 : Int), (0 : Int), (0 : Int), (0 : Int), [], ByteArray.mk #[], ByteArray.mk #[])] (1 : Int) ((2 : Int), [])) [(1 : 
  Int), (2 : Int)] = !true → false = true ∧ True)) := by kernel_rfl
def partsLoop (d : List Obj) (root : Int) (seen : List Int) : List (Nat × (St → Option LoopSpec)) :=
  [(8, fun (S : St) => match getT S.fr.tm 8 with
      | .row r => some { α := Nat, inv := fun i => i ≤ seen.length ∧ True, ov := fun i => [(31, .int .i64 (i : Int)), (8, .row r)], rov := fun i => [(r, .row 0 i64 (entr d root (seen.take i)))], meas := fun i => seen.length - i }
      | _ => none),
   (18, fun _ => some { α := Nat, inv := fun i => i ≤ seen.length ∧ True, ov := fun i => [(64, .int .i64 (i : Int))], rov := fun _ => [], meas := fun i => seen.length - i, fz := [.slot 8] }),
   (26, fun _ => some { α := Nat, inv := fun i => i ≤ (entr d root seen).length ∧ True, ov := fun i => [(81, .int .i64 (i : Int))], rov := fun _ => [], meas := fun i => (entr d root seen).length - i })]
end Go.Proofs.Ytlnclaggmjhbfaa
namespace Go.Proofs.Ytlnclaggmjhbfaa
open Go.Proofs.Ytlnclaggmjhbfaa.Gx
set_option maxRecDepth 100000
set_option maxHeartbeats 4000000
set_option linter.unusedSimpArgs false
set_option linter.unusedVariables false
def exO (id k : Int) (l : Lab) (li : List Int) : Obj :=
  ((id, k, 0, 0, 0, l), li, ByteArray.mk #[], [], (0, []), (0, 0), ((0, 0, 0, 0, 0, 0, 0, 0, 0, 0, 0, 0, 0, 0, 0, 0), 0), 0, 0, 0, 0, [], ByteArray.mk #[], ByteArray.mk #[])
def exD : List Obj := [exO 1 1 (2, []) [2, 3], exO 2 2 (2, []) [], exO 3 2 (2, [(20, 4)]) []]
theorem first1 : first exD 1 = some (exO 1 1 (2, []) [2, 3]) := by kernel_rfl
theorem first2 : first exD 2 = some (exO 2 2 (2, []) []) := by kernel_rfl
theorem first3 : first exD 3 = some (exO 3 2 (2, [(20, 4)]) []) := by kernel_rfl
theorem ex_vis {l : Lab} (h1 : okO l (exO 1 1 (2, []) [2, 3]) = true) (h2 : okO l (exO 2 2 (2, []) []) = true) (id : Int) : Vis exD 1 l id ↔ id = 1 ∨ id = 2 ∨ (id = 3 ∧ okO l (exO 3 2 (2, [(20, 4)]) []) = true) := by
  constructor
  · intro hv
    induction hv with
    | root o _ _ => exact .inl rfl
    | step id o x o' hv g1 hk hx g3 g4 ih =>
      rcases ih with rfl | rfl | ⟨rfl, _⟩
      · rw [first1] at g1; cases g1
        have hx : x ∈ ([2, 3] : List Int) := hx
        simp only [List.mem_cons, List.not_mem_nil, or_false] at hx
        rcases hx with rfl | rfl
        · exact .inr (.inl rfl)
        · rw [first3] at g3; cases g3
          exact .inr (.inr ⟨rfl, g4⟩)
      · rw [first2] at g1; cases g1
        exact absurd hk (by decide)
      · rw [first3] at g1; cases g1
        exact absurd hk (by decide)
  · have hr : Vis exD 1 l 1 := .root _ first1 h1
    rintro (rfl | rfl | ⟨rfl, h3⟩)
    · exact hr
    · exact .step 1 _ 2 _ hr first1 rfl (by show (2 : Int) ∈ ([2, 3] : List Int); simp) first2 h2
    · exact .step 1 _ 3 _ hr first1 rfl (by show (3 : Int) ∈ ([2, 3] : List Int); simp) first3 h3
theorem vis_one : visL exD 1 (2, []) = [1, 2] := by
  refine visL_eq ⟨by decide, fun h => absurd h (by decide), fun _ id => ?_⟩
  rw [ex_vis (by decide) (by decide)]
  have : okO (2, []) (exO 3 2 (2, [(20, 4)]) []) = false := by decide
  simp [this]
theorem vis_three : visL exD 1 (4, []) = [1, 2, 3] := by
  refine visL_eq ⟨by decide, fun h => absurd h (by decide), fun _ id => ?_⟩
  rw [ex_vis (by decide) (by decide)]
  have : okO (4, []) (exO 3 2 (2, [(20, 4)]) []) = true := by decide
  simp [this]
theorem lives_ok : PSpecOk PP 8 (Q [] [.bool] (fun _ => true) (fun _ => (true, ()))) := by
  refine pspec_Q mixed (fn := Try.f8) (c := c8) rfl rfl _ _ rfl ?_
  rintro ⟨⟩ - -
  refine ⟨eP [p10, p20], env_ok .., rfl, hold lives_vc ?_⟩
  have e1 : sameI (visL exD 1 (2, [])) [1, 2] = true := by rw [vis_one]; rfl
  have e2 : sameI (visL exD 1 (4, [])) [1, 2, 3] = true := by rw [vis_three]; rfl
  have e0 : smallD exD = true := by decide
  simp only [true_and, and_true, eq_self_iff_true]
  exact ⟨e0, fun _ => ⟨e0, e2⟩, fun h => absurd (h.symm.trans e1) (by simp)⟩
noncomputable def p8 : Pv PP := ⟨8, _, ⟨rfl, lives_ok⟩⟩
end Go.Proofs.Ytlnclaggmjhbfaa
