/- Bytes of labels, read and written, and the law about them; no condition. -/
import Derived.Test.YtblhojadchbcnaaDoorLc4
namespace Go.Proofs.YtblhojadchbcnaaDoor
open Go.Proofs.YtblhojadchbcnaaDoor.Gx
set_option linter.unusedSimpArgs false
set_option linter.unusedVariables false
set_option maxRecDepth 10000
def byteAt (s : ByteArray) (i : Nat) : Int := (((s[i]?).getD 0).toNat : Int)
def catF (s : ByteArray) (a : Nat) : Nat → Int
  | 0 => 0
  | i + 1 => bitv .or .i64 (catF s a i) (shiftv .shl .i64 (IntKind.i64.wrap (byteAt s (a + i))) (8 * (i : Int)))
def entsR (s : ByteArray) (k : Nat) : List (Int × Int) := (List.range k).map fun i => (catF s (2 + 9 * i) 8, IntKind.i64.wrap (byteAt s (2 + 9 * i + 8)))
def cntF (s : ByteArray) : Nat := (s.size - 2) / 9
def rawL (s : ByteArray) : Lab := (IntKind.i64.wrap (byteAt s 0), entsR s (cntF s))
def formB (s : ByteArray) : Bool := decide (2 ≤ s.size) && decide ((s.size : Int) = 2 + 9 * byteAt s 1)
def readL (s : ByteArray) : Lab × Int := bif formB s && rightL (rawL s) then (rawL s, 0) else ((0, []), 2)
theorem byteAt_of {s : ByteArray} {i : Nat} {b : UInt8} (h : s[i]? = some b) : byteAt s i = b.toNat := by simp [byteAt, h]
theorem byteAt_nn (s : ByteArray) (i : Nat) : 0 ≤ byteAt s i := by simp only [byteAt]; exact Int.natCast_nonneg _
theorem byteAt_lt (s : ByteArray) (i : Nat) : byteAt s i < 256 := by
  simp only [byteAt]
  have := (s[i]?.getD 0).toNat_lt
  omega
theorem wrap_byte (s : ByteArray) (i : Nat) : IntKind.i64.wrap (byteAt s i) = byteAt s i := wrap64 (by have := byteAt_nn s i; omega) (by have := byteAt_lt s i; omega)
/-- The number that some bytes are. -/
def numF (s : ByteArray) (a : Nat) : Nat → Nat
  | 0 => 0
  | i + 1 => numF s a i + (byteAt s (a + i)).toNat * 2 ^ (8 * i)
theorem numF_lt (s : ByteArray) (a : Nat) : (i : Nat) → numF s a i < 2 ^ (8 * i)
  | 0 => by simp [numF]
  | i + 1 => by
    have h1 := numF_lt s a i
    have h2 : (byteAt s (a + i)).toNat ≤ 255 := by have := byteAt_lt s (a + i); have := byteAt_nn s (a + i); omega
    simp only [numF]
    have h3 : (byteAt s (a + i)).toNat * 2 ^ (8 * i) ≤ 255 * 2 ^ (8 * i) := Nat.mul_le_mul_right _ h2
    have h4 : 2 ^ (8 * (i + 1)) = 256 * 2 ^ (8 * i) := by rw [show 8 * (i + 1) = 8 * i + 8 by omega, Nat.pow_add]; omega
    omega
theorem wrap_ite (n : Int) : IntKind.i64.wrap n = if n % 18446744073709551616 ≥ 9223372036854775808 then n % 18446744073709551616 - 18446744073709551616 else n % 18446744073709551616 := by
  simp [IntKind.wrap, IntKind.bits, IntKind.signed]
theorem wrap_mod (n : Nat) (h : n < 2 ^ 64) : BitVec.ofInt 64 (IntKind.i64.wrap n) = BitVec.ofNat 64 n := by
  apply BitVec.eq_of_toInt_eq
  rw [BitVec.toInt_ofInt, BitVec.toInt_eq_toNat_bmod, BitVec.toNat_ofNat, Nat.mod_eq_of_lt h]
  rw [wrap_ite]
  split <;> (simp only [Int.bmod_def]; omega)
theorem or_add {x y i : Nat} (h : x < 2 ^ i) : x ||| y * 2 ^ i = x + y * 2 ^ i := by
  rw [Nat.or_comm, ← Nat.shiftLeft_eq, ← Nat.shiftLeft_add_eq_or_of_lt h, Nat.add_comm]
theorem catF_num (s : ByteArray) (a : Nat) : (i : Nat) → i ≤ 8 → catF s a i = IntKind.i64.wrap (numF s a i)
  | 0, _ => by simp [catF, numF, IntKind.wrap, IntKind.bits, IntKind.signed]
  | i + 1, h => by
    have ih := catF_num s a i (by omega)
    have h1 := numF_lt s a i
    have h0 := numF_lt s a (i + 1)
    have hp : 2 ^ (8 * i) ≤ 2 ^ 64 := Nat.pow_le_pow_right (by omega) (by omega)
    have hp' : 2 ^ (8 * (i + 1)) ≤ 2 ^ 64 := Nat.pow_le_pow_right (by omega) (by omega)
    have hm : min (8 * (i : Int)).toNat IntKind.i64.bits = 8 * i := by simp only [IntKind.bits]; omega
    simp only [catF, numF, ih, wrap_byte, bitv, shiftv, hm]
    have hn := byteAt_nn s (a + i)
    have e1 : byteAt s (a + i) * 2 ^ (8 * i) = (((byteAt s (a + i)).toNat * 2 ^ (8 * i) : Nat) : Int) := by
      rw [Int.natCast_mul, Int.toNat_of_nonneg hn]; simp
    have h2 : (byteAt s (a + i)).toNat * 2 ^ (8 * i) < 2 ^ 64 := by
      simp only [numF] at h0; omega
    rw [e1]
    show IntKind.i64.wrap (((BitVec.ofInt 64 _ ||| BitVec.ofInt 64 _).toNat : Nat) : Int) = _
    rw [wrap_mod _ (by omega), wrap_mod _ h2, BitVec.toNat_or, BitVec.toNat_ofNat, BitVec.toNat_ofNat, Nat.mod_eq_of_lt (by omega), Nat.mod_eq_of_lt h2, or_add h1]
theorem numF_digit (s : ByteArray) (a : Nat) : (i j : Nat) → j < i → numF s a i / 2 ^ (8 * j) % 256 = (byteAt s (a + j)).toNat
  | 0, j, h => by omega
  | i + 1, j, h => by
    have hb : (byteAt s (a + i)).toNat ≤ 255 := by have := byteAt_lt s (a + i); have := byteAt_nn s (a + i); omega
    simp only [numF]
    rcases Nat.lt_or_ge j i with hj | hj
    · have e : 2 ^ (8 * i) = 2 ^ (8 * j) * (256 * 2 ^ (8 * (i - j - 1))) := by
        rw [show (256 : Nat) = 2 ^ 8 from rfl, ← Nat.pow_add, ← Nat.pow_add]; congr 1; omega
      rw [e, show (byteAt s (a + i)).toNat * (2 ^ (8 * j) * (256 * 2 ^ (8 * (i - j - 1)))) = 2 ^ (8 * j) * (256 * ((byteAt s (a + i)).toNat * 2 ^ (8 * (i - j - 1)))) by
        simp only [Nat.mul_left_comm, Nat.mul_assoc, Nat.mul_comm], Nat.add_mul_div_left _ _ (Nat.two_pow_pos _), Nat.add_mul_mod_self_left]
      exact numF_digit s a i j hj
    · obtain rfl : j = i := by omega
      rw [Nat.add_mul_div_right _ _ (Nat.two_pow_pos _), Nat.div_eq_of_lt (numF_lt s a j), Nat.zero_add, Nat.mod_eq_of_lt (by omega)]
/-- A number that has these bytes is that number. -/
theorem numF_of (s : ByteArray) (a c : Nat) : (i : Nat) → (∀ j, j < i → (byteAt s (a + j)).toNat = c / 2 ^ (8 * j) % 256) → numF s a i = c % 2 ^ (8 * i)
  | 0, _ => by simp [numF, Nat.mod_one]
  | i + 1, h => by
    simp only [numF]
    rw [numF_of s a c i (fun j hj => h j (by omega)), h i (by omega)]
    rw [show 8 * (i + 1) = 8 * i + 8 by omega, Nat.pow_add, Nat.mod_mul, Nat.mul_comm (2 ^ (8 * i))]
theorem u8_wrap (n : Int) : IntKind.u8.wrap n = n % 256 := by simp [IntKind.wrap, IntKind.bits, IntKind.signed]
theorem byteN_eq (n : Int) : byteN n = n % 256 := u8_wrap n
theorem fdiv_nat (c j : Nat) : (c : Int).fdiv (2 ^ j) = ((c / 2 ^ j : Nat) : Int) := by
  rw [Int.fdiv_eq_ediv_of_nonneg _ (by exact Int.le_of_lt (Int.pow_pos (by omega)))]
  simp
theorem flat_get {α : Type} (f : α → List Int) (n : Nat) (hf : ∀ x, (f x).length = n) : (l : List α) → (i j : Nat) → (x : α) → j < n → l[i]? = some x → (l.flatMap f)[n * i + j]? = (f x)[j]?
  | [], i, j, x, _, h => by simp at h
  | y :: l, 0, j, x, hj, h => by
    simp at h; subst h
    rw [List.flatMap_cons, Nat.mul_zero, Nat.zero_add, List.getElem?_append_left (by rw [hf]; exact hj)]
  | y :: l, i + 1, j, x, hj, h => by
    rw [List.flatMap_cons, List.getElem?_append_right (by rw [hf, Nat.mul_succ]; omega), hf]
    rw [show n * (i + 1) + j - n = n * i + j by rw [Nat.mul_succ]; omega]
    exact flat_get f n hf l i j x hj (by simpa using h)
theorem bytesR_0 (d : Int) (n : Nat) (l : List (Int × Int)) : (bytesR d n l)[0]? = some (byteN d) := by simp [bytesR]
theorem bytesR_1 (d : Int) (n : Nat) (l : List (Int × Int)) : (bytesR d n l)[1]? = some (byteN n) := by simp [bytesR]
theorem bytesR_c (d : Int) (n : Nat) {l : List (Int × Int)} {i j : Nat} {x : Int × Int} (hj : j < 9) (h : l[i]? = some x) : (bytesR d n l)[2 + 9 * i + j]? = (entB x)[j]? := by
  have := flat_get entB 9 (fun x => by simp [entB, catB8_len]) l i j x hj h
  simp only [bytesR]
  rw [List.getElem?_append_right (by simp; omega)]
  rw [show 2 + 9 * i + j - [byteN d, byteN n].length = 9 * i + j by simp; omega]
  exact this
theorem entB_c (x : Int × Int) {j : Nat} (h : j < 8) : (entB x)[j]? = some (byteN (x.1.fdiv (2 ^ (8 * j)))) := by
  simp only [entB, catB8]
  rw [List.getElem?_append_left (by simpa using h)]
  simp [h]
theorem entB_8 (x : Int × Int) : (entB x)[8]? = some (byteN x.2) := by
  simp only [entB]
  rw [List.getElem?_append_right (by simp [catB8_len])]
  simp [catB8_len]
theorem byteAt_nums {R : List Int} {i : Nat} {n : Int} (h : R[i]? = some n) (h0 : 0 ≤ n) (h1 : n < 256) : byteAt (strOfNums R) i = n := by
  have hlt : i < R.length := get_of_lt h
  have hsz : i < (strOfNums R).size := by rw [strOfNums_size]; exact hlt
  have : (strOfNums R)[i]? = some (UInt8.ofNat n.toNat) := by
    rw [getElem?_pos (strOfNums R) i hsz]
    congr 1
    show (strOfNums R).data[i] = _
    simp only [strOfNums, List.getElem_toArray, List.getElem_map]
    rw [List.getElem?_eq_some_iff] at h
    obtain ⟨_, e⟩ := h
    rw [e]
  rw [byteAt_of this]
  simp
  omega
theorem byteN_nn (n : Int) : 0 ≤ byteN n := by rw [byteN_eq]; omega
theorem byteN_lt (n : Int) : byteN n < 256 := by rw [byteN_eq]; omega
theorem catB_iff {n : Int} : catB n = true ↔ 1 ≤ n ∧ n ≤ maxId := by simp [catB]
theorem read_bytes {l : Lab} (h : rightL l = true) : readL (bytesL l) = (l, 0) := by
  have hlen := right_len h
  have hd := right_def h
  have hsz : (bytesL l).size = 2 + l.2.length * 9 := by rw [bytesL, strOfNums_size, bytesR_len]
  have b1 : byteAt (bytesL l) 1 = l.2.length := by
    rw [bytesL, byteAt_nums (bytesR_1 _ _ _) (byteN_nn _) (byteN_lt _), byteN_eq]; omega
  have b0 : byteAt (bytesL l) 0 = l.1 := by
    rw [bytesL, byteAt_nums (bytesR_0 _ _ _) (byteN_nn _) (byteN_lt _), byteN_eq]; omega
  have hf : formB (bytesL l) = true := by
    simp only [formB, hsz, b1, Bool.and_eq_true, decide_eq_true_eq]; omega
  have hc : cntF (bytesL l) = l.2.length := by simp only [cntF, hsz]; omega
  have hr : rawL (bytesL l) = l := by
    refine Prod.ext ?_ ?_
    · show IntKind.i64.wrap (byteAt (bytesL l) 0) = l.1
      rw [wrap_byte, b0]
    · show entsR (bytesL l) (cntF (bytesL l)) = l.2
      rw [hc]
      refine List.ext_getElem? fun i => ?_
      simp only [entsR, List.getElem?_map]
      rcases Nat.lt_or_ge i l.2.length with hi | hi
      · have hx : l.2[i]? = some l.2[i] := List.getElem?_eq_getElem hi
        generalize l.2[i] = x at hx
        have hxm := right_mem h x (List.mem_of_getElem? hx)
        have hx2 := levelB_iff.1 hxm.1
        have hx1 := catB_iff.1 hxm.2.1
        have hmax : maxId < 2 ^ 63 := by decide
        rw [List.getElem?_range hi, hx]
        simp only [Option.map_some, Option.some.injEq]
        obtain ⟨c, hcc⟩ := Int.eq_ofNat_of_zero_le (show 0 ≤ x.1 by omega)
        refine Prod.ext ?_ ?_
        · show catF _ _ 8 = x.1
          rw [catF_num _ _ 8 (Nat.le_refl _), numF_of _ _ c 8, Nat.mod_eq_of_lt, hcc, wrap64]
          · omega
          · omega
          · omega
          · intro j hj
            rw [bytesL, byteAt_nums (R := bytesR l.1 l.2.length l.2) (n := byteN (x.1.fdiv (2 ^ (8 * j)))) (by rw [bytesR_c _ _ (by omega) hx, entB_c x hj]) (byteN_nn _) (byteN_lt _), byteN_eq, hcc]
            rw [fdiv_nat]; omega
        · show IntKind.i64.wrap (byteAt _ _) = x.2
          rw [wrap_byte, bytesL, byteAt_nums (R := bytesR l.1 l.2.length l.2) (n := byteN x.2) (by rw [bytesR_c _ _ (by omega) hx, entB_8]) (byteN_nn _) (byteN_lt _), byteN_eq]
          omega
      · rw [List.getElem?_eq_none hi, List.getElem?_eq_none (by simpa using hi)]; rfl
  simp only [readL, hf, hr, h, Bool.and_self, cond_true]
theorem byteAt_get {s : ByteArray} {i : Nat} (h : i < s.size) : s.data.toList[i]? = some (UInt8.ofNat (byteAt s i).toNat) := by
  rw [byteAt_of (b := s[i]) (getElem?_pos s i h)]
  have : s.data.toList[i]? = some s.data[i] := by rw [Array.getElem?_toList, getElem?_pos]
  rw [this]
  simp
  rfl
theorem wrap_pos {n : Nat} (h : n < 2 ^ (8 * 8)) (h1 : 1 ≤ IntKind.i64.wrap n) : IntKind.i64.wrap n = n := by
  have h' : n < 18446744073709551616 := h
  rw [wrap_ite] at h1 ⊢
  split at h1
  · omega
  · rename_i hh; rw [if_neg hh]; omega
theorem bytes_read {s : ByteArray} (h : (readL s).2 = 0) : rightL (readL s).1 = true ∧ bytesL (readL s).1 = s := by
  unfold readL at h ⊢
  cases hfr : formB s && rightL (rawL s) with
  | false => rw [hfr] at h; simp at h
  | true =>
    rw [Bool.and_eq_true] at hfr
    obtain ⟨hf, hr⟩ := hfr
    simp only [cond_true]
    refine ⟨hr, ?_⟩
    simp only [formB, Bool.and_eq_true, decide_eq_true_eq] at hf
    have g1 := byteAt_nn s 1; have g2 := byteAt_lt s 1
    have hn : (cntF s : Int) = byteAt s 1 := by simp only [cntF]; omega
    have hsz : s.size = 2 + 9 * cntF s := by omega
    have hlen : (entsR s (cntF s)).length = cntF s := by simp [entsR]
    have key : s.data.toList = (bytesR (rawL s).1 (rawL s).2.length (rawL s).2).map fun n => UInt8.ofNat n.toNat := by
      have hl2 : (rawL s).2.length = cntF s := hlen
      refine List.ext_getElem? fun i => ?_
      rw [List.getElem?_map]
      rcases Nat.lt_or_ge i s.size with hi | hi
      · rw [byteAt_get hi]
        have hby : ∀ n, (bytesR (rawL s).1 (rawL s).2.length (rawL s).2)[i]? = some n → n = byteAt s i → some (UInt8.ofNat (byteAt s i).toNat) = Option.map (fun n => UInt8.ofNat n.toNat) (bytesR (rawL s).1 (rawL s).2.length (rawL s).2)[i]? := by
          intro n h1 h2; rw [h1, h2]; rfl
        have bm := byteAt_lt s i; have bn := byteAt_nn s i
        rcases (show i = 0 ∨ i = 1 ∨ 2 ≤ i by omega) with rfl | rfl | h2
        · refine hby _ (bytesR_0 _ _ _) ?_
          show byteN (IntKind.i64.wrap (byteAt s 0)) = _
          rw [wrap_byte, byteN_eq]; omega
        · refine hby _ (bytesR_1 _ _ _) ?_
          rw [byteN_eq, hl2]; omega
        · obtain ⟨k, j, hj, rfl⟩ : ∃ k j, j < 9 ∧ i = 2 + 9 * k + j := ⟨(i - 2) / 9, (i - 2) % 9, Nat.mod_lt _ (by omega), by omega⟩
          have hk : k < cntF s := by omega
          have hx : (rawL s).2[k]? = some (catF s (2 + 9 * k) 8, IntKind.i64.wrap (byteAt s (2 + 9 * k + 8))) := by
            show (entsR s (cntF s))[k]? = _
            simp only [entsR, List.getElem?_map, List.getElem?_range hk, Option.map_some]
          have hxm := right_mem hr _ (List.mem_of_getElem? hx)
          have hx1 := catB_iff.1 hxm.2.1
          rcases Nat.lt_or_ge j 8 with hj8 | hj8
          · refine hby _ (by rw [bytesR_c _ _ hj hx, entB_c _ hj8]) ?_
            show byteN ((catF s (2 + 9 * k) 8).fdiv (2 ^ (8 * j))) = _
            have hnum : catF s (2 + 9 * k) 8 = (numF s (2 + 9 * k) 8 : Int) := by
              have hc := catF_num s (2 + 9 * k) 8 (Nat.le_refl _)
              have hlt := numF_lt s (2 + 9 * k) 8
              simp only at hx1
              rw [hc] at hx1 ⊢
              exact wrap_pos hlt hx1.1
            rw [hnum, fdiv_nat, byteN_eq]
            have := numF_digit s (2 + 9 * k) 8 j hj8
            omega
          · obtain rfl : j = 8 := by omega
            refine hby _ (by rw [bytesR_c _ _ hj hx, entB_8]) ?_
            show byteN (IntKind.i64.wrap (byteAt s (2 + 9 * k + 8))) = _
            rw [wrap_byte, byteN_eq]; omega
      · rw [List.getElem?_eq_none (show s.data.toList.length ≤ i from hi), List.getElem?_eq_none (by rw [bytesR_len, hl2]; omega)]
        rfl
    simp only [bytesL, strOfNums]
    rw [← key]
theorem read_short {s : ByteArray} (h1 : s.size = 2) (h2 : byteAt s 1 = 0) (h3 : byteAt s 0 ≤ 5) : (readL s).2 = 0 := by
  have hf : formB s = true := by simp only [formB, h1, h2, Bool.and_eq_true, decide_eq_true_eq]; omega
  have hc : cntF s = 0 := by simp only [cntF, h1]
  have hr : rightL (rawL s) = true := by
    have := byteAt_nn s 0
    have e : rawL s = (byteAt s 0, []) := by simp only [rawL, hc, wrap_byte, entsR, List.range_zero, List.map_nil]
    rw [e]
    simp only [rightL, Bool.and_eq_true, levelB_iff, rowsR, decide_eq_true_eq, List.length_nil]
    exact ⟨⟨this, h3⟩, by omega, trivial⟩
  simp only [readL, hf, hr, Bool.and_self, cond_true]
theorem read_bad {s : ByteArray} (h : (readL s).2 ≠ 0) : (readL s) = ((0, []), 2) := by
  simp only [readL] at h ⊢
  cases hfr : formB s && rightL (rawL s) with
  | false => rfl
  | true => rw [hfr] at h; simp at h
end Go.Proofs.YtblhojadchbcnaaDoor
namespace Go.Proofs.YtblhojadchbcnaaDoor
open Go.Proofs.YtblhojadchbcnaaDoor.Gx
set_option maxRecDepth 100000
set_option maxHeartbeats 0
noncomputable def c33 : Code := Tryd.f33.body.getD .skip
noncomputable def c34 : Code := Tryd.f34.body.getD .skip
noncomputable def c9 : Code := Tryd.f9.body.getD .skip
def readLoop (s : ByteArray) : List (Nat × (St → Option LoopSpec)) :=
  [(5, fun (S : St) => match getT S.fr.tm 4 with
      | .ptr q _ => some { α := Nat, inv := fun k => k ≤ cntF s ∧ True, ov := fun k => [(5, .int .i64 ((2 + 9 * k : Nat) : Int))], rov := fun k => [(q, .blk 0 [.int .i64 (IntKind.i64.wrap (byteAt s 0)), .row S.res.length]), (S.res.length, .row 0 ent (entsR s k))], meas := fun k => cntF s - k, nil := [(.cell q 1, 25, ent)] }
      | _ => none),
   (9, fun (S : St) => match getT S.fr.tm 5 with
      | .int _ a => some { α := Nat, inv := fun i => i ≤ 8 ∧ True, ov := fun i => [(32, .int .i64 (i : Int)), (6, .int .i64 (catF s a.toNat i))], rov := fun _ => [], meas := fun i => 8 - i }
      | _ => none)]
theorem read_vc (s : ByteArray) : fvc PP (env PP [p39] [] [] [] (readLoop s)) Tryd.f33 c33 (ofArgs [.str] (s, ())) St0 (gives [lab, i64] ((readL s).1, (readL s).2, ())) = (
  ∃ (v : Bool), (s.size ≤ maxLen → (decide ((↑s.size : Int) < (2 : Int)) = false → s.size ≤ maxLen → ((0 : Int) ≤ (1 : Int) ∧ (1 : Int) < (↑s.size : Int)) ∧ ∀ (b : UInt8), s[(1 : Nat)]? = some b → ((↑s.size : Int) != 
  IntKind.i64.wrap ((2 : Int) + IntKind.i64.wrap ((9 : Int) * IntKind.i64.wrap (↑b.toNat : Int)))) = v) ∧ (decide ((↑s.size : Int) < (2 : Int)) = !false → true = v)) ∧ (v = true → (((0 : Int) = (readL s).fst.fst ∧ (readL 
  s).fst.snd = [] ∧ True) ∧ (2 : Int) = (readL s).snd ∧ True) ∧ True) ∧ (v = false → ((0 : Int) ≤ (0 : Int) ∧ (0 : Int) < (↑s.size : Int)) ∧ ∀ (b : UInt8), s[(0 : Nat)]? = some b → ∃ (x0 : Nat), (x0 ≤ cntF s ∧ True) ∧ 
  ((True ∧ True) ∧ ((2 : Int) = (↑((2 : Nat) + (9 : Nat) * x0) : Int) ∧ True ∧ false = false ∧ (0 : Int) = (0 : Int) ∧ True ∧ s = s ∧ True) ∧ ((0 : Int) = (0 : Int) ∧ SV.val (Value.slice none (0 : Nat) (0 : Nat)) = 
  SV.val (Value.slice none (0 : Nat) (0 : Nat)) ∧ True) ∧ (IntKind.i64.wrap (↑b.toNat : Int) = IntKind.i64.wrap (byteAt s (0 : Nat)) ∧ True ∧ True) ∧ [] = entsR s x0 ∧ True) ∧ ∀ (x : Nat), x ≤ cntF s ∧ True → s.size ≤ 
  maxLen → (decide ((↑((2 : Nat) + (9 : Nat) * x) : Int) < (↑s.size : Int)) = true → ∃ (x0 : Nat), (x0 ≤ (8 : Nat) ∧ True) ∧ ((True ∧ True) ∧ ((0 : Int) = (↑x0 : Int) ∧ (0 : Int) = catF s (↑((2 : Nat) + (9 : Nat) * x) : 
  Int).toNat x0 ∧ true = true ∧ (↑((2 : Nat) + (9 : Nat) * x) : Int) = (↑((2 : Nat) + (9 : Nat) * x) : Int) ∧ True ∧ false = false ∧ (0 : Int) = (0 : Int) ∧ True ∧ s = s ∧ True) ∧ ((0 : Int) = (0 : Int) ∧ SV.val 
  (Value.slice none (0 : Nat) (0 : Nat)) = SV.val (Value.slice none (0 : Nat) (0 : Nat)) ∧ True) ∧ (IntKind.i64.wrap (byteAt s (0 : Nat)) = IntKind.i64.wrap (byteAt s (0 : Nat)) ∧ True ∧ True) ∧ entsR s x = entsR s x ∧ 
  True) ∧ ∀ (x_1 : Nat), x_1 ≤ (8 : Nat) ∧ True → (decide ((↑x_1 : Int) < (8 : Int)) = true → ((0 : Int) ≤ IntKind.i64.wrap ((↑((2 : Nat) + (9 : Nat) * x) : Int) + (↑x_1 : Int)) ∧ IntKind.i64.wrap ((↑((2 : Nat) + (9 : 
  Nat) * x) : Int) + (↑x_1 : Int)) < (↑s.size : Int)) ∧ ∀ (b : UInt8), s[(IntKind.i64.wrap ((↑((2 : Nat) + (9 : Nat) * x) : Int) + (↑x_1 : Int))).toNat]? = some b → (0 : Int) ≤ IntKind.i64.wrap ((8 : Int) * (↑x_1 : Int)) 
  ∧ ∃ (x' : Nat), (x' ≤ (8 : Nat) ∧ True) ∧ (8 : Nat) - x' < (8 : Nat) - x_1 ∧ (True ∧ True) ∧ (IntKind.i64.wrap ((↑x_1 : Int) + (1 : Int)) = (↑x' : Int) ∧ bitv BinOp.or IntKind.i64 (catF s (↑((2 : Nat) + (9 : Nat) * x) 
  : Int).toNat x_1) (shiftv BinOp.shl IntKind.i64 (IntKind.i64.wrap (↑b.toNat : Int)) (IntKind.i64.wrap ((8 : Int) * (↑x_1 : Int)))) = catF s (↑((2 : Nat) + (9 : Nat) * x) : Int).toNat x' ∧ true = true ∧ (↑((2 : Nat) + 
  (9 : Nat) * x) : Int) = (↑((2 : Nat) + (9 : Nat) * x) : Int) ∧ True ∧ false = false ∧ (0 : Int) = (0 : Int) ∧ True ∧ s = s ∧ True) ∧ ((0 : Int) = (0 : Int) ∧ SV.val (Value.slice none (0 : Nat) (0 : Nat)) = SV.val 
  (Value.slice none (0 : Nat) (0 : Nat)) ∧ True) ∧ (IntKind.i64.wrap (byteAt s (0 : Nat)) = IntKind.i64.wrap (byteAt s (0 : Nat)) ∧ True ∧ True) ∧ entsR s x = entsR s x ∧ True) ∧ (decide ((↑x_1 : Int) < (8 : Int)) = 
  false → ((0 : Int) ≤ IntKind.i64.wrap ((↑((2 : Nat) + (9 : Nat) * x) : Int) + (8 : Int)) ∧ IntKind.i64.wrap ((↑((2 : Nat) + (9 : Nat) * x) : Int) + (8 : Int)) < (↑s.size : Int)) ∧ ∀ (b : UInt8), s[(IntKind.i64.wrap 
  ((↑((2 : Nat) + (9 : Nat) * x) : Int) + (8 : Int))).toNat]? = some b → ((entsR s x).length + [(catF s (↑((2 : Nat) + (9 : Nat) * x) : Int).toNat x_1, IntKind.i64.wrap (↑b.toNat : Int))].length) * (16 : Nat) ≤ 
  (140737488355328 : Nat) ∧ ∃ (x' : Nat), (x' ≤ cntF s ∧ True) ∧ cntF s - x' < cntF s - x ∧ (True ∧ True) ∧ (IntKind.i64.wrap ((↑((2 : Nat) + (9 : Nat) * x) : Int) + (9 : Int)) = (↑((2 : Nat) + (9 : Nat) * x') : Int) ∧ 
  True ∧ false = false ∧ (0 : Int) = (0 : Int) ∧ True ∧ s = s ∧ True) ∧ ((0 : Int) = (0 : Int) ∧ SV.val (Value.slice none (0 : Nat) (0 : Nat)) = SV.val (Value.slice none (0 : Nat) (0 : Nat)) ∧ True) ∧ (IntKind.i64.wrap 
  (byteAt s (0 : Nat)) = IntKind.i64.wrap (byteAt s (0 : Nat)) ∧ True ∧ True) ∧ entsR s x ++ [(catF s (↑((2 : Nat) + (9 : Nat) * x) : Int).toNat x_1, IntKind.i64.wrap (↑b.toNat : Int))] = entsR s x' ∧ True)) ∧ (decide 
  ((↑((2 : Nat) + (9 : Nat) * x) : Int) < (↑s.size : Int)) = false → true = true ∧ ((!rightL (IntKind.i64.wrap (byteAt s (0 : Nat)), entsR s x)) = true → (((0 : Int) = (readL s).fst.fst ∧ (readL s).fst.snd = [] ∧ True) ∧ 
  (2 : Int) = (readL s).snd ∧ True) ∧ True) ∧ ((!rightL (IntKind.i64.wrap (byteAt s (0 : Nat)), entsR s x)) = false → ((IntKind.i64.wrap (byteAt s (0 : Nat)) = (readL s).fst.fst ∧ entsR s x = (readL s).fst.snd ∧ True) ∧ 
  (0 : Int) = (readL s).snd ∧ True) ∧ True)))) := by kernel_rfl
def bytesNLoop (l : Lab) : List (Nat × (St → Option LoopSpec)) :=
  [(3, fun _ => some { α := Nat, inv := fun i => i ≤ l.2.length ∧ True, ov := fun i => [(19, .int .i64 (i : Int)), (3, .row 1)], rov := fun i => [(1, .row 0 (.int .u8) (bytesR l.1 l.2.length (l.2.take i)))], meas := fun i => l.2.length - i }),
   (7, fun (S : St) => match getT S.fr.tm 6, (S.res[1]? : Option Res) with
      | .int _ c, some (Res.row _ (Ty.int IntKind.u8) base) => some { α := Nat, inv := fun j => j ≤ 8 ∧ True, ov := fun j => [(7, .int .i64 (j : Int)), (6, .int .i64 (c / 256 ^ j)), (3, .row 1)], rov := fun j => [(1, .row 0 (.int .u8) (base ++ catB8 c j))], meas := fun j => 8 - j }
      | _, _ => none)]
theorem bytesN_vc (l : Lab) : fvc PP (eL (bytesNLoop l)) Tryd.f34 c34 (ofArgs [lab] (l, ())) St0 (gives [.str] (bytesL l, ())) = (
  l.snd.length ≤ maxLen → l.snd.length ≤ maxLen → ∃ (x0 : Nat), (x0 ≤ l.snd.length ∧ True) ∧ ((True ∧ True) ∧ ((0 : Int) = (↑x0 : Int) ∧ True ∧ (↑l.snd.length : Int) = (↑l.snd.length : Int) ∧ l.snd = l.snd ∧ ByteArray.mk 
  #[] = ByteArray.mk #[] ∧ True ∧ (l.fst = l.fst ∧ l.snd = l.snd ∧ True) ∧ True) ∧ (l.fst = l.fst ∧ l.snd = l.snd ∧ True) ∧ [IntKind.u8.wrap l.fst, IntKind.u8.wrap (↑l.snd.length : Int)] = bytesR l.fst l.snd.length 
  (List.take x0 l.snd) ∧ True) ∧ ∀ (x : Nat), x ≤ l.snd.length ∧ True → (decide ((↑x : Int) < (↑l.snd.length : Int)) = true → ((0 : Int) ≤ (↑x : Int) ∧ (↑x : Int) < (↑l.snd.length : Int)) ∧ ∀ (y : Int × Int), l.snd[(↑x : 
  Int).toNat]? = some y → ∃ (x0 : Nat), (x0 ≤ (8 : Nat) ∧ True) ∧ ((True ∧ True) ∧ ((0 : Int) = (↑x0 : Int) ∧ y.fst = y.fst / (256 : Int) ^ x0 ∧ True ∧ True ∧ true = true ∧ (↑x : Int) = (↑x : Int) ∧ (↑l.snd.length : Int) 
  = (↑l.snd.length : Int) ∧ l.snd = l.snd ∧ ByteArray.mk #[] = ByteArray.mk #[] ∧ True ∧ (l.fst = l.fst ∧ l.snd = l.snd ∧ True) ∧ True) ∧ (l.fst = l.fst ∧ l.snd = l.snd ∧ True) ∧ bytesR l.fst l.snd.length (List.take x 
  l.snd) = bytesR l.fst l.snd.length (List.take x l.snd) ++ catB8 y.fst x0 ∧ (y.fst = y.fst ∧ y.snd = y.snd ∧ True) ∧ True) ∧ ∀ (x_1 : Nat), x_1 ≤ (8 : Nat) ∧ True → (decide ((↑x_1 : Int) < (8 : Int)) = true → (256 : 
  Int) ≠ (0 : Int) ∧ ((bytesR l.fst l.snd.length (List.take x l.snd) ++ catB8 y.fst x_1).length + [IntKind.u8.wrap ((y.fst / (256 : Int) ^ x_1).tmod (256 : Int))].length) * (1 : Nat) ≤ (140737488355328 : Nat) ∧ (256 : 
  Int) ≠ (0 : Int) ∧ ∃ (x' : Nat), (x' ≤ (8 : Nat) ∧ True) ∧ (8 : Nat) - x' < (8 : Nat) - x_1 ∧ (True ∧ True) ∧ (IntKind.i64.wrap ((↑x_1 : Int) + (1 : Int)) = (↑x' : Int) ∧ IntKind.i64.wrap ((y.fst / (256 : Int) ^ 
  x_1).tdiv (256 : Int)) = y.fst / (256 : Int) ^ x' ∧ True ∧ True ∧ true = true ∧ (↑x : Int) = (↑x : Int) ∧ (↑l.snd.length : Int) = (↑l.snd.length : Int) ∧ l.snd = l.snd ∧ ByteArray.mk #[] = ByteArray.mk #[] ∧ True ∧ 
  (l.fst = l.fst ∧ l.snd = l.snd ∧ True) ∧ True) ∧ (l.fst = l.fst ∧ l.snd = l.snd ∧ True) ∧ bytesR l.fst l.snd.length (List.take x l.snd) ++ catB8 y.fst x_1 ++ [IntKind.u8.wrap ((y.fst / (256 : Int) ^ x_1).tmod (256 : 
  Int))] = bytesR l.fst l.snd.length (List.take x l.snd) ++ catB8 y.fst x' ∧ (y.fst = y.fst ∧ y.snd = y.snd ∧ True) ∧ True) ∧ (decide ((↑x_1 : Int) < (8 : Int)) = false → ((bytesR l.fst l.snd.length (List.take x l.snd) 
  ++ catB8 y.fst x_1).length + [IntKind.u8.wrap y.snd].length) * (1 : Nat) ≤ (140737488355328 : Nat) ∧ ∃ (x' : Nat), (x' ≤ l.snd.length ∧ True) ∧ l.snd.length - x' < l.snd.length - x ∧ (True ∧ True) ∧ (IntKind.i64.wrap 
  ((↑x : Int) + (1 : Int)) = (↑x' : Int) ∧ True ∧ (↑l.snd.length : Int) = (↑l.snd.length : Int) ∧ l.snd = l.snd ∧ ByteArray.mk #[] = ByteArray.mk #[] ∧ True ∧ (l.fst = l.fst ∧ l.snd = l.snd ∧ True) ∧ True) ∧ (l.fst = 
  l.fst ∧ l.snd = l.snd ∧ True) ∧ bytesR l.fst l.snd.length (List.take x l.snd) ++ catB8 y.fst x_1 ++ [IntKind.u8.wrap y.snd] = bytesR l.fst l.snd.length (List.take x' l.snd) ∧ True)) ∧ (decide ((↑x : Int) < 
  (↑l.snd.length : Int)) = false → strOfNums (bytesR l.fst l.snd.length (List.take x l.snd)) = bytesL l ∧ True)) := by kernel_rfl
end Go.Proofs.YtblhojadchbcnaaDoor
namespace Go.Proofs.YtblhojadchbcnaaDoor
open Go.Proofs.YtblhojadchbcnaaDoor.Gx
set_option maxRecDepth 100000
set_option maxHeartbeats 4000000
set_option linter.unusedSimpArgs false
set_option linter.unusedVariables false
theorem entsR_len (s : ByteArray) (k : Nat) : (entsR s k).length = k := by simp [entsR]
theorem entsR_snoc (s : ByteArray) (k : Nat) : entsR s k ++ [(catF s (2 + 9 * k) 8, IntKind.i64.wrap (byteAt s (2 + 9 * k + 8)))] = entsR s (k + 1) := by
  simp only [entsR, List.range_succ, List.map_append, List.map_cons, List.map_nil]
theorem form_size {s : ByteArray} (h : formB s = true) : s.size = 2 + 9 * cntF s ∧ cntF s ≤ 255 := by
  simp only [formB, Bool.and_eq_true, decide_eq_true_eq] at h
  have := byteAt_lt s 1; have := byteAt_nn s 1
  simp only [cntF]; omega
theorem w64 {n : Int} (h1 : 0 ≤ n) (h2 : n < 9223372036854775808) : IntKind.i64.wrap n = n := wrap64 (by omega) h2
theorem form_eq {s : ByteArray} {b : UInt8} (h : s[1]? = some b) (h2 : ¬ ((s.size : Int) < 2)) : ((s.size : Int) != IntKind.i64.wrap ((2 : Int) + IntKind.i64.wrap ((9 : Int) * IntKind.i64.wrap (b.toNat : Int)))) = !formB s := by
  have hb := byteAt_of h
  have h3 := byteAt_lt s 1; have h4 := byteAt_nn s 1
  rw [← hb, wrap_byte, w64 (n := 9 * byteAt s 1) (by omega) (by omega), w64 (by omega) (by omega)]
  have h5 : decide (2 ≤ s.size) = true := by rw [decide_eq_true_eq]; omega
  simp only [formB, h5, Bool.true_and]
  by_cases e : (s.size : Int) = 2 + 9 * byteAt s 1 <;> simp [e]
theorem read_ok : PSpecOk PP 33 (Q [.str] [lab, i64] (fun _ => true) (fun x => ((readL x.1).1, (readL x.1).2, ()))) := by
  refine pspec_Q mixed (fn := Tryd.f33) (c := c33) rfl rfl _ _ rfl ?_
  rintro ⟨s, ⟨⟩⟩ hsane -
  refine ⟨_, env_ok [p39] [] [] [] (readLoop s), rfl, hold (read_vc s) ?_⟩
  have hs : s.size ≤ maxLen := hsane.1
  rw [maxLen_eq] at hs
  simp only [true_and, and_true, Prod.eta]
  refine ⟨!formB s, fun _ => ⟨fun h2 _ => ⟨⟨by omega, ?_⟩, fun b hb => form_eq hb (of_decide_eq_false h2)⟩, fun h2 => ?_⟩, fun hv => ?_, fun hv => ?_⟩
  · have := of_decide_eq_false h2; omega
  · have h2 := of_decide_eq_true (h2.trans rfl)
    have : formB s = false := by simp only [formB, Bool.and_eq_false_iff, decide_eq_false_iff_not]; left; omega
    rw [this]; rfl
  · have hf : formB s = false := by simpa using hv
    have : readL s = ((0, []), 2) := by simp only [readL, hf, Bool.false_and, cond_false]
    rw [this]; simp
  have hf : formB s = true := by simpa using hv
  obtain ⟨hsz, hcn⟩ := form_size hf
  refine ⟨⟨by omega, by omega⟩, fun b hb => ⟨0, by omega, ⟨rfl, by rw [byteAt_of hb], rfl⟩, fun x hx _ => ⟨fun h => ?_, fun h => ?_⟩⟩⟩
  · have hx' : x < cntF s := by have := of_decide_eq_true h; omega
    have e2 : ((2 + 9 * x : Nat) : Int).toNat = 2 + 9 * x := by omega
    simp only [e2]
    refine ⟨0, by omega, ⟨rfl, rfl⟩, fun j hj => ⟨fun h1 => ?_, fun h1 => ?_⟩⟩
    · have hj' : j < 8 := by have := of_decide_eq_true h1; omega
      have e3 : IntKind.i64.wrap (((2 + 9 * x : Nat) : Int) + (j : Int)) = ((2 + 9 * x + j : Nat) : Int) := by rw [w64 (by omega) (by omega)]; omega
      have e4 : IntKind.i64.wrap ((8 : Int) * (j : Int)) = 8 * (j : Int) := w64 (by omega) (by omega)
      rw [e3, e4]
      refine ⟨⟨by omega, by omega⟩, fun b1 hb1 => ⟨by omega, j + 1, by omega, by omega, by rw [w64 (by omega) (by omega)]; omega, ?_⟩⟩
      have e5 : ((2 + 9 * x + j : Nat) : Int).toNat = 2 + 9 * x + j := by omega
      rw [e5] at hb1
      simp only [catF, byteAt_of hb1]
    · have hj' : j = 8 := by have := of_decide_eq_false h1; omega
      subst hj'
      have e3 : IntKind.i64.wrap (((2 + 9 * x : Nat) : Int) + 8) = ((2 + 9 * x + 8 : Nat) : Int) := by rw [w64 (by omega) (by omega)]; omega
      rw [e3]
      refine ⟨⟨by omega, by omega⟩, fun b1 hb1 => ⟨?_, x + 1, by omega, by omega, by rw [w64 (by omega) (by omega)]; omega, ?_⟩⟩
      · rw [entsR_len]; simp only [List.length_cons, List.length_nil]; omega
      · have e5 : ((2 + 9 * x + 8 : Nat) : Int).toNat = 2 + 9 * x + 8 := by omega
        rw [e5] at hb1
        rw [← entsR_snoc, byteAt_of hb1]
  · have hx' : x = cntF s := by have := of_decide_eq_false h; omega
    subst hx'
    refine ⟨fun h1 => ?_, fun h1 => ?_⟩
    · have hr : rightL (rawL s) = false := by simpa [rawL] using h1
      have : readL s = ((0, []), 2) := by simp only [readL, hr, Bool.and_false, cond_false]
      rw [this]; simp
    · have hr : rightL (rawL s) = true := by simpa [rawL] using h1
      have : readL s = (rawL s, 0) := by simp only [readL, hf, hr, Bool.and_self, cond_true]
      rw [this]; simp [rawL]
theorem div_step {c : Nat} {j : Nat} : (c : Int) / 256 ^ j = ((c / 256 ^ j : Nat) : Int) := by simp
theorem bytesN_ok : PSpecOk PP 34 (Q [lab] [.str] (fun x => rightL x.1) (fun x => (bytesL x.1, ()))) := by
  refine pspec_Q mixed (fn := Tryd.f34) (c := c34) rfl rfl _ _ rfl ?_
  rintro ⟨l, ⟨⟩⟩ - hp
  have hp : rightL l = true := hp
  have hlen := right_len hp
  refine ⟨_, env_ok [] [] [] [] (bytesNLoop l), rfl, hold (bytesN_vc l) ?_⟩
  simp only [true_and, and_true, Prod.eta]
  intro hA _
  refine ⟨0, by simp, ⟨rfl, by simp [bytesR, byteN]⟩, fun i hi => ?_⟩
  rcases get_cases l.2 i hi with ⟨x, hx, hi'⟩ | ⟨hx, hi'⟩
  · refine ⟨fun _ => ⟨by omega, fun y hy => ?_⟩, fun h => by simp at h; omega⟩
    obtain rfl : x = y := by simpa [hx] using hy
    have hlen2 := bytesR_len l.1 l.2.length (l.2.take i)
    rw [List.length_take] at hlen2
    have hR : bytesR l.1 l.2.length (l.2.take (i + 1)) = bytesR l.1 l.2.length (l.2.take i) ++ catB8 x.1 8 ++ [byteN x.2] := by rw [bytesR_snoc, take_snoc' hx]
    have hxm := catB_iff.1 (right_mem hp x (List.mem_of_getElem? hx)).2.1
    have hmax : maxId < 2 ^ 63 := by decide
    obtain ⟨c, hc⟩ := Int.eq_ofNat_of_zero_le (show 0 ≤ x.1 from Int.le_trans (by decide) hxm.1)
    have hcm : (c : Int) < 2 ^ 63 := by rw [← show x.1 = (c : Int) from hc]; exact Int.lt_of_le_of_lt hxm.2 (by decide)
    generalize bytesR l.1 l.2.length (l.2.take i) = R at *
    refine ⟨0, by simp, ⟨⟨rfl, by simp⟩, by simp [catB8]⟩, fun j hj => ⟨fun h => ?_, fun h => ?_⟩⟩
    · have hj' : j < 8 := by simp at h; omega
      obtain ⟨g1, g2⟩ := catB8_snoc x.1 hj'
      have hcl : c / 256 ^ j ≤ c := Nat.div_le_self _ _
      have e1 : (x.1 / 256 ^ j : Int) = ((c / 256 ^ j : Nat) : Int) := by rw [hc]; exact div_step
      rw [e1]
      have e3 := hc
      generalize hq : c / 256 ^ j = q at *
      refine ⟨by omega, ?_, by omega, j + 1, by omega, by omega, ⟨by rw [w64 (by omega) (by omega)]; omega, ?_⟩, ?_⟩
      · rw [List.length_append, catB8_len]; simp only [List.length_cons, List.length_nil]; omega
      · have e2 : (x.1 / 256 ^ (j + 1) : Int) = ((c / 256 ^ (j + 1) : Nat) : Int) := by rw [hc]; exact div_step
        rw [e2, Nat.pow_succ, ← Nat.div_div_eq_div_mul, hq]
        have : (q : Int).tdiv 256 = ((q / 256 : Nat) : Int) := by
          rw [Int.tdiv_eq_ediv_of_nonneg (by omega)]; omega
        rw [this, w64 (by omega) (by omega)]
      · rw [List.append_assoc, ← g2]
        congr 3
        have hb := byte_at ⟨j, hj'⟩
        simp only at hb
        rw [hb.1]
        simp only [shiftv, hb.2, hc]
        rw [fdiv_nat, Int.tmod_eq_emod_of_nonneg (by omega), u8_wrap, u8_wrap, Nat.pow_mul]
        have : (2 : Nat) ^ 8 = 256 := rfl
        rw [this, hq]; omega
    · have hj' : j = 8 := by simp at h; omega
      subst hj'
      refine ⟨?_, i + 1, by omega, by omega, wrap_succ hi' hA, ?_⟩
      · rw [List.length_append, catB8_len]; simp only [List.length_cons, List.length_nil]; omega
      · rw [hR]; rfl
  · subst hi'
    refine ⟨fun h => by simp at h, fun _ => ?_⟩
    rw [List.take_length]; rfl
end Go.Proofs.YtblhojadchbcnaaDoor
namespace Go.Proofs.YtblhojadchbcnaaDoor
open Go.Proofs.YtblhojadchbcnaaDoor.Gx
set_option maxRecDepth 100000
set_option maxHeartbeats 0
noncomputable def p33 : Pv PP := ⟨33, _, ⟨rfl, read_ok⟩⟩
noncomputable def p34 : Pv PP := ⟨34, _, ⟨rfl, bytesN_ok⟩⟩
theorem bytesLaw_vc (l : Lab) (s : ByteArray) : fvc PP (eP [p13, p17, p32, p33, p34, p16]) Tryd.f9 c9 (ofArgs [lab, .str] (l, s, ())) St0 (gives [.bool] (true, ())) = (
  true = true ∧ ((!true) = true → false = true ∧ True) ∧ ((!true) = false → true = true ∧ (rightsL [(l.fst, l.snd)] = true → sml (l.fst, l.snd) = true ∧ true = true ∧ rightL (l.fst, l.snd) = true ∧ ((!(bytesL (l.fst, 
  l.snd)).toList == (bytesL (l.fst, l.snd)).toList) = false → (((readL (bytesL (l.fst, l.snd))).snd != (0 : Int)) = false → true = true ∧ ((!sameL (l.fst, l.snd) ((readL (bytesL (l.fst, l.snd))).fst.fst, (readL (bytesL 
  (l.fst, l.snd))).fst.snd)) = true → false = true ∧ True) ∧ ((!sameL (l.fst, l.snd) ((readL (bytesL (l.fst, l.snd))).fst.fst, (readL (bytesL (l.fst, l.snd))).fst.snd)) = false → true = true ∧ (((readL s).snd != (0 : 
  Int)) = true → (((readL s).snd == (2 : Int)) = true → true = true ∧ (sameL ((readL s).fst.fst, (readL s).fst.snd) ((0 : Int), []) = true → s.size ≤ maxLen → (((↑s.size : Int) == (2 : Int)) = true → ((0 : Int) ≤ (1 : 
  Int) ∧ (1 : Int) < (↑s.size : Int)) ∧ ∀ (b : UInt8), s[(1 : Nat)]? = some b → (((↑b.toNat : Int) == (0 : Int)) = true → ((0 : Int) ≤ (0 : Int) ∧ (0 : Int) < (↑s.size : Int)) ∧ ∀ (b : UInt8), s[(0 : Nat)]? = some b → 
  (!decide ((↑b.toNat : Int) ≤ (5 : Int))) = true ∧ True) ∧ (((↑b.toNat : Int) == (0 : Int)) = !true → (!false) = true ∧ True)) ∧ (((↑s.size : Int) == (2 : Int)) = !true → (!false) = true ∧ True)) ∧ (sameL ((readL 
  s).fst.fst, (readL s).fst.snd) ((0 : Int), []) = !true → false = true ∧ True)) ∧ (((readL s).snd == (2 : Int)) = !true → false = true ∧ True)) ∧ (((readL s).snd != (0 : Int)) = false → true = true ∧ (rightsL [((readL 
  s).fst.fst, (readL s).fst.snd)] = true → rightL ((readL s).fst.fst, (readL s).fst.snd) = true ∧ ((bytesL ((readL s).fst.fst, (readL s).fst.snd)).toList == s.toList) = true ∧ True) ∧ (rightsL [((readL s).fst.fst, (readL 
  s).fst.snd)] = !true → false = true ∧ True)))) ∧ (((readL (bytesL (l.fst, l.snd))).snd != (0 : Int)) = !false → false = true ∧ True)) ∧ ((!(bytesL (l.fst, l.snd)).toList == (bytesL (l.fst, l.snd)).toList) = !false → 
  false = true ∧ True)) ∧ (rightsL [(l.fst, l.snd)] = false → true = true ∧ (((readL s).snd != (0 : Int)) = true → (((readL s).snd == (2 : Int)) = true → true = true ∧ (sameL ((readL s).fst.fst, (readL s).fst.snd) ((0 : 
  Int), []) = true → s.size ≤ maxLen → (((↑s.size : Int) == (2 : Int)) = true → ((0 : Int) ≤ (1 : Int) ∧ (1 : Int) < (↑s.size : Int)) ∧ ∀ (b : UInt8), s[(1 : Nat)]? = some b → (((↑b.toNat : Int) == (0 : Int)) = true → 
  ((0 : Int) ≤ (0 : Int) ∧ (0 : Int) < (↑s.size : Int)) ∧ ∀ (b : UInt8), s[(0 : Nat)]? = some b → (!decide ((↑b.toNat : Int) ≤ (5 : Int))) = true ∧ True) ∧ (((↑b.toNat : Int) == (0 : Int)) = !true → (!false) = true ∧ 
  True)) ∧ (((↑s.size : Int) == (2 : Int)) = !true → (!false) = true ∧ True)) ∧ (sameL ((readL s).fst.fst, (readL s).fst.snd) ((0 : Int), []) = !true → false = true ∧ True)) ∧ (((readL s).snd == (2 : Int)) = !true → 
  false = true ∧ True)) ∧ (((readL s).snd != (0 : Int)) = false → true = true ∧ (rightsL [((readL s).fst.fst, (readL s).fst.snd)] = true → rightL ((readL s).fst.fst, (readL s).fst.snd) = true ∧ ((bytesL ((readL 
  s).fst.fst, (readL s).fst.snd)).toList == s.toList) = true ∧ True) ∧ (rightsL [((readL s).fst.fst, (readL s).fst.snd)] = !true → false = true ∧ True))))) := by kernel_rfl
end Go.Proofs.YtblhojadchbcnaaDoor
namespace Go.Proofs.YtblhojadchbcnaaDoor
open Go.Proofs.YtblhojadchbcnaaDoor.Gx
set_option maxRecDepth 100000
set_option maxHeartbeats 4000000
set_option linter.unusedSimpArgs false
set_option linter.unusedVariables false
theorem sames_self (l : Lab) : sameL l l = true := by simp [sameL]
theorem bytesTail (s : ByteArray) :
    (((readL s).snd != (0 : Int)) = true →
        (((readL s).snd == (2 : Int)) = true →
            (sameL ((readL s).fst.fst, (readL s).fst.snd) ((0 : Int), []) = true →
                s.size ≤ maxLen →
                  (((s.size : Int) == (2 : Int)) = true →
                      ((0 : Int) ≤ (1 : Int) ∧ (1 : Int) < (s.size : Int)) ∧
                        ∀ (b : UInt8),
                          s[(1 : Nat)]? = some b →
                            (((b.toNat : Int) == (0 : Int)) = true →
                                ((0 : Int) ≤ (0 : Int) ∧ (0 : Int) < (s.size : Int)) ∧
                                  ∀ (b : UInt8),
                                    s[(0 : Nat)]? = some b → (!decide ((b.toNat : Int) ≤ (5 : Int))) = true) ∧
                              (((b.toNat : Int) == (0 : Int)) = !true → (!false) = true)) ∧
                    (((s.size : Int) == (2 : Int)) = !true → (!false) = true)) ∧
              (sameL ((readL s).fst.fst, (readL s).fst.snd) ((0 : Int), []) = !true → false = true)) ∧
          (((readL s).snd == (2 : Int)) = !true → false = true)) ∧
      (((readL s).snd != (0 : Int)) = false →
        (rightsL [((readL s).fst.fst, (readL s).fst.snd)] = true →
            rightL ((readL s).fst.fst, (readL s).fst.snd) = true ∧
              ((bytesL ((readL s).fst.fst, (readL s).fst.snd)).toList == s.toList) = true) ∧
          (rightsL [((readL s).fst.fst, (readL s).fst.snd)] = !true → false = true)) := by
  simp only [Prod.eta]
  refine ⟨fun h => ?_, fun h => ?_⟩
  · have hne : (readL s).2 ≠ 0 := by simpa using h
    have hb := read_bad hne
    refine ⟨fun _ => ⟨fun _ _ => ⟨fun h1 => ?_, fun _ => rfl⟩, fun h1 => ?_⟩, fun h1 => ?_⟩
    · have h1 : s.size = 2 := by have : (s.size : Int) = 2 := by simpa using h1
                                 omega
      refine ⟨by omega, fun b hb1 => ⟨fun h2 => ⟨by omega, fun b0 hb0 => ?_⟩, fun _ => rfl⟩⟩
      have h2 : (b.toNat : Int) = 0 := by simpa using h2
      cases hd : decide ((b0.toNat : Int) ≤ 5) with
      | false => rfl
      | true =>
        exact absurd (read_short h1 (by rw [byteAt_of hb1]; exact h2) (by rw [byteAt_of hb0]; exact of_decide_eq_true hd)) hne
    · rw [hb] at h1; simp [sames_self] at h1
    · rw [hb] at h1; simp at h1
  · have h0 : (readL s).2 = 0 := by simpa using h
    obtain ⟨h1, h2⟩ := bytes_read h0
    refine ⟨fun _ => ⟨h1, by rw [h2]; simp⟩, fun h3 => ?_⟩
    simp [rightsL, h1] at h3
theorem bytesLaw_ok : PSpecOk PP 9 (Q [lab, .str] [.bool] (fun _ => true) (fun _ => (true, ()))) := by
  refine pspec_Q mixed (fn := Tryd.f9) (c := c9) rfl rfl _ _ rfl ?_
  rintro ⟨l, s, ⟨⟩⟩ - -
  refine ⟨_, env_ok [p13, p17, p32, p33, p34, p16] [] [] [] [], rfl, hold (bytesLaw_vc l s) ?_⟩
  have hT := bytesTail s
  simp only [true_and, and_true, Prod.eta] at hT ⊢
  refine ⟨fun h => by simp at h, fun _ => ⟨fun h => ?_, fun _ => hT⟩⟩
  have hr : rightL l = true := by simpa [rightsL] using h
  have hb := read_bytes hr
  refine ⟨sml_right hr, hr, fun _ => ⟨fun _ => ⟨fun h1 => ?_, fun _ => hT⟩, fun h1 => ?_⟩, fun h1 => ?_⟩
  · rw [hb] at h1; simp [sames_self] at h1
  · rw [hb] at h1; simp at h1
  · simp at h1
end Go.Proofs.YtblhojadchbcnaaDoor
