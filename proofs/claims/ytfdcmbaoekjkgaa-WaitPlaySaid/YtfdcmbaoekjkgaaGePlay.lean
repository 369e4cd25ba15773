/- Memory as symbolic states, conditions for code, and that what they ask is enough; no condition. -/
import Derived.Test.YtfdcmbaoekjkgaaGdPlay
import Derived.ProofKit
import Derived.OpenShut
import Derived.ChangeOld
import Derived.Handed
import Derived.Deep.Draws
namespace Go.Proofs.Ytfdcmbaoekjkgaa.Gx
open Go.RowKit Go.ChangeShapes Go.WideShapes
set_option linter.unusedSimpArgs false
set_option linter.unusedVariables false

/-- A lower bound of a datum's bytes. -/
def wT : Ty → Nat
  | .int .i64 => 8
  | .int .u64 => 8
  | .int _ => 1
  | .bool => 1
  | .str => 16
  | .slice _ => 24
  | .adr _ => 8
  | .hd _ => 24
  | .pair a b => wT a + wT b

/-- No slice of it is beyond the form's reach. -/
def Sz : (t : Ty) → t.den → Prop
  | .slice t, xs => List.length xs * wT t ≤ reachBytes ∧ ∀ (i : Nat) (x : t.den), xs[i]? = some x → Sz t x
  | .pair a b, x => Sz a x.1 ∧ Sz b x.2
  | _, _ => True

def SzL : (ts : List Ty) → Den ts → Prop
  | [], _ => True
  | t :: ts, x => Sz t x.1 ∧ SzL ts x.2

mutual
def fitB (P : Program) : Nat → TypeId → Ty → Bool
  | 0, _, _ => false
  | n + 1, T, t => match P.underlying T, t with
    | some (.int k), .int k' => decide (k = k')
    | some .bool, .bool => true
    | some .string, .str => true
    | some (.slice e), .slice t => Nat.beq (P.cellsOf e) t.sz && (Nat.ble (wT t) (P.bytesOf e) && fitB P n e t)
    | some (.struct fs), t => Nat.beq (P.cellsOf T) t.sz && fitF P n 0 fs.toList t
    | some (.array k e), t => Nat.beq (P.cellsOf T) t.sz && fitA P n k e t
    | _, _ => false
def fitA (P : Program) : Nat → Nat → TypeId → Ty → Bool
  | 0, _, _, _ => false
  | n + 1, k, e, t => match k with
    | 0 => false
    | k + 1 => match k with
      | 0 => Nat.beq (P.cellsOf e) t.sz && fitB P n e t
      | k' + 1 => match t with
        | .pair a b => Nat.beq (P.cellsOf e) a.sz && (fitB P n e a && fitA P n (k' + 1) e b)
        | _ => false
def fitF (P : Program) : Nat → Nat → List Field → Ty → Bool
  | 0, _, _, _ => false
  | n + 1, off, fs, t => match fs with
    | [] => false
    | f :: fs => match fs with
      | [] => Nat.beq f.offset off && (Nat.beq (P.cellsOf f.type) t.sz && fitB P n f.type t)
      | _ :: _ => match t with
        | .pair a b => Nat.beq f.offset off && (Nat.beq (P.cellsOf f.type) a.sz && (fitB P n f.type a && fitF P n (off + a.sz) fs b))
        | _ => false
end

theorem list_of_lt {α : Type} {p : Nat → α → Prop} : (n : Nat) → (∀ i, i < n → ∃ x, p i x) → ∃ xs : List α, xs.length = n ∧ ∀ i x, xs[i]? = some x → p i x
  | 0, _ => ⟨[], rfl, fun i x h => by simp at h⟩
  | n + 1, h => by
    obtain ⟨xs, h1, h2⟩ := list_of_lt n (fun i hi => h i (by omega))
    obtain ⟨x, hx⟩ := h n (by omega)
    refine ⟨xs ++ [x], by simp [h1], fun i y hy => ?_⟩
    rw [List.getElem?_append] at hy
    split at hy
    · exact h2 i y hy
    · rename_i hlt
      have : i = n := by
        rcases Nat.lt_or_ge (i - xs.length) 1 with h3 | h3
        · omega
        · rw [List.getElem?_eq_none (by simpa using h3)] at hy; cases hy
      subst this
      simp [h1] at hy
      subst hy; exact hx

theorem implode_explode : (t : Ty) → (x : t.den) → (l : List SV) → implode t (explode t x ++ l) = some (x, l)
  | .int k, x, l => by simp [implode, explode, implI, implB, implS, implR]
  | .bool, x, l => by simp [implode, explode, implI, implB, implS, implR]
  | .str, x, l => by simp [implode, explode, implI, implB, implS, implR]
  | .slice t, x, l => by simp [implode, explode, implI, implB, implS, implR]
  | .pair a b, x, l => by simp [implode, explode, List.append_assoc, implode_explode a, implode_explode b]
  | .adr T, x, l => by simp [implode, explode, implA]
  | .hd e, x, l => by simp [implode, explode, implH]
theorem asTy_ofTy (t : Ty) (x : t.den) : asTy t (ofTy t x) = some x := by
  have h := implode_explode t x []
  rw [List.append_nil] at h
  cases t <;> simp only [asTy, ofTy] <;> first | (rw [h]) | (simp only [explode] at h; rw [h])
theorem asArgs_ofArgs : (ts : List Ty) → (x : Den ts) → asArgs ts (ofArgs ts x) = some x
  | [], _ => rfl
  | t :: ts, x => by simp only [ofArgs, asArgs, asTy_ofTy, asArgs_ofArgs ts]

section
variable {H : Type} {enc : TypeId × Value → H} {P : Program} {w : World} {spare : Nat → Bool} {held : Bool}

theorem all_wa {P : Program} {e : TypeId} : {ds : List (DataW H)} → (DataW.weightsAll P e ds).all (· ≤ reachBytes) = true → ∀ (i : Nat) (d : DataW H), ds[i]? = some d → (d.weights P e).all (· ≤ reachBytes) = true
  | [], _, i, d, h => by simp at h
  | x :: ds, hw, i, d, h => by
    simp only [DataW.weightsAll, List.all_append, Bool.and_eq_true] at hw
    cases i with
    | zero => simp at h; subst h; exact hw.1
    | succ i => exact all_wa hw.2 i d (by simpa using h)

theorem all_we {P : Program} : {Ts : List TypeId} → {ds : List (DataW H)} → (DataW.weightsEach P Ts ds).all (· ≤ reachBytes) = true → ∀ (i : Nat) (T : TypeId) (d : DataW H), Ts[i]? = some T → ds[i]? = some d → (d.weights P T).all (· ≤ reachBytes) = true
  | [], _, _, i, T, d, h, _ => by simp at h
  | _ :: _, [], _, i, T, d, _, h => by simp at h
  | T0 :: Ts, x :: ds, hw, i, T, d, h1, h2 => by
    simp only [DataW.weightsEach, List.all_append, Bool.and_eq_true] at hw
    cases i with
    | zero => simp at h1 h2; subst h1; subst h2; exact hw.1
    | succ i => exact all_we hw.2 i T d (by simpa using h1) (by simpa using h2)

mutual
theorem rd_of : (n : Nat) → (T : TypeId) → (t : Ty) → fitB P n T t = true → ∀ {fuel : Nat} {cs : List Value} {x : DataW H × List MemPlace}, DataW.trod enc P w 0 spare held fuel T cs = some x →
    ∃ y : t.den, Rd (fun k => k < w.heap.size) w t y cs ∧ ((x.1.weights P T).all (· ≤ reachBytes) = true → Sz t y)
  | 0, _, _, h => by simp [fitB] at h
  | n + 1, T, t, h => by
    intro hx
    rename_i fuel cs x
    unfold fitB at h
    split at h
    · rename_i k k' hT
      obtain rfl := of_decide_eq_true h
      obtain ⟨m, rfl, _, _⟩ := DataW.trod_int hT hx
      exact ⟨m, rfl, fun _ => trivial⟩
    · rename_i hT
      obtain ⟨b, rfl, _⟩ := DataW.trod_bool hT hx
      exact ⟨b, rfl, fun _ => trivial⟩
    · rename_i hT
      obtain ⟨s, rfl, _, hs⟩ := DataW.trod_string hT hx
      exact ⟨s, ⟨rfl, hs⟩, fun _ => trivial⟩
    · rename_i e t hT
      simp only [Bool.and_eq_true] at h
      have hsz := Nat.eq_of_beq_eq_true h.1
      have hwt := Nat.le_of_ble_eq_true h.2.1
      rcases DataW.trod_slice hT hx with ⟨rfl, _⟩ | ⟨a, len, cap, elems, rest, m, _, rfl, rfl, hb, hl, hm, hlen, hel, _, _⟩
      · exact ⟨[], ⟨none, 0, rfl, Nat.le_refl _, by simp [maxLen], fun i x hx => by simp at hx⟩, fun _ => ⟨by simp, fun i x hx => by simp at hx⟩⟩
      · obtain ⟨xs, h1, h2⟩ := list_of_lt (p := fun i (x : t.den) => (∃ cells, a.block < w.heap.size ∧ Rd (fun k => k < w.heap.size) w t x cells ∧ ∀ j u, cells[j]? = some u → w.cell? (a.add (i * t.sz + j)) = some u) ∧
            ((DataW.weightsAll P e (elems.map (·.1))).all (· ≤ reachBytes) = true → Sz t x)) len (fun i hi => by
          have := hel i hi
          have hei := List.getElem?_eq_getElem (show i < elems.length by omega)
          rw [hei] at this
          obtain ⟨cs', g1, g2⟩ := Option.bind_eq_some_iff.1 this
          obtain ⟨y, hy, hyw⟩ := rd_of n e t h.2.2 g2
          have hpos := Ty.sz_pos t
          refine ⟨y, ⟨cs', ?_, hy, fun j u hj => ?_⟩, fun hw => hyw (all_wa hw i _ (by rw [List.getElem?_map, hei]; rfl))⟩
          · have := World.cells?_block g1 (by rw [hsz]; exact hpos)
            rwa [add_block] at this
          · obtain ⟨g3, g4, g5⟩ := World.cells?_some g1
            rw [← add_add, ← hsz]
            have := g5 j (by rw [← g4]; exact (List.getElem?_eq_some_iff.1 hj).1)
            rw [this]; exact hj)
        refine ⟨xs, ⟨some a, cap, by rw [h1], by omega, hm, fun i x hx => ?_⟩, fun hw => ?_⟩
        · obtain ⟨⟨cells, g1, g2, g3⟩, _⟩ := h2 i x hx
          exact ⟨a, cells, rfl, g1, g2, g3⟩
        · simp only [DataW.weights, hT, List.all_cons, List.all_append, Bool.and_eq_true, decide_eq_true_eq, List.length_map] at hw
          refine ⟨?_, fun i x hx => (h2 i x hx).2 hw.2.1⟩
          rw [h1, ← hlen]
          exact Nat.le_trans (Nat.mul_le_mul (Nat.le_add_right _ _) hwt) hw.1
    · rename_i fs hT
      rw [Bool.and_eq_true] at h
      have hsz := Nat.eq_of_beq_eq_true h.1
      obtain ⟨xs, m, _, hxe, hlen, hfs, hall⟩ := DataW.trod_struct hT hx
      obtain ⟨y, hy, hyw⟩ := rdF_of n 0 fs.toList _ h.2 (m := m) (cs := cs) (hw := (x.1.weights P T).all (· ≤ reachBytes) = true) (by rw [hlen, hsz]; omega) (fun i f hf => by
        have hf' : fs[i]? = some f := by simpa using hf
        have := hall i f hf'
        obtain ⟨hlt, _⟩ := Array.getElem?_eq_some_iff.1 hf'
        have hxi := List.getElem?_eq_getElem (show i < xs.length by omega)
        rw [hxi] at this
        refine ⟨_, this, fun hw => ?_⟩
        rw [hxe] at hw
        simp only [DataW.weights, hT] at hw
        exact all_we hw i f.type _ (by rw [List.getElem?_map, hf]; rfl) (by rw [List.getElem?_map, hxi]; rfl))
      exact ⟨y, by simpa using hy, hyw⟩
    · rename_i k e hT
      rw [Bool.and_eq_true] at h
      have hsz := Nat.eq_of_beq_eq_true h.1
      obtain ⟨xs, m, _, hxe, hlen, hfs, hall⟩ := DataW.trod_array hT hx
      obtain ⟨y, hy, hyw⟩ := rdA_of n k e 0 _ h.2 (m := m) (cs := cs) (hw := (x.1.weights P T).all (· ≤ reachBytes) = true) (by rw [hlen, hsz]; omega) (fun i hi => by
        have := hall i hi
        have hxi := List.getElem?_eq_getElem (show i < xs.length by omega)
        rw [hxi] at this
        refine ⟨_, by rw [Nat.zero_add]; exact this, fun hw => ?_⟩
        rw [hxe] at hw
        simp only [DataW.weights, hT] at hw
        exact all_wa hw i _ (by rw [List.getElem?_map, hxi]; rfl))
      exact ⟨y, by simpa using hy, hyw⟩
    · cases h
theorem rdA_of : (n : Nat) → (k : Nat) → (e : TypeId) → (off : Nat) → (t : Ty) → fitA P n k e t = true → ∀ {m : Nat} {cs : List Value} {hw : Prop}, cs.length = off + t.sz →
    (∀ (i : Nat), i < k → ∃ x, DataW.trod enc P w 0 spare held m e ((cs.drop (off + i * P.cellsOf e)).take (P.cellsOf e)) = some x ∧ (hw → (x.1.weights P e).all (· ≤ reachBytes) = true)) →
    ∃ y : t.den, Rd (fun k => k < w.heap.size) w t y (cs.drop off) ∧ (hw → Sz t y)
  | 0, _, _, _, _, h => by simp [fitA] at h
  | n + 1, k, e, off, t, h => by
    intro hlen hall
    rename_i m cs hw
    unfold fitA at h
    split at h
    · cases h
    · rename_i k
      split at h
      · simp only [Bool.and_eq_true] at h
        have e2 := Nat.eq_of_beq_eq_true h.1
        obtain ⟨x, hx, hxw⟩ := hall 0 (by omega)
        obtain ⟨y, hy, hyw⟩ := rd_of n e t h.2 hx
        refine ⟨y, ?_, fun hw => hyw (hxw hw)⟩
        rw [Nat.zero_mul, Nat.add_zero, e2, List.take_of_length_le (by simp [hlen])] at hy
        exact hy
      · rename_i k'
        split at h
        · rename_i a b
          simp only [Bool.and_eq_true] at h
          have e2 := Nat.eq_of_beq_eq_true h.1
          obtain ⟨x, hx, hxw⟩ := hall 0 (by omega)
          obtain ⟨y, hy, hyw⟩ := rd_of n e a h.2.1 hx
          obtain ⟨z, hz, hzw⟩ := rdA_of n (k' + 1) e (off + a.sz) b h.2.2 (m := m) (cs := cs) (hw := hw) (by simp only [Ty.sz] at hlen; omega) (fun i hi => by
            have := hall (i + 1) (by omega)
            rwa [Nat.add_mul, Nat.one_mul, show off + (i * P.cellsOf e + P.cellsOf e) = off + a.sz + i * P.cellsOf e by omega] at this)
          refine ⟨(y, z), ⟨(cs.drop off).take a.sz, cs.drop (off + a.sz), ?_, ?_, hz⟩, fun hw => ⟨hyw (hxw hw), hzw hw⟩⟩
          · rw [← List.drop_drop, List.take_append_drop]
          · rw [Nat.zero_mul, Nat.add_zero, e2] at hy; exact hy
        · cases h
theorem rdF_of : (n : Nat) → (off : Nat) → (fs : List Field) → (t : Ty) → fitF P n off fs t = true → ∀ {m : Nat} {cs : List Value} {hw : Prop}, cs.length = off + t.sz →
    (∀ (i : Nat) (f : Field), fs[i]? = some f → ∃ x, DataW.trod enc P w 0 spare held m f.type ((cs.drop f.offset).take (P.cellsOf f.type)) = some x ∧ (hw → (x.1.weights P f.type).all (· ≤ reachBytes) = true)) →
    ∃ y : t.den, Rd (fun k => k < w.heap.size) w t y (cs.drop off) ∧ (hw → Sz t y)
  | 0, _, _, _, h => by simp [fitF] at h
  | n + 1, off, fs, t, h => by
    intro hlen hall
    rename_i m cs hw
    unfold fitF at h
    split at h
    · cases h
    · rename_i f fs
      split at h
      · simp only [Bool.and_eq_true] at h
        have e1 := Nat.eq_of_beq_eq_true h.1
        have e2 := Nat.eq_of_beq_eq_true h.2.1
        obtain ⟨x, hx, hxw⟩ := hall 0 f rfl
        obtain ⟨y, hy, hyw⟩ := rd_of n f.type t h.2.2 hx
        refine ⟨y, ?_, fun hw => hyw (hxw hw)⟩
        rw [e1, e2, List.take_of_length_le (by simp [hlen])] at hy
        exact hy
      · rename_i f2 fs2
        split at h
        · rename_i a b
          simp only [Bool.and_eq_true] at h
          have e1 := Nat.eq_of_beq_eq_true h.1
          have e2 := Nat.eq_of_beq_eq_true h.2.1
          obtain ⟨x, hx, hxw⟩ := hall 0 f rfl
          obtain ⟨y, hy, hyw⟩ := rd_of n f.type a h.2.2.1 hx
          obtain ⟨z, hz, hzw⟩ := rdF_of n (off + a.sz) (f2 :: fs2) b h.2.2.2 (m := m) (cs := cs) (hw := hw) (by simp only [Ty.sz] at hlen; omega) (fun i g hg => hall (i + 1) g (by simpa using hg))
          refine ⟨(y, z), ⟨(cs.drop off).take a.sz, cs.drop (off + a.sz), ?_, ?_, hz⟩, fun hw => ⟨hyw (hxw hw), hzw hw⟩⟩
          · rw [← List.drop_drop, List.take_append_drop]
          · rw [e1, e2] at hy; exact hy
        · cases h
end

def leafB (P : Program) (T : TypeId) : Bool := match P.underlying T with
  | some (.struct _) => false
  | some (.array _ _) => false
  | some _ => true
  | none => false

/-- A value of a type reads as data: structs as aggregates, all else in one cell. -/
def topB (P : Program) (T : TypeId) (t : Ty) : Bool := match t with
  | .pair _ _ => match P.underlying T with
    | some (.struct _) => true
    | some (.array _ _) => true
    | _ => false
  | _ => leafB P T

theorem cells_one {v : Value} {base : Nat} {T : TypeId} {r : Reach} (hok : Value.okWide P w r base T v) (h : leafB P T = true) : v.cells.toList = [v] := by
  unfold leafB at h
  unfold Value.okWide at hok
  split at hok
  · rename_i e; rw [e] at h; cases h
  · rename_i e; rw [e] at h; cases h
  · cases v <;> first | rfl | skip
    exfalso
    unfold Cell.okWide at hok
    split at hok <;> first | (rename_i e _; cases e) | skip
    all_goals first | exact Value.noConfusion ‹_› | skip
    unfold Cell.ok at hok
    split at hok <;> first | exact hok | skip
    all_goals simp_all

theorem sv_of {v : Value} {base : Nat} {T : TypeId} {r : Reach} {t : Ty} {ρ : List Value} (hok : Value.okWide P w r base T v) (ht : topB P T t = true) {y : t.den} (h : Rd (fun k => k < w.heap.size) w t y v.cells.toList) :
    SV.den ρ (fun k => k < w.heap.size) w (ofTy t y) v := by
  have leaf : leafB P T = true → explode t y = [ofTy t y] → SV.den ρ (fun k => k < w.heap.size) w (ofTy t y) v := by
    intro h1 h2
    have h3 := explode_den (ρ := ρ) t h
    rw [cells_one hok h1, h2] at h3
    unfold SV.denL at h3
    obtain ⟨v', vs, e, g, _⟩ := h3
    cases e
    exact g
  cases t with
  | int k => exact leaf ht rfl
  | bool => exact leaf ht rfl
  | str => exact leaf ht rfl
  | adr T => exact leaf ht rfl
  | hd e => exact leaf ht rfl
  | slice t => exact leaf ht rfl
  | pair a b =>
    simp only [topB] at ht
    split at ht
    · rename_i fs e
      unfold Value.okWide at hok
      rw [e] at hok
      obtain ⟨cs, rfl, _⟩ := hok
      simp only [ofTy]
      unfold SV.den
      refine ⟨cs.toList, by simp, explode_den _ ?_⟩
      simpa [Value.cells] using h
    · rename_i k u e
      unfold Value.okWide at hok
      rw [e] at hok
      obtain ⟨cs, rfl, _⟩ := hok
      simp only [ofTy]
      unfold SV.den
      refine ⟨cs.toList, by simp, explode_den _ ?_⟩
      simpa [Value.cells] using h
    · cases ht

def fitsB (P : Program) (n : Nat) : List TypeId → List Ty → Bool
  | [], [] => true
  | T :: Ts, t :: ts => fitB P n T t && (topB P T t && fitsB P n Ts ts)
  | _, _ => false

theorem args_of {ρ : List Value} {base : Nat} {r : Reach} (n : Nat) : (Ts : List TypeId) → (ts : List Ty) → fitsB P n Ts ts = true → ∀ {vs : List Value} {ds : List (DataW H)} {ps : List MemPlace},
    (∀ (j : Nat) t v, Ts[j]? = some t → vs[j]? = some v → Value.okWide P w r base t v) → DataW.TrodAll enc P w 0 spare held Ts vs ds ps → ∃ x : Den ts, SV.denL ρ (fun k => k < w.heap.size) w (ofArgs ts x) vs ∧ ((DataW.weightsEach P Ts ds).all (· ≤ reachBytes) = true → SzL ts x)
  | [], [], _, vs, ds, ps, _, h => by
    obtain ⟨rfl, _, _⟩ := trodAll_nil h
    exact ⟨(), by simp [ofArgs, SV.denL], fun _ => trivial⟩
  | T :: Ts, t :: ts, hf, vs, ds, ps, hok, h => by
    simp only [fitsB, Bool.and_eq_true] at hf
    obtain ⟨v, vs', d, ds', p, q, rfl, rfl, rfl, h0, h1⟩ := trodAll_cons h
    obtain ⟨fuel, h0⟩ := h0
    obtain ⟨y, hy, hyw⟩ := rd_of n T t hf.1 h0
    obtain ⟨z, hz, hzw⟩ := args_of n Ts ts hf.2.2 (fun j t v a b => hok (j + 1) t v (by simpa using a) (by simpa using b)) h1
    refine ⟨(y, z), ?_, fun hw => ?_⟩
    rotate_left
    · simp only [DataW.weightsEach, List.all_append, Bool.and_eq_true] at hw
      exact ⟨hyw hw.1, hzw hw.2⟩
    simp only [ofArgs]
    unfold SV.denL
    exact ⟨v, vs', rfl, sv_of (hok 0 T v rfl rfl) hf.2.1 hy, hz⟩
  | [], _ :: _, hf, _, _, _, _, _ => by cases hf
  | _ :: _, [], hf, _, _, _, _, _ => by cases hf

theorem trodAll_below (hl : laidOutB P = true) {W' : World} (hb : Below w.heap.size w W') : (Ts : List TypeId) → (∀ T ∈ Ts, P.readableRec T = true ∧ T < P.types.size) → ∀ {vs : List Value} {ds : List (DataW H)} {ps : List MemPlace},
    DataW.TrodAll enc P w 0 (fun _ => true) true Ts vs ds ps → DataW.TrodAll enc P W' 0 (fun b => decide (b < w.heap.size)) true Ts vs ds ps
  | [], _, vs, ds, ps, h => by
    obtain ⟨rfl, rfl, rfl⟩ := trodAll_nil h
    exact trodAll_mk0
  | T :: Ts, hr, vs, ds, ps, h => by
    obtain ⟨v, vs', d, ds', p, q, rfl, rfl, rfl, h0, h1⟩ := trodAll_cons h
    have hlt : ∀ x ∈ p, x.block < w.heap.size := by obtain ⟨m, hm⟩ := h0; exact DataW.trod_lt m _ _ _ hm
    exact trodAll_cons_mk (Below.trod hl (hr T (by simp)).1 (hr T (by simp)).2 h0 hb hlt) (trodAll_below hl hb Ts (fun T hT => hr T (by simp [hT])) h1)

def recB (P : Program) (Ts : List TypeId) : Bool := Ts.all fun T => P.readableRec T && decide (T < P.types.size)

/-- A function that answers true of all data of its types: what a law's row asks of a call. -/
theorem law_callsS {fn : Func} {f : FuncId} {s : ChangeSpec} {apart : Bool} {ts : List Ty} {rT : TypeId} (hl : laidOutB P = true) (n : Nat) (hfit : fitsB P n fn.params.toList ts = true) (hrec : recB P fn.params.toList = true) (hres : fn.resultTypes = #[rT]) (hrb : P.underlying rT = some .bool)
    (hvars : s.vars = []) (hfn : ∀ ds : List (DataW H), ds.length = ts.length → s.fn H ds = { results := [.lit (.bool true)], args := ds })
    {pre : Den ts → Bool} (hok : PSpecOk P f (Q ts [.bool] pre (fun _ => (true, ()))))
    {W : World} {base : Nat} {args : Array Value} {ds gs : List (DataW H)} {before : List MemPlace}
    (hval : ∀ (j : Nat) t v, fn.params[j]? = some t → args[j]? = some v → Value.okWide P W .any base t v)
    (hW : DataW.Whole enc P fn.params.toList s.vars apart W args.toList ds gs before) (hpre : ∀ x, ((DataW.weightsEach P fn.params.toList ds).all (· ≤ reachBytes) = true → SzL ts x) → pre x = true) :
    Calls P f args W fun e W' => ∃ v, e = .returned v ∧ s.post enc P fn apart true false false W args v W' := by
  have hW' := hW
  obtain ⟨p, q, hA, hV, rfl, hfz, hnd⟩ := hW
  rw [hvars] at hV
  obtain ⟨rfl, rfl⟩ := trodVars_none hV
  have hlen : ds.length = ts.length := by
    have h1 : ∀ (Ts : List TypeId) (ts : List Ty) (vs : List Value) (ds : List (DataW H)) (ps : List MemPlace), fitsB P n Ts ts = true → DataW.TrodAll enc P W 0 (fun _ => true) true Ts vs ds ps → ds.length = ts.length := by
      intro Ts
      induction Ts with
      | nil => intro ts vs ds ps h1 h2; cases ts with
        | nil => obtain ⟨_, rfl, _⟩ := trodAll_nil h2; rfl
        | cons => cases h1
      | cons T Ts ih => intro ts vs ds ps h1 h2; cases ts with
        | nil => cases h1
        | cons t ts =>
          simp only [fitsB, Bool.and_eq_true] at h1
          obtain ⟨_, _, _, ds', _, _, _, rfl, _, _, h3⟩ := trodAll_cons h2
          simp [ih ts _ ds' _ h1.2.2 h3]
    exact h1 _ _ _ _ _ hfit hA
  obtain ⟨x, hx, hxw⟩ := args_of (ρ := []) (base := base) (r := .any) n _ ts hfit (vs := args.toList) (fun j t v a b => hval j t v (by simpa using a) (by simpa using b)) hA
  have hc := hok [] (fun k => k < W.heap.size) W (fun k h => h) (ofArgs ts x) args.toList (pre x = true) (.bool true) hx (by simp [Q, asArgs_ofArgs, ofArgs, ofTy, resSV]) (hpre x hxw)
  have e : args.toList.toArray = args := by simp
  rw [e] at hc
  refine hc.mono ?_
  rintro e W' ⟨v, rfl, bel, hv⟩
  simp only [SV.den] at hv
  subst hv
  refine ⟨_, rfl, ds, [], p ++ [], [], p, [], hW', ?_, ?_, ?_, bel.frame _, fun h => by cases h⟩
  · rw [List.append_nil, hfn ds hlen, hres]
    exact trodAll_mk1 (shut_bool hrb _)
  · rw [List.append_nil, hfn ds hlen]
    refine trodAll_below hl bel _ (fun T hT => ?_) hA
    have := List.all_eq_true.1 hrec T hT
    simpa using this
  · rw [hvars, List.append_nil, hfn ds hlen]; rfl

theorem law_calls {fn : Func} {f : FuncId} {s : ChangeSpec} {apart : Bool} {ts : List Ty} {rT : TypeId} (hl : laidOutB P = true) (n : Nat) (hfit : fitsB P n fn.params.toList ts = true) (hrec : recB P fn.params.toList = true) (hres : fn.resultTypes = #[rT]) (hrb : P.underlying rT = some .bool)
    (hvars : s.vars = []) (hfn : ∀ ds : List (DataW H), ds.length = ts.length → s.fn H ds = { results := [.lit (.bool true)], args := ds })
    (hok : PSpecOk P f (Q ts [.bool] (fun _ => true) (fun _ => (true, ()))))
    {W : World} {base : Nat} {args : Array Value} {ds gs : List (DataW H)} {before : List MemPlace}
    (hval : ∀ (j : Nat) t v, fn.params[j]? = some t → args[j]? = some v → Value.okWide P W .any base t v)
    (hW : DataW.Whole enc P fn.params.toList s.vars apart W args.toList ds gs before) :
    Calls P f args W fun e W' => ∃ v, e = .returned v ∧ s.post enc P fn apart true false false W args v W' :=
  law_callsS hl n hfit hrec hres hrb hvars hfn hok hval hW (fun _ _ => rfl)
end
end Go.Proofs.Ytfdcmbaoekjkgaa.Gx
namespace Go.Proofs.Ytfdcmbaoekjkgaa.Gx
open Go.RowKit
set_option linter.unusedSimpArgs false
set_option linter.unusedVariables false

/-- How data of the type t lie in memory: some resources, the first of them the object itself. -/
structure Pk (t : Ty) where
  β : Type
  rel : t.den → β → Prop
  n : Nat
  Rs : β → List Res
  hn : 0 < n
  hl : ∀ y, (Rs y).length = n
  hp : ∀ y, ((Rs y).all fun r => r.plain && r.wf n) = true
  h0 : ∀ y r, (Rs y)[0]? = some r → r.there = true

theorem Pk.plain {t : Ty} (K : Pk t) {y : K.β} {i : Nat} {r : Res} (h : (K.Rs y)[i]? = some r) : r.plain = true ∧ r.wf K.n = true := by
  have := List.all_eq_true.1 (K.hp y) r (List.mem_of_getElem? h)
  simpa using this

def Pk.cust {t : Ty} (K : Pk t) : Cust t where
  holds := fun x v w I F => ∃ (y : K.β) (ρ : List Value) (G : Nat → Nat → Prop), K.rel x y ∧ ρ[0]? = some v ∧ ρ.length = K.n ∧ (∀ (i : Nat) u, ρ[i]? = some u → u.oneCell' = true) ∧
    (∀ (i : Nat) (r : Res), (K.Rs y)[i]? = some r → r.holds (fun _ => none) ρ I w i (G i)) ∧ (∀ i j k, i < K.n → j < K.n → i ≠ j → G i k → ¬ G j k) ∧ (∀ k, F k ↔ ∃ i, i < K.n ∧ G i k)
  keep := by
    rintro x v w w' I I' F ⟨y, ρ, G, h1, h2, h3, h4, h5, h6, h7⟩ hF hI hw
    refine ⟨y, ρ, G, h1, h2, h3, h4, fun i r hr => ?_, h6, h7⟩
    have hi : i < K.n := by rw [← K.hl y]; exact (List.getElem?_eq_some_iff.1 hr).1
    exact Res.keep (fun _ _ h => h) hI hw (fun k hk => hF k ((h7 k).2 ⟨i, hi, hk⟩)) r (h5 i r hr)

def Pk.flat {t : Ty} (K : Pk t) : Nat → List K.β → List Res
  | _, [] => []
  | b, y :: ys => (K.Rs y).map (Res.tr fun k => some (b + k)) ++ K.flat (b + K.n) ys

theorem Pk.flat_length {t : Ty} (K : Pk t) : (b : Nat) → (ys : List K.β) → (K.flat b ys).length = ys.length * K.n
  | _, [] => by simp [Pk.flat]
  | b, y :: ys => by simp only [Pk.flat, List.length_append, List.length_map, K.hl, K.flat_length, List.length_cons, Nat.add_mul, Nat.one_mul]; omega

theorem Pk.flat_get {t : Ty} (K : Pk t) : (b : Nat) → (ys : List K.β) → (i : Nat) → (y : K.β) → ys[i]? = some y → ∀ (j : Nat) r, (K.Rs y)[j]? = some r → (K.flat b ys)[i * K.n + j]? = some (r.tr fun k => some (b + i * K.n + k))
  | _, [], i, y, h, _, _, _ => by simp at h
  | b, y0 :: ys, 0, y, h, j, r, hr => by
    simp at h; subst h
    have hj : j < K.n := by rw [← K.hl y0]; exact (List.getElem?_eq_some_iff.1 hr).1
    simp only [Pk.flat, Nat.zero_mul, Nat.zero_add, Nat.add_zero]
    rw [List.getElem?_append_left (by simp [K.hl, hj]), List.getElem?_map, hr]; rfl
  | b, y0 :: ys, i + 1, y, h, j, r, hr => by
    have ih := K.flat_get (b + K.n) ys i y (by simpa using h) j r hr
    simp only [Pk.flat]
    rw [List.getElem?_append_right (by simp [K.hl, Nat.add_mul]; omega), List.length_map, K.hl, show (i + 1) * K.n + j - K.n = i * K.n + j by rw [Nat.add_mul]; omega, ih]
    congr 2; funext k; rw [Nat.add_mul]; congr 1; omega

/-- So many of them. -/
def Tup {t : Ty} (K : Pk t) : Nat → Type
  | 0 => Unit
  | n + 1 => K.β × Tup K n
def Tup.list {t : Ty} {K : Pk t} : (n : Nat) → Tup K n → List K.β
  | 0, _ => []
  | n + 1, z => z.1 :: Tup.list n z.2
/-- One of the ways such a function may end. -/
structure PAlt {t : Ty} (K : Pk t) (α : Type) where
  β : Type
  k : Nat
  post : α → β → Prop
  r : α → β → SV
  outs : α → β → List t.den

def relL {t : Ty} (K : Pk t) : List t.den → List K.β → Prop
  | [], [] => True
  | d :: ds, y :: ys => K.rel d y ∧ relL K ds ys
  | _, _ => False

theorem relL_get {t : Ty} {K : Pk t} : (ds : List t.den) → (ys : List K.β) → relL K ds ys → ys.length = ds.length ∧ ∀ (i : Nat) d, ds[i]? = some d → ∃ y, ys[i]? = some y ∧ K.rel d y
  | [], [], _ => ⟨rfl, fun i d h => by simp at h⟩
  | d :: ds, y :: ys, h => by
    obtain ⟨h1, h2⟩ := relL_get ds ys h.2
    refine ⟨by simp [h1], fun i d' hd => ?_⟩
    cases i with
    | zero => simp at hd; subst hd; exact ⟨y, rfl, h.1⟩
    | succ i => simpa using h2 i d' (by simpa using hd)
  | [], _ :: _, h => h.elim
  | _ :: _, [], h => h.elim

def custs {t : Ty} (K : Pk t) (ds : List t.den) : List Res := ds.map fun d => .cust t K.cust d

section
variable {t : Ty} {K : Pk t} {P : Program} {ρ : List Value} {I : Nat → Prop} {F : Nat → Nat → Prop} {w : World}

theorem pack_out {ds : List t.den} {zs : List K.β} (hrel : relL K ds zs) (hown : Own (K.flat 0 zs) ρ I F w) :
    Own (custs K ds) ((List.range ds.length).map fun i => (ρ[i * K.n]?).getD holdV) I (fun i k => ∃ j, j < K.n ∧ F (i * K.n + j) k) w ∧ (∀ (i : Nat) v, i < ds.length → ρ[i * K.n]? = some v → ((List.range ds.length).map fun i => (ρ[i * K.n]?).getD holdV)[i]? = some v) := by
  obtain ⟨hlen, hr⟩ := relL_get ds zs hrel
  have hfl := K.flat_length 0 zs
  have hρl : ρ.length = ds.length * K.n := by rw [hown.len, hfl, hlen]
  have hn := K.hn
  have hlt : ∀ i j, i < ds.length → j < K.n → i * K.n + j < ds.length * K.n := fun i j hi hj => by
    have : (i + 1) * K.n ≤ ds.length * K.n := Nat.mul_le_mul_right _ hi
    rw [Nat.add_mul] at this; omega
  have hget : ∀ (i : Nat) v, i < ds.length → ρ[i * K.n]? = some v → ((List.range ds.length).map fun i => (ρ[i * K.n]?).getD holdV)[i]? = some v := by
    intro i v hi hv
    rw [List.getElem?_map, List.getElem?_range hi]
    simp [hv]
  have heq : ∀ i1 j1 i2 j2, j1 < K.n → j2 < K.n → i1 * K.n + j1 = i2 * K.n + j2 → i1 = i2 := by
    intro i1 j1 i2 j2 h1 h2 h
    have a1 : (i1 * K.n + j1) / K.n = i1 := by rw [Nat.mul_comm, Nat.mul_add_div hn, Nat.div_eq_of_lt h1]; simp
    have a2 : (i2 * K.n + j2) / K.n = i2 := by rw [Nat.mul_comm, Nat.mul_add_div hn, Nat.div_eq_of_lt h2]; simp
    rw [← a1, h, a2]
  refine ⟨⟨by simp [custs], ?_, ?_, ?_, ?_, ?_⟩, hget⟩
  · intro i v hv
    rw [List.getElem?_map, Option.map_eq_some_iff] at hv
    obtain ⟨i', hi', rfl⟩ := hv
    cases hc : ρ[i' * K.n]? with
    | none => rfl
    | some u => exact hown.ones _ u hc
  · intro i r hi
    simp only [custs, List.getElem?_map, Option.map_eq_some_iff] at hi
    obtain ⟨d, hd, rfl⟩ := hi
    have hil := (List.getElem?_eq_some_iff.1 hd).1
    obtain ⟨y, hy, hrl⟩ := hr i d hd
    have h0l := hlt i 0 hil hn
    rw [Nat.add_zero] at h0l
    obtain ⟨v, hv⟩ : ∃ v, ρ[i * K.n]? = some v := ⟨_, List.getElem?_eq_getElem (by omega)⟩
    have hsub : ∀ j, j < K.n → ((ρ.drop (i * K.n)).take K.n)[j]? = ρ[i * K.n + j]? := fun j hj => by rw [List.getElem?_take_of_lt hj, List.getElem?_drop]
    have hres : ∀ (j : Nat) (r : Res), (K.Rs y)[j]? = some r → r.holds (fun _ => none) ((ρ.drop (i * K.n)).take K.n) I w j (F (i * K.n + j)) := by
      intro j r hj
      have hjl : j < K.n := by rw [← K.hl y]; exact (List.getElem?_eq_some_iff.1 hj).1
      have hh := hown.holds _ _ (K.flat_get 0 zs i y hy j r hj)
      simp only [Nat.zero_add] at hh
      obtain ⟨p1, p2⟩ := K.plain hj
      exact Res.holds_rt (f := fun k => i * K.n + k) (fun m u hm hu => by rw [hsub m hm]; exact hu) (fun u hu => by rw [hsub j hjl]; exact hu) r p1 p2 hh
    refine ⟨v, hget i v hil hv, ?_, y, (ρ.drop (i * K.n)).take K.n, fun j => F (i * K.n + j), hrl, by rw [hsub 0 hn, Nat.add_zero]; exact hv, by rw [List.length_take, List.length_drop]; have := hlt i (K.n - 1) hil (by omega); omega, ?_, hres, ?_, fun k => Iff.rfl⟩
    · obtain ⟨r0, hr0⟩ : ∃ r0, (K.Rs y)[0]? = some r0 := ⟨_, List.getElem?_eq_getElem (by rw [K.hl]; exact hn)⟩
      exact root_ne (ρ := (ρ.drop (i * K.n)).take K.n) (i := 0) (by rw [hsub 0 hn, Nat.add_zero]; exact hv) r0 (K.plain hr0).1 (K.h0 y r0 hr0) (hres 0 r0 hr0)
    · intro j u hj
      have hjl : j < K.n := by
        rcases Nat.lt_or_ge j K.n with h | h
        · exact h
        · rw [List.getElem?_take, if_neg (by omega)] at hj; cases hj
      rw [hsub j hjl] at hj
      exact hown.ones _ u hj
    · intro j1 j2 k h1 h2 hne g1 g2
      have q1 := hlt i j1 hil h1
      have q2 := hlt i j2 hil h2
      exact hown.apart _ _ k (by rw [hfl, hlen]; exact q1) (by rw [hfl, hlen]; exact q2) (by omega) g1 g2
  · rintro i1 i2 k h1 h2 hne ⟨j1, q1, g1⟩ ⟨j2, q2, g2⟩
    simp only [custs, List.length_map] at h1 h2
    exact hown.apart _ _ k (by rw [hfl, hlen]; exact hlt i1 j1 h1 q1) (by rw [hfl, hlen]; exact hlt i2 j2 h2 q2) (fun e => hne (heq _ _ _ _ q1 q2 e)) g1 g2
  · rintro i k h1 ⟨j, q1, g1⟩
    simp only [custs, List.length_map] at h1
    exact hown.lt _ k (by rw [hfl, hlen]; exact hlt i j h1 q1) g1
  · rintro i k h1 ⟨j, q1, g1⟩
    simp only [custs, List.length_map] at h1
    exact hown.notI _ k (by rw [hfl, hlen]; exact hlt i j h1 q1) g1
end

/-- A method: one such object is given. -/
structure PC1 {t : Ty} (K : Pk t) where
  α : Type
  inn : α → t.den
  ss : α → List SV
  pre : α → Prop
  alts : List (PAlt K α)
def firsts (m n : Nat) : List Bool := (List.range (m * n)).map fun i => Nat.beq (i % n) 0
def PC1.H {t : Ty} {K : Pk t} (C : PC1 K) : HC where
  α := C.α
  m := 1
  ss := C.ss
  Rs := fun x => [.cust t K.cust (C.inn x)]
  pre := C.pre
  alts := C.alts.map fun A => { β := A.β, post := A.post, r := A.r, res := fun x y => custs K (A.outs x y), kp := [true] }
def PC1.U {t : Ty} {K : Pk t} (C : PC1 K) : HC where
  α := C.α × K.β
  m := K.n
  ss := fun x => SV.trL (fun i => some (i * K.n)) (C.ss x.1)
  Rs := fun x => K.Rs x.2
  pre := fun x => C.pre x.1 ∧ K.rel (C.inn x.1) x.2
  alts := C.alts.map fun A => { β := A.β × Tup K A.k, post := fun x y => A.post x.1 y.1 ∧ relL K (A.outs x.1 y.1) (y.2.list A.k), r := fun x y => SV.tr (fun i => some (i * K.n)) (A.r x.1 y.1), res := fun _ y => K.flat 0 (y.2.list A.k), kp := firsts 1 K.n }

/-- A function that is given no such object. -/
structure PC0 {t : Ty} (K : Pk t) where
  α : Type
  ss : α → List SV
  pre : α → Prop
  alts : List (PAlt K α)
def PC0.H {t : Ty} {K : Pk t} (C : PC0 K) : HC where
  α := C.α
  m := 0
  ss := C.ss
  Rs := fun _ => []
  pre := C.pre
  alts := C.alts.map fun A => { β := A.β, post := A.post, r := A.r, res := fun x y => custs K (A.outs x y), kp := [] }
def PC0.U {t : Ty} {K : Pk t} (C : PC0 K) : HC where
  α := C.α
  m := 0
  ss := C.ss
  Rs := fun _ => []
  pre := C.pre
  alts := C.alts.map fun A => { β := A.β × Tup K A.k, post := fun x y => A.post x y.1 ∧ relL K (A.outs x y.1) (y.2.list A.k), r := fun x y => SV.tr (fun i => some (i * K.n)) (A.r x y.1), res := fun _ y => K.flat 0 (y.2.list A.k), kp := [] }

section
variable {t : Ty} {K : Pk t} {P : Program}

theorem pack_ends {α α' : Type} {A : PAlt K α} {x : α} {y : A.β} {zs : List K.β} {m m' : Nat} {B : Alt α'} {x' : α'} {y' : B.β} (hres : B.res x' y' = K.flat 0 zs) (hr : B.r x' y' = SV.tr (fun i => some (i * K.n)) (A.r x y)) (hpost : A.post x y) (hrel : relL K (A.outs x y) zs)
    (hwf : SV.wf (A.outs x y).length (A.r x y) = true) (hm : m ≤ (A.outs x y).length) {kp : List Bool} {ρ0 ρ00 : List Value} {I I' : Nat → Prop} {F F00 F' : Nat → Nat → Prop} {w w' : World} {v : Value} {ρ1 : List Value}
    (hE : B.Ends m' x' y' ρ00 I F00 w v ρ1 I' F' w') (hFF : ∀ k, (∃ i, i < m ∧ F i k) ↔ ∃ i, i < m' ∧ F00 i k) (hkp : ∀ i, i < m → kp[i]? = some true → ρ0[i]? = ρ1[i * K.n]?) :
    ∃ ρ1' F'', ({ β := A.β, post := A.post, r := A.r, res := fun x y => custs K (A.outs x y), kp := kp } : Alt α).Ends m x y ρ0 I F w v ρ1' I' F'' w' := by
  have hown := hE.own
  rw [hres] at hown
  obtain ⟨h1, h2⟩ := pack_out hrel hown
  have hfl := K.flat_length 0 zs
  have hlen := (relL_get _ _ hrel).1
  have hb := hE.beside
  rw [hres, hfl] at hb
  have hlt : ∀ i j, i < (A.outs x y).length → j < K.n → i * K.n + j < zs.length * K.n := fun i j hi hj => by
    have : (i + 1) * K.n ≤ zs.length * K.n := Nat.mul_le_mul_right _ (by omega)
    rw [Nat.add_mul] at this; omega
  refine ⟨_, _, ⟨hpost, h1, ?_, by simpa [custs] using hm, ?_, ?_, ?_⟩⟩
  · have hd := hE.den
    rw [hr] at hd
    exact SV.den_rt (f := fun i => i * K.n) (fun i u hi hu => h2 i u hi hu) _ hwf hd
  · intro r hr'
    simp only [custs, List.mem_map] at hr'
    obtain ⟨d, _, rfl⟩ := hr'
    rfl
  · intro i hi hk
    have hil : i < (A.outs x y).length := by omega
    have hq : i * K.n < ρ1.length := by rw [hown.len, hfl]; have := hlt i 0 hil K.hn; omega
    rw [hkp i hi hk, List.getElem?_eq_getElem hq]
    exact h2 i _ hil (List.getElem?_eq_getElem hq)
  · refine ⟨hb.os, hb.tape, hb.output, hb.size, fun k hk hn => hb.frame k hk (fun i hi hF => ?_), hb.keepI, fun k hk => ?_, hb.Ilt, ?_⟩
    · obtain ⟨i2, g1, g2⟩ := (hFF k).2 ⟨i, hi, hF⟩
      exact hn i2 g1 g2
    · rcases hb.Inew k hk with h | h | h
      · exact .inl h
      · exact .inr (.inl ((hFF k).2 h))
      · exact .inr (.inr h)
    · rintro i k hi ⟨j, hj, hF⟩
      simp only [custs, List.length_map] at hi
      rcases hb.new (i * K.n + j) k (hlt i j hi hj) hF with h | h
      · exact .inl ((hFF k).2 h)
      · exact .inr h

theorem PC1.ok_of (C : PC1 K) {f : FuncId} (hwf : ∀ A ∈ C.alts, ∀ x y, SV.wf (A.outs x y).length (A.r x y) = true ∧ 1 ≤ (A.outs x y).length) (h : C.U.ok P f) : C.H.ok P f := by
  intro x hpre ρ0 I F w vs hown hI hd
  obtain ⟨v, hv, hvn, y, ρ, G, hrel, h1, h2, h3, h4, h5, h6⟩ := hown.holds 0 _ rfl
  have hU : Own (K.Rs y) ρ I G w := ⟨by rw [K.hl]; exact h2, h3, h4, fun i j k hi hj => h5 i j k (by rw [← K.hl y]; exact hi) (by rw [← K.hl y]; exact hj),
    fun i k hi hk => hown.lt 0 k (by simp [PC1.H]) ((h6 k).2 ⟨i, by rw [← K.hl y]; exact hi, hk⟩), fun i k hi hk => hown.notI 0 k (by simp [PC1.H]) ((h6 k).2 ⟨i, by rw [← K.hl y]; exact hi, hk⟩)⟩
  have hl0 : ρ0.length = 1 := hown.len
  have hroot : ∀ (i j : Nat) u, (some (i * K.n) : Option Nat) = some j → ρ0[i]? = some u → ρ[j]? = some u := by
    intro i j u he hu
    have : i = 0 := by have := (List.getElem?_eq_some_iff.1 hu).1; omega
    subst this
    simp only [Nat.zero_mul, Option.some.injEq] at he
    subst he
    rw [hv] at hu; cases hu; exact h1
  have hd' : SV.denL ρ I w (SV.trL (fun i => some (i * K.n)) (C.ss x)) vs := SV.denL_tr (g := fun i => some (i * K.n)) hroot (fun _ h => h) (fun _ _ => rfl) _ hd
  refine (h (x, y) ⟨hpre, hrel⟩ ρ I G w vs hU hI hd').mono ?_
  rintro e w' ⟨u, rfl, B, hB, y', ρ1, I', F', hE⟩
  obtain ⟨A, hA, rfl⟩ := List.mem_map.1 hB
  obtain ⟨hwf1, hwf2⟩ := hwf A hA x y'.1
  have hkept := hE.kept 0 K.hn (by
    simp only [firsts, List.getElem?_map, Nat.one_mul]
    rw [List.getElem?_range K.hn]; simp)
  obtain ⟨ρ1', F'', hEnd⟩ := pack_ends (A := A) (x := x) (y := y'.1) (zs := y'.2.list A.k) (m := 1) (kp := [true]) (ρ0 := ρ0) (F := F) rfl rfl hE.post.1 hE.post.2 hwf1 hwf2 hE (fun k => ⟨fun ⟨i, hi, hk⟩ => by
      have : i = 0 := by omega
      subst this; exact (h6 k).1 hk, fun h => ⟨0, by omega, (h6 k).2 h⟩⟩) (fun i hi _ => by
      have : i = 0 := by omega
      subst this
      rw [Nat.zero_mul, hkept, hv, h1])
  exact ⟨u, rfl, _, List.mem_map.2 ⟨A, hA, rfl⟩, y'.1, ρ1', I', F'', hEnd⟩

theorem PC0.ok_of (C : PC0 K) {f : FuncId} (hwf : ∀ A ∈ C.alts, ∀ x y, SV.wf (A.outs x y).length (A.r x y) = true) (h : C.U.ok P f) : C.H.ok P f := by
  intro x hpre ρ0 I F w vs hown hI hd
  refine (h x hpre ρ0 I F w vs hown hI hd).mono ?_
  rintro e w' ⟨u, rfl, B, hB, y', ρ1, I', F', hE⟩
  obtain ⟨A, hA, rfl⟩ := List.mem_map.1 hB
  obtain ⟨ρ1', F'', hEnd⟩ := pack_ends (A := A) (x := x) (y := y'.1) (zs := y'.2.list A.k) (m := 0) (kp := []) (ρ0 := ρ0) (F := F) rfl rfl hE.post.1 hE.post.2 (hwf A hA x y'.1) (Nat.zero_le _) hE (fun k => Iff.rfl) (fun i hi _ => by omega)
  exact ⟨u, rfl, _, List.mem_map.2 ⟨A, hA, rfl⟩, y'.1, ρ1', I', F'', hEnd⟩
end
end Go.Proofs.Ytfdcmbaoekjkgaa.Gx
namespace Go.Proofs.Ytfdcmbaoekjkgaa.Gx
open Go.RowKit
set_option linter.unusedSimpArgs false
set_option linter.unusedVariables false

def borL : List SV → St → (List SV → Prop) → Prop
  | [], _, k => k []
  | s :: ss, S, k => match s with
    | .hd e h => match findFam e 0 S.res with
      | some i => match S.res[i]? with
        | some (.fam _ ty os) => match Nat.beq ty.sz 1 with
          | true => HdIn os h ∧ borL ss S fun l => k (.rs ty (rdH os h) :: l)
          | false => False
        | _ => False
      | none => False
    | .row i => match S.res[i]? with
      | some (.row _ t xs) => borL ss S fun l => k (.rs t xs :: l)
      | _ => False
    | s => borL ss S fun l => k (s :: l)

def flatT : Ty → Bool
  | .slice _ => false
  | .pair a b => flatT a && flatT b
  | _ => true

theorem Rd.flat {I I' : Nat → Prop} {w w' : World} : (t : Ty) → flatT t = true → {x : t.den} → {cs : List Value} → Rd I w t x cs → Rd I' w' t x cs
  | .int _, _, _, _, h => h
  | .bool, _, _, _, h => h
  | .str, _, _, _, h => h
  | .adr _, _, _, _, h => h
  | .hd _, _, _, _, h => h
  | .slice _, h, _, _, _ => by simp [flatT] at h
  | .pair a b, hf, _, _, h => by
    simp only [flatT, Bool.and_eq_true] at hf
    obtain ⟨c1, c2, e, h1, h2⟩ := h
    exact ⟨c1, c2, e, Rd.flat a hf.1 h1, Rd.flat b hf.2 h2⟩
theorem RdL.flat {I I' : Nat → Prop} {w w' : World} (t : Ty) (hf : flatT t = true) : (xs : List t.den) → {cs : List Value} → RdL I w t xs cs → RdL I' w' t xs cs
  | [], _, h => h
  | x :: xs, _, h => by
    obtain ⟨c1, c2, e, h1, h2⟩ := h
    exact ⟨c1, c2, e, Rd.flat t hf h1, RdL.flat t hf xs h2⟩

section
variable {P : Program} {cx : Cx} {S : St} {ρ : List Value} {I : Nat → Prop} {F : Nat → Nat → Prop} {w : World} {a : Act} {sv : List Act}

/-- A slice in a block of one's own, read. -/
theorem hd_reads {I2 : Nat → Prop} (hI : ∀ k, I k → I2 k) {T : TypeId} {ty : Ty} {os : List (Nat × (Nat × List ty.den))} {Fi : Nat → Prop} (hF : FamOk I w T ty os Fi) (hFI : ∀ k, Fi k → I2 k) (h1 : ty.sz = 1) {h : Hd} (hok : h.ok) (hin : hdIn os h) :
    Rd I2 w (.slice ty) (rdH os h) [hdV h] := by
  obtain ⟨b, off, len, cap⟩ := h
  obtain ⟨ok1, ok2, ok3⟩ := hok
  simp only at ok1 ok2 ok3
  cases b with
  | none =>
    have : len = 0 := hin
    subst this
    refine ⟨none, cap, by simp [rdH, hdV], by simp [rdH], ok2, fun i x hx => by simp [rdH] at hx⟩
  | some g =>
    obtain ⟨n, xs, hl, i1, i2, i3⟩ := hin
    simp only at i1 i2 i3
    obtain ⟨cur, k1, k2, k3, k4⟩ := hF.rd g n xs (lookN_mem hl)
    have hrd : rdH os ⟨some g, off, len, cap⟩ = (xs.drop off).take len := by simp [rdH, hl]
    have hlen : ((xs.drop off).take len).length = len := by rw [List.length_take, List.length_drop]; omega
    rw [hrd]
    refine ⟨some ⟨g, off, none⟩, cap, by rw [hlen]; rfl, by rw [hlen]; exact ok1, ok2, fun i x hx => ?_⟩
    have hil : i < len := by have := (List.getElem?_eq_some_iff.1 hx).1; omega
    have hx' : xs[off + i]? = some x := by rw [List.getElem?_take_of_lt hil, List.getElem?_drop] at hx; exact hx
    obtain ⟨cells, g1, g2⟩ := RdL.get ty xs k4 (off + i) x hx'
    refine ⟨⟨g, off, none⟩, cells, rfl, hFI g ((hF.foot g).2 (List.mem_map.2 ⟨_, lookN_mem hl, rfl⟩)), Rd.keep hI (fun _ _ => rfl) ty g1, fun j u hj => ?_⟩
    have := g2 j u hj
    rw [List.getElem?_take] at this
    split at this
    · rw [plain_add', cell_of_row w g _ _ _ _ k1, h1, Nat.mul_one]
      rw [h1, Nat.mul_one, Nat.add_assoc] at this
      simpa using this
    · cases this

theorem borL_ok {I2 : Nat → Prop} (hM : Mem cx S.res ρ I F w) (hI : ∀ k, I k → I2 k) (hF2 : ∀ i k, i < S.res.length → F i k → I2 k) : (ss : List SV) → {vs : List Value} → {k : List SV → Prop} → SV.denL ρ I w ss vs → borL ss S k → ∃ ss', SV.denL ρ I2 w ss' vs ∧ k ss'
  | [], vs, k, hd, hk => ⟨[], hd, hk⟩
  | s :: ss, vs, k, hd, hk => by
    unfold SV.denL at hd
    obtain ⟨v, vs', rfl, h1, h2⟩ := hd
    have fin : ∀ (s' : SV), SV.den ρ I2 w s' v → (borL ss S fun l => k (s' :: l)) → ∃ ss', SV.denL ρ I2 w ss' (v :: vs') ∧ k ss' := by
      intro s' hd' hk'
      obtain ⟨l, g1, g2⟩ := borL_ok hM hI hF2 ss h2 hk'
      refine ⟨s' :: l, ?_, g2⟩
      unfold SV.denL
      exact ⟨v, vs', rfl, hd', g1⟩
    unfold borL at hk
    split at hk
    · rename_i e h
      split at hk
      · rename_i i hfi
        split at hk
        · rename_i T ty os hr
          split at hk
          · rename_i b1
            obtain ⟨⟨hin⟩, hk⟩ := hk
            unfold SV.den at h1
            obtain ⟨rfl, hok⟩ := h1
            have hil := (List.getElem?_eq_some_iff.1 hr).1
            refine fin _ ?_ hk
            unfold SV.den
            exact hd_reads hI (hM.holds _ _ hr).2 (fun k hk => hF2 i k hil hk) (Nat.eq_of_beq_eq_true b1) hok hin
          · exact hk.elim
        · exact hk.elim
      · exact hk.elim
    · rename_i i
      split at hk
      · rename_i e t xs hr
        have hil := (List.getElem?_eq_some_iff.1 hr).1
        obtain ⟨v', cells, g1, g2, g3, g4⟩ := hM.holds _ _ hr
        unfold SV.den at h1
        rw [h1.1] at g1
        cases g1
        refine fin _ ?_ hk
        unfold SV.den
        exact row_reads hI g2 g3 (fun k hk => hF2 i k hil ((g4 k).2 hk))
      · exact hk.elim
    · exact fin _ (SV.den_keep (fun _ _ h => h) hI (fun _ _ => rfl) _ h1) hk

/-- A pure function with a plain result: its arguments are lent. -/
def specB (q : PSpec) : Spec := fun ss S K => borL ss S fun ss' => match q ss' with
  | some (pre, s) => match s.exact with
    | true => pre ∧ K s S
    | false => False
  | none => False

theorem specB_ok {f : FuncId} {q : PSpec} (hq : PSpecOk P f q) : SpecOk P f (specB q) := by
  intro cx S a w sv ss vs K h hk
  obtain ⟨ρ, I, F, hM, hf, hs, hd⟩ := h
  obtain ⟨ss', h1, h2⟩ := borL_ok (I2 := fun k => I k ∨ ∃ i, i < S.res.length ∧ F i k) hM (fun _ h => .inl h) (fun i k hi hk => .inr ⟨i, hi, hk⟩) ss hd hk
  split at h2
  · rename_i pre s hqs
    split at h2
    · rename_i hex
      refine (hq ρ _ w (fun k hk => hk.elim (hM.Ilt k) (fun ⟨i, hi, hk⟩ => hM.lt i k hi hk)) ss' vs pre s h1 hqs h2.1).mono ?_
      rintro e w' ⟨v, rfl, hb, hr⟩
      have hsame : ∀ k, I k → w'.heap[k]? = w.heap[k]? := fun k hk => hb.block k (hM.Ilt k hk)
      refine ⟨v, s, S, rfl, ⟨ρ, _, F, hM.below hb, hf.keep (fun _ _ h => h) (fun _ h => .inl h) hsame, StkOk.keep (fun _ _ h => h) (fun _ h => .inl h) hsame _ hs, ?_⟩, h2.2⟩
      unfold SV.denL
      refine ⟨v, [], rfl, ?_, by simp [SV.denL]⟩
      cases s with
      | int _ _ => unfold SV.den at hr ⊢; exact hr
      | bool _ => unfold SV.den at hr ⊢; exact hr
      | lit _ => unfold SV.den at hr ⊢; exact hr
      | str _ => unfold SV.den at hr ⊢; exact hr
      | adr _ _ => unfold SV.den at hr ⊢; exact hr
      | _ => simp [SV.exact] at hex
    · exact h2.elim
  · exact h2.elim

/-- A function that gives a row of one's own: its arguments are lent. -/
def specOB (ts : List Ty) (e : TypeId) (t : Ty) (pre : Den ts → Bool) (g : Den ts → List t.den) : Spec := fun ss S K => borL ss S fun ss' => match asArgs ts ss' with
  | some x => pre x = true ∧ K (.row S.res.length) (S.push (.row e t (g x)))
  | none => False

theorem specOB_ok {f : FuncId} {ts : List Ty} {e : TypeId} {t : Ty} {pre : Den ts → Bool} {g : Den ts → List t.den} (hfl : flatT t = true) (hq : OwnOk P f ts e t pre g) : SpecOk P f (specOB ts e t pre g) := by
  intro cx S a w sv ss vs K h hk
  obtain ⟨ρ, I, F, hM, hf, hs, hd⟩ := h
  obtain ⟨ss', h1, h2⟩ := borL_ok (I2 := fun k => I k ∨ ∃ i, i < S.res.length ∧ F i k) hM (fun _ h => .inl h) (fun i k hi hk => .inr ⟨i, hi, hk⟩) ss hd hk
  split at h2
  · rename_i x hx
    obtain ⟨hpre, hk'⟩ := h2
    refine (hq ρ _ w (fun k hk => hk.elim (hM.Ilt k) (fun ⟨i, hi, hk⟩ => hM.lt i k hi hk)) x vs (asArgs_den ts h1 hx) hpre).mono ?_
    rintro ee w' ⟨v, cells, rfl, hb, ho, hn, hr⟩
    have hI : ∀ k, I k → (I k ∨ (w.heap.size ≤ k ∧ k < w'.heap.size)) ∧ v.ownBlock ≠ some k := fun k hk => ⟨.inl hk, fun e => by have := (hn k e).1; have := hM.Ilt k hk; omega⟩
    have hsame : ∀ k, I k → w'.heap[k]? = w.heap[k]? := fun k hk => hb.block k (hM.Ilt k hk)
    refine ⟨v, .row S.res.length, S.push (.row e t (g x)), rfl, ⟨_, _, _, hM.belowPush hb ho hn (RdL.flat t hfl _ hr), hf.keep (fun _ _ h => rho_snoc h) hI hsame, StkOk.keep (fun _ _ h => rho_snoc h) hI hsame _ hs, ?_⟩, hk'⟩
    unfold SV.denL SV.den
    exact ⟨v, [], rfl, ⟨by rw [← hM.len]; simp, own_ne ho⟩, by simp [SV.denL]⟩
  · exact h2.elim
end
end Go.Proofs.Ytfdcmbaoekjkgaa.Gx
namespace Go.Proofs.Ytfdcmbaoekjkgaa.Gx
open Go.RowKit
set_option linter.unusedSimpArgs false
set_option linter.unusedVariables false

/-- A function that computes and leaves the world as it is. -/
def PExact (P : Program) (f : FuncId) (q : PSpec) : Prop :=
  ∀ (ρ : List Value) (I : Nat → Prop) (w : World) (ss : List SV) (vs : List Value) (pre : Prop) (s : SV), SV.denL ρ I w ss vs → q ss = some (pre, s) → pre →
    Calls P f vs.toArray w fun e w' => ∃ v, e = .returned v ∧ w' = w ∧ SV.den [] I w s v
def PSpecs.exact (P : Program) (π : PSpecs) : Prop := ∀ f q, π f = some q → hasBody P f = true ∧ PExact P f q

section
variable {P : Program} {cx : Cx} {S : St} {ρ : List Value} {I : Nat → Prop} {F : Nat → Nat → Prop} {w : World} {a : Act} {sv : List Act}

theorem Mem.drewN {res : List Res} (h : Mem cx res ρ I F w) (n : Nat) : Mem cx res ρ I F (w.drewN n) where
  len := h.len
  ones := h.ones
  holds := fun i r hr => Res.keep (w := w) (w' := w.drewN n) (fun _ _ h => h) (fun _ h => h) (fun _ _ => rfl) (fun _ _ => rfl) r (h.holds i r hr)
  apart := h.apart
  lt := h.lt
  notI := h.notI
  new := h.new
  I0 := h.I0
  Ilt := h.Ilt
  Inew := h.Inew
  size := h.size
  os := h.os
  tape := h.tape
  output := h.output
  frame := h.frame

theorem Ok.drewN {ss : List SV} {vs : List Value} (h : Ok cx S a w sv ss vs) (n : Nat) : Ok cx S a (w.drewN n) sv ss vs := by
  obtain ⟨ρ, I, F, hM, hf, hs, hd⟩ := h
  exact ⟨ρ, I, F, hM.drewN n, hf.keep (w := w) (w' := w.drewN n) (fun _ _ h => h) (fun _ h => h) (fun _ _ => rfl), StkOk.keep (w := w) (w' := w.drewN n) (fun _ _ h => h) (fun _ h => h) (fun _ _ => rfl) _ hs, SV.denL_keep (w := w) (w' := w.drewN n) (fun _ _ h => h) (fun _ h => h) (fun _ _ => rfl) _ hd⟩

theorem drewN_add (w : World) (m n : Nat) : (w.drewN m).drewN n = w.drewN (m + n) := by simp [World.drewN, Nat.add_assoc]

theorem zop_sound {π : PSpecs} (hπ : π.exact P) {o : Oper} {k : SV → Prop} (hM : Mem cx S.res ρ I F w) (hf : FrOk ρ I w S.fr a) (hv : vqop P π S o k) {next : Act → Prop}
    (hn : ∀ s v, SV.den ρ I w s v → k s → next (a.put o.dst v)) : o.quiet P a (fun w' => ∃ n, w' = w.drewN n) next := by
  have pureCase : spure P S o k → o.quiet P a (fun w' => ∃ n, w' = w.drewN n) next := by
    intro hp
    obtain ⟨v, s, h1, h2, h3⟩ := spure_sound hM hf hp
    refine ⟨v, fun w' hw' => ?_, hn s v h1 h2⟩
    obtain ⟨n, rfl⟩ := hw'
    unfold Oper.quietAt
    rw [h3 (w.drewN n) (fun k hk => rfl)]
    exact ⟨rfl, rfl⟩
  unfold vqop at hv
  split at hv
  · rename_i c ho
    split at hv
    · rename_i f hc
      split at hv
      · rename_i g caps hg
        split at hv
        · rename_i q hq
          split at hv
          · rename_i pre s hqs
            split at hv
            · rename_i hex
              obtain ⟨hb, hok⟩ := hπ g q hq
              have hfd := Fr.ev_den hf f
              rw [hg] at hfd
              unfold SV.den at hfd
              obtain ⟨cv, hfe, hcv⟩ := hfd
              have hargs := SV.denL_append _ _ (Fr.evs_den hf c.args.toList) hcv
              have hrun : ∀ w', (execOp a.eval o).run P w' = .ok (.enter g (c.args.toList.map a.eval ++ cv).toArray) w' := by
                intro w'
                have hres : (resolve a.eval c o.type).run P w' = .ok { target := .fn (.func g) cv.toArray, args := c.args.map a.eval } w' := by
                  simp only [resolve, hc, hfe, Deferred.ofValue]
                  simp
                simp only [execOp, ho, Sem.run_bind, hres, Result.andThen_ok, invoke]
                rw [hasBody_call hb]
                congr 2
                apply Array.ext'
                simp
              obtain ⟨hpre, hk⟩ := hv
              have hval : ∃ v, ∀ (ρ : List Value) (I : Nat → Prop) (w : World) (u : Value), SV.den ρ I w s u → u = v := by
                cases s with
                | int kk n => exact ⟨.int kk n, fun ρ I w u h => by unfold SV.den at h; exact h⟩
                | bool b => exact ⟨.bool b, fun ρ I w u h => by unfold SV.den at h; exact h⟩
                | lit b => exact ⟨.bool b, fun ρ I w u h => by unfold SV.den at h; exact h⟩
                | str b => exact ⟨.string b, fun ρ I w u h => by unfold SV.den at h; exact h.1⟩
                | adr T x => exact ⟨padr x, fun ρ I w u h => by unfold SV.den at h; exact h⟩
                | _ => simp [SV.exact] at hex
              obtain ⟨v, hv⟩ := hval
              have hcalls : ∀ w', (∃ n, w' = w.drewN n) → Calls P g (c.args.toList.map a.eval ++ cv).toArray w' (fun e w'' => e = .returned v ∧ ∃ n, w'' = w.drewN n) := by
                rintro w' ⟨n, rfl⟩
                refine (hok ρ I (w.drewN n) _ _ pre s (SV.denL_keep (w := w) (w' := w.drewN n) (fun _ _ h => h) (fun _ h => h) (fun _ _ => rfl) _ hargs) hqs hpre).mono ?_
                rintro e w'' ⟨u, rfl, rfl, hd⟩
                exact ⟨by rw [hv _ _ _ _ hd], n, rfl⟩
              refine ⟨v, fun w' hw' => ?_, ?_⟩
              · unfold Oper.quietAt
                rw [hrun w']
                exact ⟨rfl, hcalls w' hw'⟩
              · refine hn s v ?_ hk
                cases s with
                | int kk n => unfold SV.den; exact (hv [] I w (.int kk n) (by unfold SV.den; rfl)).symm
                | bool b => unfold SV.den; exact (hv [] I w (.bool b) (by unfold SV.den; rfl)).symm
                | lit b => unfold SV.den; exact (hv [] I w (.bool b) (by unfold SV.den; rfl)).symm
                | adr T x => unfold SV.den; exact (hv [] I w (padr x) (by unfold SV.den; rfl)).symm
                | str b =>
                  obtain ⟨e, w', fr, ⟨⟨u, _, _, hd⟩, _⟩⟩ := hok ρ I w _ _ pre (.str b) hargs hqs hpre []
                  unfold SV.den at hd ⊢
                  exact ⟨(hv [] I w (.string b) (by unfold SV.den; exact ⟨rfl, hd.2⟩)).symm, hd.2⟩
                | _ => simp [SV.exact] at hex
            · exact hv.elim
          · exact hv.elim
        · exact hv.elim
      · exact hv.elim
    · exact hv.elim
    · exact pureCase hv
    · exact hv.elim
  · exact hv.elim
  · exact hv.elim
  · exact hv.elim
  · exact hv.elim
  · exact pureCase hv

theorem zops_sound {π : PSpecs} (hπ : π.exact P) {ops : Array Oper} (K : St → Prop) {Q : Act → Prop} : (l : List Oper) → (S : St) → (a : Act) → Mem cx S.res ρ I F w → FrOk ρ I w S.fr a → vqops P π ops l S K →
    (∀ S' a', S'.res = S.res → S'.stk = S.stk → a'.defers = a.defers → FrOk ρ I w S'.fr a' → K S' → Q a') → wpQuiet P ops (fun w' => ∃ n, w' = w.drewN n) Q l a
  | [], S, a, hM, hf, hv, hq => hq S a rfl rfl rfl hf hv
  | o :: rest, S, a, hM, hf, hv, hq => by
    have hdef : ∀ v, (a.put o.dst v).defers = a.defers := fun v => by cases o.dst <;> rfl
    have goYes : ∀ S1, S1.res = S.res → S1.stk = S.stk → FrOk ρ I w S1.fr a → Region.wanted o (yielded ops a.tmps) = true →
        (vqop P π S1 o fun s => match putS S1 o.dst s with | some S2 => vqops P π ops rest S2 K | none => False) → wpQuiet P ops (fun w' => ∃ n, w' = w.drewN n) Q (o :: rest) a := by
      intro S1 e1 e2 h1 hw hv1
      unfold wpQuiet
      rw [if_pos hw]
      refine zop_sound hπ (by rw [e1]; exact hM) h1 hv1 (fun s v h2 hk => ?_)
      split at hk
      · rename_i S2 hp
        obtain ⟨g1, g2, g3⟩ := putS_fr h1 h2 hp
        exact zops_sound hπ K rest S2 _ (by rw [g2, e1]; exact hM) g1 hk (fun S' a' k1 k2 k5 k3 k4 => hq S' a' (by rw [k1, g2, e1]) (by rw [k2, g3, e2]) (by rw [k5, hdef]) k3 k4)
      · exact hk.elim
    have goNo : ∀ S1, S1.res = S.res → S1.stk = S.stk → FrOk ρ I w S1.fr a → Region.wanted o (yielded ops a.tmps) = false →
        (match putS S1 o.dst .undef with | some S2 => vqops P π ops rest S2 K | none => False) → wpQuiet P ops (fun w' => ∃ n, w' = w.drewN n) Q (o :: rest) a := by
      intro S1 e1 e2 h1 hw hv1
      unfold wpQuiet
      rw [if_neg (by rw [hw]; simp)]
      split at hv1
      · rename_i S2 hp
        obtain ⟨g1, g2, g3⟩ := putS_fr (v := Go.undef) h1 (by simp [SV.den]) hp
        exact zops_sound hπ K rest S2 _ (by rw [g2, e1]; exact hM) g1 hv1 (fun S' a' k1 k2 k5 k3 k4 => hq S' a' (by rw [k1, g2, e1]) (by rw [k2, g3, e2]) (by rw [k5, hdef]) k3 k4)
      · exact hv1.elim
    have hg := gdOf_spec (ops := ops) (o := o) hf
    unfold vqops at hv
    split at hv
    · rename_i e; rw [e] at hg; exact goYes S rfl rfl hf hg hv
    · rename_i e; rw [e] at hg; exact goNo S rfl rfl hf hg hv
    · rename_i b want d e
      rw [e] at hg
      obtain ⟨h1, h2⟩ := hg
      by_cases hbw : b = want
      · have hv1 := hv.1 hbw
        split at hv1
        · rename_i S1 hp
          obtain ⟨g1, g2, g3⟩ := putS_fr (a := a) (v := .bool b) hf (by simp [SV.den, hbw]) hp
          rw [put_same a h1] at g1
          exact goYes S1 g2 g3 g1 (by rw [h2, hbw]; simp) hv1
        · exact hv1.elim
      · have hbn : b = !want := by cases b <;> cases want <;> simp_all
        have hv1 := hv.2 hbn
        split at hv1
        · rename_i S1 hp
          obtain ⟨g1, g2, g3⟩ := putS_fr (a := a) (v := .bool b) hf (by simp [SV.den, hbn]) hp
          rw [put_same a h1] at g1
          exact goNo S1 g2 g3 g1 (by rw [h2]; simp [hbw]) hv1
        · exact hv1.elim
    · exact hv.elim
end

def noP : PSpecs := fun _ => none
/-- Code that only reads: regions one behind the other. -/
def rreg (P : Program) (π : PSpecs) (ops : Array Oper) (dr : Bool) (S : St) (K : St → Prop) : Prop := match dr with
  | true => match Region.lexB .any ops with
    | true => vqops P π ops ops.toList S K
    | false => False
  | false => vqops P noP ops ops.toList S K
def rvx (P : Program) (π : PSpecs) : Code → St → (X → St → Prop) → Prop
  | .skip, S, K => K .normal S
  | .region _ ops dr, S, K => rreg P π ops dr S (K .normal)
  | .seq a b, S, K => rvx P π a S fun e S' => match e with
    | .normal => rvx P π b S' K
    | e => K e S'
  | .cond c x y, S, K => match S.fr.ev c with
    | .lit true => rvx P π x S K
    | .lit false => rvx P π y S K
    | .bool b => (b = true → rvx P π x (S.know c true) K) ∧ (b = false → rvx P π y (S.know c false) K)
    | _ => False
  | .block id c, S, K => rvx P π c S fun e S' => match e with
    | .exit i => bif Nat.beq i id then K .normal S' else K (.exit i) S'
    | e => K e S'
  | .exit id, S, K => K (.exit id) S
  | .ret, S, K => K .ret S
  | _, _, _ => False
def rvc (P : Program) (π : PSpecs) (c : Code) (S : St) (K : St → Prop) : Prop := rvx P π c S fun e S' => match e with
  | .ret => K S'
  | _ => False

section
variable {P : Program} {cx : Cx} {S : St} {ρ : List Value} {I : Nat → Prop} {F : Nat → Nat → Prop} {w : World} {a : Act} {sv : List Act}

/-- Operations one behind the other that leave the world as it is. -/
theorem rops_sound {n : Nat} {ops : Array Oper} {Q : Exit → Act → World → Prop} (K : St → Prop) : (l : List Oper) → (S : St) → (a : Act) → Mem cx S.res ρ I F w → FrOk ρ I w S.fr a → vqops P noP ops l S K →
    (∀ S' a', S'.res = S.res → S'.stk = S.stk → a'.defers = a.defers → FrOk ρ I w S'.fr a' → K S' → Q .normal a' w) → wpListIn (Wf none) n P ops Q l a w
  | [], S, a, hM, hf, hv, hq => hq S a rfl rfl rfl hf hv
  | o :: rest, S, a, hM, hf, hv, hq => by
    have hdef : ∀ v, (a.put o.dst v).defers = a.defers := fun v => by cases o.dst <;> rfl
    have goYes : ∀ S1, S1.res = S.res → S1.stk = S.stk → FrOk ρ I w S1.fr a → Region.wanted o (yielded ops a.tmps) = true →
        (vqop P noP S1 o fun s => match putS S1 o.dst s with | some S2 => vqops P noP ops rest S2 K | none => False) → wpListIn (Wf none) n P ops Q (o :: rest) a w := by
      intro S1 e1 e2 h1 hw hv1
      unfold wpListIn
      rw [if_pos hw]
      have hp : spure P S1 o (fun s => match putS S1 o.dst s with | some S2 => vqops P noP ops rest S2 K | none => False) := by
        unfold vqop at hv1
        split at hv1
        · rename_i c ho
          split at hv1
          · split at hv1
            · exact hv1.elim
            · exact hv1.elim
          · exact hv1.elim
          · exact hv1
          · exact hv1.elim
        · exact hv1.elim
        · exact hv1.elim
        · exact hv1.elim
        · exact hv1.elim
        · exact hv1
      have hnd : ∀ c, o.op ≠ .defer c := by
        intro c ho
        unfold spure at hp
        rw [ho] at hp
        exact hp
      obtain ⟨v, s, g1, g2, g3⟩ := spure_sound (by rw [e1]; exact hM) h1 hp
      refine ⟨fun _ _ => trivial, ?_⟩
      rw [semAt_exec _ _ _ hnd, g3 w (Same.refl w)]
      split at g2
      · rename_i S2 hp2
        obtain ⟨q1, q2, q3⟩ := putS_fr h1 g1 hp2
        exact rops_sound K rest S2 _ (by rw [q2, e1]; exact hM) q1 g2 (fun S' a' k1 k2 k5 k3 k4 => hq S' a' (by rw [k1, q2, e1]) (by rw [k2, q3, e2]) (by rw [k5, hdef]) k3 k4)
      · exact g2.elim
    have goNo : ∀ S1, S1.res = S.res → S1.stk = S.stk → FrOk ρ I w S1.fr a → Region.wanted o (yielded ops a.tmps) = false →
        (match putS S1 o.dst .undef with | some S2 => vqops P noP ops rest S2 K | none => False) → wpListIn (Wf none) n P ops Q (o :: rest) a w := by
      intro S1 e1 e2 h1 hw hv1
      unfold wpListIn
      rw [if_neg (by rw [hw]; simp)]
      refine ⟨fun _ _ => trivial, ?_⟩
      split at hv1
      · rename_i S2 hp
        obtain ⟨g1, g2, g3⟩ := putS_fr (v := Go.undef) h1 (by simp [SV.den]) hp
        exact rops_sound K rest S2 _ (by rw [g2, e1]; exact hM) g1 hv1 (fun S' a' k1 k2 k5 k3 k4 => hq S' a' (by rw [k1, g2, e1]) (by rw [k2, g3, e2]) (by rw [k5, hdef]) k3 k4)
      · exact hv1.elim
    have hg := gdOf_spec (ops := ops) (o := o) hf
    unfold vqops at hv
    split at hv
    · rename_i e; rw [e] at hg; exact goYes S rfl rfl hf hg hv
    · rename_i e; rw [e] at hg; exact goNo S rfl rfl hf hg hv
    · rename_i b want d e
      rw [e] at hg
      obtain ⟨h1, h2⟩ := hg
      by_cases hbw : b = want
      · have hv1 := hv.1 hbw
        split at hv1
        · rename_i S1 hp
          obtain ⟨g1, g2, g3⟩ := putS_fr (a := a) (v := .bool b) hf (by simp [SV.den, hbw]) hp
          rw [put_same a h1] at g1
          exact goYes S1 g2 g3 g1 (by rw [h2, hbw]; simp) hv1
        · exact hv1.elim
      · have hbn : b = !want := by cases b <;> cases want <;> simp_all
        have hv1 := hv.2 hbn
        split at hv1
        · rename_i S1 hp
          obtain ⟨g1, g2, g3⟩ := putS_fr (a := a) (v := .bool b) hf (by simp [SV.den, hbn]) hp
          rw [put_same a h1] at g1
          exact goNo S1 g2 g3 g1 (by rw [h2]; simp [hbw]) hv1
        · exact hv1.elim
    · exact hv.elim

theorem rreg_sound {π : PSpecs} (hπ : π.exact P) (hmix : P.follows .mixedOrders = true) {n id : Nat} {ops : Array Oper} {dr : Bool} {K : St → Prop} {Q : Exit → Act → World → Prop} (h : Ok cx S a w sv [] []) (hde : a.defers = []) (hv : rreg P π ops dr S K)
    (hq : ∀ S' a' m, Ok cx S' a' (w.drewN m) sv [] [] → a'.defers = [] → S'.res = S.res → K S' → Q .normal a' (w.drewN m)) : (Code.region id ops dr).wpIn (Wf none) n P Q a w := by
  obtain ⟨ρ, I, F, hM, hf, hs, _⟩ := h
  unfold rreg at hv
  split at hv
  · split at hv
    · rename_i hB
      refine wpIn_wide.2 ?_
      refine wp_region_quiet (C := fun w' => ∃ n, w' = w.drewN n) hmix hB ⟨1, rfl⟩ ?_
      refine zops_sound hπ K ops.toList S a hM hf hv (fun S' a' e1 e2 e3 h1 hk w' hw' => ?_)
      obtain ⟨m, rfl⟩ := hw'
      exact hq S' a' m (Ok.drewN ⟨ρ, I, F, by rw [e1]; exact hM, h1, by rw [e2]; exact hs, by simp [SV.denL]⟩ m) (by rw [e3, hde]) e1 hk
    · exact hv.elim
  · refine wpIn_region_list (rops_sound K ops.toList S a hM hf hv (fun S' a' e1 e2 e3 h1 hk => ?_))
    exact hq S' a' 0 ⟨ρ, I, F, by rw [e1]; exact hM, h1, by rw [e2]; exact hs, by simp [SV.denL]⟩ (by rw [e3, hde]) e1 hk

theorem rvx_sound {π : PSpecs} (hπ : π.exact P) (hmix : P.follows .mixedOrders = true) {n : Nat} : (c : Code) → (S : St) → (a : Act) → (w : World) → (K : X → St → Prop) → (Q : Exit → Act → World → Prop) → Ok cx S a w sv [] [] → a.defers = [] → rvx P π c S K →
    (∀ e S' a' m, Ok cx S' a' (w.drewN m) sv [] [] → a'.defers = [] → K e S' → Q e.out a' (w.drewN m)) → c.wpIn (Wf none) n P Q a w
  | .skip, S, a, w, K, Q, h, hde, hv, hq => wpIn_skip (hq .normal S a 0 h hde hv)
  | .region _ _ _, S, a, w, K, Q, h, hde, hv, hq => rreg_sound hπ hmix h hde hv (fun S' a' m h' hde' _ hk => hq .normal S' a' m h' hde' hk)
  | .seq x y, S, a, w, K, Q, h, hde, hv, hq => by
    unfold rvx at hv
    refine wpIn_seq (rvx_sound hπ hmix x S a w _ _ h hde hv (fun e S' a' m h' hde' hk => ?_))
    cases e with
    | normal => exact rvx_sound hπ hmix y S' a' _ K Q h' hde' hk (fun e S2 a2 m2 h2 hd2 hk2 => by rw [drewN_add] at h2 ⊢; exact hq e S2 a2 (m + m2) h2 hd2 hk2)
    | exit id => exact hq _ S' a' m h' hde' hk
    | ret => exact hq _ S' a' m h' hde' hk
  | .cond c x y, S, a, w, K, Q, h, hde, hv, hq => by
    unfold rvx at hv
    split at hv
    · rename_i hc
      obtain ⟨ρ, I, F, hM, hf, hs, hd⟩ := h
      have hev := Fr.ev_den hf c
      rw [hc] at hev
      unfold SV.den at hev
      exact wpIn_cond_true hev (rvx_sound hπ hmix x S a w K Q ⟨ρ, I, F, hM, hf, hs, hd⟩ hde hv hq)
    · rename_i hc
      obtain ⟨ρ, I, F, hM, hf, hs, hd⟩ := h
      have hev := Fr.ev_den hf c
      rw [hc] at hev
      unfold SV.den at hev
      exact wpIn_cond_false hev (rvx_sound hπ hmix y S a w K Q ⟨ρ, I, F, hM, hf, hs, hd⟩ hde hv hq)
    · rename_i b hc
      obtain ⟨h1, h2⟩ := know_ok h hc
      cases b with
      | true => exact wpIn_cond_true h2 (rvx_sound hπ hmix x _ a w K Q h1 hde (hv.1 rfl) hq)
      | false => exact wpIn_cond_false h2 (rvx_sound hπ hmix y _ a w K Q h1 hde (hv.2 rfl) hq)
    · exact hv.elim
  | .block id c, S, a, w, K, Q, h, hde, hv, hq => by
    unfold rvx at hv
    refine wpIn_block (rvx_sound hπ hmix c S a w _ _ h hde hv (fun e S' a' m h' hde' hk => ?_))
    cases e with
    | normal => exact hq .normal S' a' m h' hde' hk
    | exit i =>
      simp only [X.out, Exit.inBlock]
      by_cases e : i = id
      · subst e
        rw [if_pos rfl]
        simp only [Nat.beq_refl, cond_true] at hk
        exact hq .normal S' a' m h' hde' hk
      · rw [if_neg e]
        have e' : Nat.beq i id = false := by
          cases hb : Nat.beq i id with
          | true => exact absurd (Nat.eq_of_beq_eq_true hb) e
          | false => rfl
        simp only [e', cond_false] at hk
        exact hq (.exit i) S' a' m h' hde' hk
    | ret => exact hq .ret S' a' m h' hde' hk
  | .exit id, S, a, w, K, Q, h, hde, hv, hq => wpIn_exit (hq (.exit id) S a 0 h hde hv)
  | .ret, S, a, w, K, Q, h, hde, hv, hq => wpIn_ret (hq .ret S a 0 h hde hv)
  | .loop _, _, _, _, _, _, _, _, hv, _ => by unfold rvx at hv; exact hv.elim
  | .rangeFunc _ _ _ _, _, _, _, _, _, _, _, hv, _ => by unfold rvx at hv; exact hv.elim
  | .scope _, _, _, _, _, _, _, _, hv, _ => by unfold rvx at hv; exact hv.elim
  | .label _, _, _, _, _, _, _, _, hv, _ => by unfold rvx at hv; exact hv.elim
  | .goto _, _, _, _, _, _, _, _, hv, _ => by unfold rvx at hv; exact hv.elim
  | .refuse _, _, _, _, _, _, _, _, hv, _ => by unfold rvx at hv; exact hv.elim
theorem rvc_sound {π : PSpecs} (hπ : π.exact P) (hmix : P.follows .mixedOrders = true) {n : Nat} (c : Code) (S : St) (a : Act) (w : World) (K : St → Prop) (Q : Exit → Act → World → Prop) (h : Ok cx S a w sv [] []) (hde : a.defers = []) (hv : rvc P π c S K)
    (hq : ∀ S' a' m, Ok cx S' a' (w.drewN m) sv [] [] → a'.defers = [] → K S' → Q .ret a' (w.drewN m)) : c.wpIn (Wf none) n P Q a w :=
  rvx_sound hπ hmix c S a w _ Q h hde hv (fun e S' a' m h' hde' hk => by
    cases e with
    | ret => exact hq S' a' m h' hde' hk
    | normal => exact hk.elim
    | exit _ => exact hk.elim)

/-- A function that only reads: what it gives, in the world of before, but for draws. -/
theorem read_fn {π : PSpecs} (hπ : π.exact P) (hmix : P.follows .mixedOrders = true) {f : FuncId} {fn : Func} {c : Code} (hf : P.funcs[f]? = some fn) (hb : fn.body = some c) {ss : List SV} {vs : List Value} (h : Ok cx S a w sv ss vs) (hlen : ss.length ≤ fn.ntmps) {s : SV}
    (hv : rvc P π c (enterS fn.ntmps ss S) fun S' => retS P S' fn.results.toList fun rs => resSV rs = s) :
    Calls P f vs.toArray w fun e w' => ∃ v, e = .returned v ∧ (∃ m, w' = w.drewN m) ∧ ∃ ρ I, SV.den ρ I w' s v := by
  obtain ⟨ρ, I, F, hM, hfr, hs, hd⟩ := h
  have hl := SV.denL_length ss hd
  refine (callsIn_wide (n := 0)).1 (callsIn_of_wp_marks (F := Wf none) (n := 0) hf hb trivial ?_ rfl)
  have hen : Ok cx (enterS fn.ntmps ss S) { tmps := vs.toArray ++ Array.replicate (fn.ntmps - vs.toArray.size) Go.undef, defers := [] } w (a :: sv) [] [] := by
    refine ⟨ρ, I, F, hM, ⟨?_, fun t => ?_, rfl⟩, ⟨a, sv, rfl, hfr, hs⟩, by simp [SV.denL]⟩
    · simp [enterS]; omega
    · have := argT_den 0 ss vs hd t
      simp only [Nat.zero_le, if_true, Nat.sub_zero] at this
      simp only [enterS]
      rw [Array.getD_eq_getD_getElem?, Array.getElem?_append]
      split
      · rename_i hlt
        simpa using this
      · rename_i hge
        simp only [List.size_toArray] at hge
        have e1 : vs[t]? = none := List.getElem?_eq_none (by omega)
        rw [e1] at this
        have e2 : ((Array.replicate (fn.ntmps - vs.toArray.size) Go.undef)[t - vs.toArray.size]?).getD Go.undef = Go.undef := by
          rw [Array.getElem?_replicate]; split <;> rfl
        rw [e2]; simpa using this
  refine rvc_sound hπ hmix c _ _ w _ _ hen rfl hv (fun S' a' m h' hde hk => ?_)
  obtain ⟨ρ2, I2, F2, hM2, hf2, hs2, _⟩ := h'
  obtain ⟨us, rs, g1, g2, g3⟩ := retS_sound (P := P) hM2 hf2 fn.results.toList _ hk
  show LeavesInM (Wf none) 0 P fn a'.tmps _ a'.defers .returning (w.drewN m)
  rw [hde]
  unfold LeavesInM LeavesIn
  refine ⟨_, results_of fn (a := a') g3, _, rfl, ⟨m, rfl⟩, ρ2, I2, ?_⟩
  rw [← g2]
  exact resSV_den g1
end
/-- A contract of a function that only reads, for regions that draw their order. -/
theorem reads_fn {P : Program} {π : PSpecs} (hπ : π.exact P) (hmix : P.follows .mixedOrders = true) {f : FuncId} {fn : Func} {c : Code} (hf : P.funcs[f]? = some fn) (hb : fn.body = some c) {R : RSpec}
    (h : ∀ ss res s, R ss res s → ss.length ≤ fn.ntmps ∧ rvc P π c (enterS fn.ntmps ss { fr := { n := 0, tm := [] }, stk := [], res := res }) fun S' => retS P S' fn.results.toList fun rs => resSV rs = s) : ReadsOk P f R := by
  intro cx S a w sv ss vs s hok hR
  obtain ⟨ρ, I, F, hM, hfr, hs, hd⟩ := hok
  obtain ⟨h1, h2⟩ := h ss S.res s hR
  have hok0 : Ok cx { fr := { n := 0, tm := [] }, stk := [], res := S.res } { tmps := #[], defers := [] } w [] ss vs :=
    ⟨ρ, I, F, hM, ⟨rfl, fun t => by simp [getT, SV.den], rfl⟩, rfl, hd⟩
  refine (read_fn hπ hmix hf hb hok0 h1 h2).mono ?_
  rintro e w' ⟨v, rfl, ⟨m, rfl⟩, ρ2, I2, hd2⟩
  exact ⟨v, rfl, ⟨rfl, rfl, rfl, Nat.le_refl _, fun _ _ => rfl⟩, ρ2, I2, hd2⟩
end Go.Proofs.Ytfdcmbaoekjkgaa.Gx
