/- Memory as symbolic states, conditions for code, and that what they ask is enough; no condition. -/
import Derived.WalkKit
import Derived.Deep.Quiet
import Derived.Deep.QuietTactic
import Derived.CallsIn
import Derived.ChangeKeysEq
import Derived.Laws.BytesArg
namespace Go.Proofs.Ytfdcmbaoekjkgaa.Gx
open Go.RowKit
set_option linter.unusedSimpArgs false
set_option linter.unusedVariables false

/-- A slice's head as it stands: its block, from which cell on, how many, how many at most. -/
structure Hd where
  b : Option Nat
  off : Nat
  len : Nat
  cap : Nat
  deriving DecidableEq
def Hd.ok (h : Hd) : Prop := h.len ≤ h.cap ∧ h.cap ≤ maxLen ∧ (h.b = none → h.cap = 0)
abbrev hdV (h : Hd) : Value := .slice (h.b.map fun g => (⟨g, h.off, none⟩ : Addr)) h.len h.cap

inductive Ty where
  | int (k : IntKind)
  | bool
  | str
  | slice (t : Ty)
  | pair (a b : Ty)
  | adr (T : TypeId)
  | hd (e : TypeId)
  deriving DecidableEq

@[reducible] def Ty.den : Ty → Type
  | .int _ => Int
  | .bool => Bool
  | .str => ByteArray
  | .slice t => List t.den
  | .pair a b => a.den × b.den
  | .adr _ => Option Nat
  | .hd _ => Hd

def Ty.sz : Ty → Nat
  | .pair a b => a.sz + b.sz
  | _ => 1

theorem Ty.sz_pos : (t : Ty) → 0 < t.sz
  | .int _ | .bool | .str | .slice _ | .adr _ | .hd _ => by simp [Ty.sz]
  | .pair a b => by have := Ty.sz_pos a; simp only [Ty.sz]; omega

/-- A pointer by its block; none: nil. -/
abbrev padr (x : Option Nat) : Value := .pointer (x.map fun b => (⟨b, 0, none⟩ : Addr))

/-- The data x of the type t reads as these cells, all memory behind it in immutable blocks. -/
def Rd (I : Nat → Prop) (w : World) : (t : Ty) → t.den → List Value → Prop
  | .int k, n, cs => cs = [.int k n]
  | .bool, b, cs => cs = [.bool b]
  | .str, s, cs => cs = [.string s] ∧ s.size ≤ maxLen
  | .slice t, xs, cs => ∃ A c, cs = [.slice A xs.length c] ∧ xs.length ≤ c ∧ c ≤ maxLen ∧
      ∀ (i : Nat) (x : t.den), xs[i]? = some x → ∃ ad cells, A = some ad ∧ I ad.block ∧ Rd I w t x cells ∧
        ∀ j v, cells[j]? = some v → w.cell? (ad.add (i * t.sz + j)) = some v
  | .pair a b, x, cs => ∃ c1 c2, cs = c1 ++ c2 ∧ Rd I w a x.1 c1 ∧ Rd I w b x.2 c2
  | .adr _, x, cs => cs = [padr x]
  | .hd _, h, cs => cs = [hdV h] ∧ h.ok

theorem Rd.length {I : Nat → Prop} {w : World} : (t : Ty) → {x : t.den} → {cs : List Value} → Rd I w t x cs → cs.length = t.sz
  | .int _, _, _, h => by simp [Rd] at h; simp [h, Ty.sz]
  | .bool, _, _, h => by simp [Rd] at h; simp [h, Ty.sz]
  | .str, _, _, h => by simp [Rd] at h; simp [h.1, Ty.sz]
  | .slice _, _, _, h => by obtain ⟨A, c, e, _⟩ := h; simp [e, Ty.sz]
  | .pair a b, _, _, h => by
    obtain ⟨c1, c2, e, h1, h2⟩ := h
    rw [e, List.length_append, Rd.length a h1, Rd.length b h2, Ty.sz]
  | .adr _, _, _, h => by simp [Rd] at h; simp [h, Ty.sz]
  | .hd _, _, _, h => by simp [Rd] at h; simp [h.1, Ty.sz]

theorem Rd.one {I : Nat → Prop} {w : World} : (t : Ty) → {x : t.den} → {cs : List Value} → Rd I w t x cs → ∀ u ∈ cs, u.oneCell' = true
  | .int _, _, _, h => by simp [Rd] at h; simp [h, Value.oneCell']
  | .bool, _, _, h => by simp [Rd] at h; simp [h, Value.oneCell']
  | .str, _, _, h => by simp [Rd] at h; simp [h.1, Value.oneCell']
  | .slice _, _, _, h => by obtain ⟨A, c, e, _⟩ := h; simp [e, Value.oneCell']
  | .pair a b, _, _, h => by
    obtain ⟨c1, c2, e, h1, h2⟩ := h
    intro u hu
    rw [e, List.mem_append] at hu
    exact hu.elim (Rd.one a h1 u) (Rd.one b h2 u)
  | .adr _, _, _, h => by simp [Rd] at h; simp [h, Value.oneCell']
  | .hd _, _, _, h => by simp [Rd] at h; simp [h.1, Value.oneCell']

theorem Rd.keep {I I' : Nat → Prop} {w w' : World} (hI : ∀ k, I k → I' k) (hw : ∀ k, I k → w'.heap[k]? = w.heap[k]?) :
    (t : Ty) → {x : t.den} → {cs : List Value} → Rd I w t x cs → Rd I' w' t x cs
  | .int _, _, _, h => h
  | .bool, _, _, h => h
  | .str, _, _, h => h
  | .slice t, _, _, h => by
    obtain ⟨A, c, e, h1, h2, h3⟩ := h
    refine ⟨A, c, e, h1, h2, fun i x hx => ?_⟩
    obtain ⟨ad, cells, ha, hi, hr, hc⟩ := h3 i x hx
    refine ⟨ad, cells, ha, hI _ hi, Rd.keep hI hw t hr, fun j v hj => ?_⟩
    have hb : ∀ n, (ad.add n).block = ad.block := fun n => by unfold Addr.add; split <;> rfl
    rw [World.cell?_of_block (w := w) (by rw [hb]; exact hw _ hi)]
    exact hc j v hj
  | .pair a b, _, _, h => by
    obtain ⟨c1, c2, e, h1, h2⟩ := h
    exact ⟨c1, c2, e, Rd.keep hI hw a h1, Rd.keep hI hw b h2⟩
  | .adr _, _, _, h => h
  | .hd _, _, _, h => h

theorem add_add (ad : Addr) (m n : Nat) : (ad.add m).add n = ad.add (m + n) := by
  unfold Addr.add
  by_cases hm : m = 0
  · simp [hm]
  · by_cases hn : n = 0
    · simp [hn, hm]
    · simp [hm, hn]; omega

theorem add_block (ad : Addr) (n : Nat) : (ad.add n).block = ad.block := by unfold Addr.add; split <;> rfl
theorem add_zero (ad : Addr) : ad.add 0 = ad := by simp [Addr.add]

/-! ### Symbolic values -/
inductive SV : Type where
  | any
  | undef
  | int (k : IntKind) (n : Int)
  | bool (b : Bool)
  | lit (b : Bool)
  | str (s : ByteArray)
  | rs (t : Ty) (xs : List t.den)
  | pto (t : Ty) (x : t.den) (off : Nat)
  | ptr (i off : Nat)
  | row (i : Nat)
  | elt (i j sz off : Nat)
  | win (i lo hi sz : Nat)
  | fn (f : FuncId) (caps : List SV)
  | yld (i : Nat)
  | agg (cs : List SV)
  | tup (vs : List SV)
  | val (v : Value)
  | mp (i : Nat)
  | adr (T : TypeId) (x : Option Nat)
  | hd (e : TypeId) (h : Hd)
  | fp (T : TypeId) (b j sz off : Nat)
  | ev

/-- What stands for a place that is kept for something. -/
abbrev holdV : Value := .bool false
/-- Roots that values are known by. -/
def nhB : Value → Bool
  | .bool b => b
  | .func _ _ _ => false
  | _ => true
abbrev Nh (v : Value) : Prop := nhB v = true
theorem Nh.ne {v : Value} (h : Nh v) : v ≠ holdV := fun e => by rw [e] at h; cases h

mutual
def SV.den (ρ : List Value) (I : Nat → Prop) (w : World) : SV → Value → Prop
  | .any, _ => True
  | .undef, v => v = Go.undef
  | .int k n, v => v = .int k n
  | .bool b, v => v = .bool b
  | .lit b, v => v = .bool b
  | .str s, v => v = .string s ∧ s.size ≤ maxLen
  | .rs t xs, v => Rd I w (.slice t) xs [v]
  | .pto t x off, v => ∃ (ad : Addr) (cells : List Value), v = .pointer (some (ad.add off)) ∧ I ad.block ∧ Rd I w t x cells ∧ ∀ j u, cells[j]? = some u → w.cell? (ad.add j) = some u
  | .ptr i off, v => ∃ b, ρ[i]? = some (.pointer (some ⟨b, 0, none⟩)) ∧ v = .pointer (some ⟨b, off, none⟩)
  | .row i, v => ρ[i]? = some v ∧ Nh v
  | .elt i j sz off, v => ∃ g n c, ρ[i]? = some (.slice (some ⟨g, 0, none⟩) n c) ∧ v = .pointer (some ⟨g, j * sz + off, none⟩)
  | .win i lo hi sz, v => ∃ A n c, ρ[i]? = some (.slice A n c) ∧ n ≤ c ∧ c ≤ maxLen ∧ lo ≤ hi ∧ hi ≤ n ∧ v = .slice (if c = lo then A else A.map (·.add (lo * sz))) (hi - lo) (c - lo)
  | .fn f caps, v => ∃ vs, v = .func (.func f) #[] vs.toArray ∧ SV.denL ρ I w caps vs
  | .yld i, v => ∃ l, ρ[i]? = some (.pointer (some ⟨l, 0, none⟩)) ∧ v = .func (.yield l) #[] #[]
  | .agg cs, v => ∃ vs, v = .agg vs.toArray ∧ SV.denL ρ I w cs vs
  | .tup cs, v => ∃ vs, v = .tuple vs.toArray ∧ SV.denL ρ I w cs vs
  | .val u, v => v = u
  | .mp i, v => ∃ b, ρ[i]? = some (.map (some b)) ∧ v = .map (some b)
  | .adr _ x, v => v = padr x
  | .hd _ h, v => v = hdV h ∧ h.ok
  | .fp _ b j sz off, v => v = .pointer (some ⟨b, j * sz + off, none⟩)
  | .ev, v => ∃ A, v = .slice A 0 0
def SV.denL (ρ : List Value) (I : Nat → Prop) (w : World) : List SV → List Value → Prop
  | [], vs => vs = []
  | s :: ss, vs => ∃ v vs', vs = v :: vs' ∧ SV.den ρ I w s v ∧ SV.denL ρ I w ss vs'
end

section
variable {ρ ρ' : List Value} {I I' : Nat → Prop} {w w' : World}

mutual
theorem SV.den_keep (hρ : ∀ (i : Nat) v, ρ[i]? = some v → ρ'[i]? = some v) (hI : ∀ k, I k → I' k) (hw : ∀ k, I k → w'.heap[k]? = w.heap[k]?) :
    (s : SV) → {v : Value} → SV.den ρ I w s v → SV.den ρ' I' w' s v
  | .any, _, _ => by simp [SV.den]
  | .undef, _, h => by simpa [SV.den] using h
  | .int _ _, _, h => by simpa [SV.den] using h
  | .bool _, _, h => by simpa [SV.den] using h
  | .lit _, _, h => by simpa [SV.den] using h
  | .str _, _, h => by simpa [SV.den] using h
  | .rs t xs, _, h => by unfold SV.den at h ⊢; exact Rd.keep hI hw _ h
  | .pto t x off, _, h => by
    unfold SV.den at h ⊢
    obtain ⟨ad, cells, e, hi, hr, hc⟩ := h
    refine ⟨ad, cells, e, hI _ hi, Rd.keep hI hw _ hr, fun j u hj => ?_⟩
    rw [World.cell?_of_block (w := w) (by rw [add_block]; exact hw _ hi)]
    exact hc j u hj
  | .ptr i off, _, h => by
    unfold SV.den at h ⊢
    obtain ⟨b, h1, h2⟩ := h
    exact ⟨b, hρ _ _ h1, h2⟩
  | .row i, _, h => by unfold SV.den at h ⊢; exact ⟨hρ _ _ h.1, h.2⟩
  | .elt i j sz off, _, h => by
    unfold SV.den at h ⊢
    obtain ⟨g, n, c, h1, h2⟩ := h
    exact ⟨g, n, c, hρ _ _ h1, h2⟩
  | .win i lo hi sz, _, h => by
    unfold SV.den at h ⊢
    obtain ⟨A, n, c, h1, h2⟩ := h
    exact ⟨A, n, c, hρ _ _ h1, h2⟩
  | .fn f caps, _, h => by
    unfold SV.den at h ⊢
    obtain ⟨vs, h1, h2⟩ := h
    exact ⟨vs, h1, SV.denL_keep hρ hI hw caps h2⟩
  | .yld i, _, h => by
    unfold SV.den at h ⊢
    obtain ⟨l, h1, h2⟩ := h
    exact ⟨l, hρ _ _ h1, h2⟩
  | .agg cs, _, h => by
    unfold SV.den at h ⊢
    obtain ⟨vs, h1, h2⟩ := h
    exact ⟨vs, h1, SV.denL_keep hρ hI hw cs h2⟩
  | .tup cs, _, h => by
    unfold SV.den at h ⊢
    obtain ⟨vs, h1, h2⟩ := h
    exact ⟨vs, h1, SV.denL_keep hρ hI hw cs h2⟩
  | .val _, _, h => by simpa [SV.den] using h
  | .adr _ _, _, h => by simpa [SV.den] using h
  | .hd _ _, _, h => by unfold SV.den at h ⊢; exact h
  | .fp _ _ _ _ _, _, h => by unfold SV.den at h ⊢; exact h
  | .ev, _, h => by unfold SV.den at h ⊢; exact h
  | .mp i, _, h => by
    unfold SV.den at h ⊢
    obtain ⟨b, h1, h2⟩ := h
    exact ⟨b, hρ _ _ h1, h2⟩
theorem SV.denL_keep (hρ : ∀ (i : Nat) v, ρ[i]? = some v → ρ'[i]? = some v) (hI : ∀ k, I k → I' k) (hw : ∀ k, I k → w'.heap[k]? = w.heap[k]?) :
    (ss : List SV) → {vs : List Value} → SV.denL ρ I w ss vs → SV.denL ρ' I' w' ss vs
  | [], _, h => by simpa [SV.denL] using h
  | s :: ss, _, h => by
    unfold SV.denL at h ⊢
    obtain ⟨v, vs', e, h1, h2⟩ := h
    exact ⟨v, vs', e, SV.den_keep hρ hI hw s h1, SV.denL_keep hρ hI hw ss h2⟩
end

mutual
theorem SV.den_keepP (hρ : ∀ (i : Nat) v, Nh v → ρ[i]? = some v → ρ'[i]? = some v) (hI : ∀ k, I k → I' k) (hw : ∀ k, I k → w'.heap[k]? = w.heap[k]?) :
    (s : SV) → {v : Value} → SV.den ρ I w s v → SV.den ρ' I' w' s v
  | .any, _, _ => by simp [SV.den]
  | .undef, _, h => by simpa [SV.den] using h
  | .int _ _, _, h => by simpa [SV.den] using h
  | .bool _, _, h => by simpa [SV.den] using h
  | .lit _, _, h => by simpa [SV.den] using h
  | .str _, _, h => by simpa [SV.den] using h
  | .rs t xs, _, h => by unfold SV.den at h ⊢; exact Rd.keep hI hw _ h
  | .pto t x off, _, h => by
    unfold SV.den at h ⊢
    obtain ⟨ad, cells, e, hi, hr, hc⟩ := h
    refine ⟨ad, cells, e, hI _ hi, Rd.keep hI hw _ hr, fun j u hj => ?_⟩
    rw [World.cell?_of_block (w := w) (by rw [add_block]; exact hw _ hi)]
    exact hc j u hj
  | .ptr i off, _, h => by
    unfold SV.den at h ⊢
    obtain ⟨b, h1, h2⟩ := h
    exact ⟨b, hρ _ _ rfl h1, h2⟩
  | .row i, _, h => by unfold SV.den at h ⊢; exact ⟨hρ _ _ h.2 h.1, h.2⟩
  | .elt i j sz off, _, h => by
    unfold SV.den at h ⊢
    obtain ⟨g, n, c, h1, h2⟩ := h
    exact ⟨g, n, c, hρ _ _ rfl h1, h2⟩
  | .win i lo hi sz, _, h => by
    unfold SV.den at h ⊢
    obtain ⟨A, n, c, h1, h2⟩ := h
    exact ⟨A, n, c, hρ _ _ rfl h1, h2⟩
  | .fn f caps, _, h => by
    unfold SV.den at h ⊢
    obtain ⟨vs, h1, h2⟩ := h
    exact ⟨vs, h1, SV.denL_keepP hρ hI hw caps h2⟩
  | .yld i, _, h => by
    unfold SV.den at h ⊢
    obtain ⟨l, h1, h2⟩ := h
    exact ⟨l, hρ _ _ rfl h1, h2⟩
  | .agg cs, _, h => by
    unfold SV.den at h ⊢
    obtain ⟨vs, h1, h2⟩ := h
    exact ⟨vs, h1, SV.denL_keepP hρ hI hw cs h2⟩
  | .tup cs, _, h => by
    unfold SV.den at h ⊢
    obtain ⟨vs, h1, h2⟩ := h
    exact ⟨vs, h1, SV.denL_keepP hρ hI hw cs h2⟩
  | .val _, _, h => by simpa [SV.den] using h
  | .adr _ _, _, h => by simpa [SV.den] using h
  | .hd _ _, _, h => by unfold SV.den at h ⊢; exact h
  | .fp _ _ _ _ _, _, h => by unfold SV.den at h ⊢; exact h
  | .ev, _, h => by unfold SV.den at h ⊢; exact h
  | .mp i, _, h => by
    unfold SV.den at h ⊢
    obtain ⟨b, h1, h2⟩ := h
    exact ⟨b, hρ _ _ rfl h1, h2⟩
theorem SV.denL_keepP (hρ : ∀ (i : Nat) v, Nh v → ρ[i]? = some v → ρ'[i]? = some v) (hI : ∀ k, I k → I' k) (hw : ∀ k, I k → w'.heap[k]? = w.heap[k]?) :
    (ss : List SV) → {vs : List Value} → SV.denL ρ I w ss vs → SV.denL ρ' I' w' ss vs
  | [], _, h => by simpa [SV.denL] using h
  | s :: ss, _, h => by
    unfold SV.denL at h ⊢
    obtain ⟨v, vs', e, h1, h2⟩ := h
    exact ⟨v, vs', e, SV.den_keepP hρ hI hw s h1, SV.denL_keepP hρ hI hw ss h2⟩
end

theorem SV.denL_length : (ss : List SV) → {vs : List Value} → SV.denL ρ I w ss vs → vs.length = ss.length
  | [], _, h => by unfold SV.denL at h; simp [h]
  | s :: ss, _, h => by
    unfold SV.denL at h
    obtain ⟨v, vs', e, h1, h2⟩ := h
    simp [e, SV.denL_length ss h2]

theorem SV.denL_get : (ss : List SV) → {vs : List Value} → SV.denL ρ I w ss vs → ∀ (i : Nat) s, ss[i]? = some s → ∃ v, vs[i]? = some v ∧ SV.den ρ I w s v
  | [], _, _ => by intro i s h; simp at h
  | s :: ss, _, h => by
    unfold SV.denL at h
    obtain ⟨v, vs', e, h1, h2⟩ := h
    subst e
    intro i s' hs
    cases i with
    | zero => simp at hs; subst hs; exact ⟨v, rfl, h1⟩
    | succ i => simpa using SV.denL_get ss h2 i s' (by simpa using hs)

theorem SV.denL_append : (ss ts : List SV) → {vs us : List Value} → SV.denL ρ I w ss vs → SV.denL ρ I w ts us → SV.denL ρ I w (ss ++ ts) (vs ++ us)
  | [], _, _, _, h, k => by unfold SV.denL at h; simpa [h] using k
  | s :: ss, ts, _, _, h, k => by
    unfold SV.denL at h
    obtain ⟨v, vs', e, h1, h2⟩ := h
    subst e
    have := SV.denL_append ss ts h2 k
    simp only [List.cons_append]
    unfold SV.denL
    exact ⟨v, _, rfl, h1, this⟩

theorem SV.denL_take : (n : Nat) → (ss : List SV) → {vs : List Value} → SV.denL ρ I w ss vs → SV.denL ρ I w (ss.take n) (vs.take n)
  | 0, _, _, _ => by simp [SV.denL]
  | n + 1, [], _, h => by unfold SV.denL at h; simp [h, SV.denL]
  | n + 1, s :: ss, _, h => by
    unfold SV.denL at h
    obtain ⟨v, vs', e, h1, h2⟩ := h
    subst e
    simp only [List.take_succ_cons]
    unfold SV.denL
    exact ⟨v, _, rfl, h1, SV.denL_take n ss h2⟩

theorem SV.denL_drop : (n : Nat) → (ss : List SV) → {vs : List Value} → SV.denL ρ I w ss vs → SV.denL ρ I w (ss.drop n) (vs.drop n)
  | 0, _, _, h => by simpa using h
  | n + 1, [], _, h => by unfold SV.denL at h; simp [h, SV.denL]
  | n + 1, s :: ss, _, h => by
    unfold SV.denL at h
    obtain ⟨v, vs', e, h1, h2⟩ := h
    subst e
    simpa using SV.denL_drop n ss h2

theorem SV.denL_set : (ss : List SV) → {vs : List Value} → SV.denL ρ I w ss vs → ∀ (i : Nat) s v, SV.den ρ I w s v → SV.denL ρ I w (ss.set i s) (vs.set i v)
  | [], _, h => by intro i s v _; unfold SV.denL at h; simp [h, SV.denL]
  | s :: ss, _, h => by
    unfold SV.denL at h
    obtain ⟨v, vs', e, h1, h2⟩ := h
    subst e
    intro i s' v' hv
    cases i with
    | zero => simp only [List.set_cons_zero]; unfold SV.denL; exact ⟨v', vs', rfl, hv, h2⟩
    | succ i => simp only [List.set_cons_succ]; unfold SV.denL; exact ⟨v, _, rfl, h1, SV.denL_set ss h2 i s' v' hv⟩
end

/-! ### A datum's cells, one by one -/
def explode : (t : Ty) → t.den → List SV
  | .int k, n => [.int k n]
  | .bool, b => [.bool b]
  | .str, s => [.str s]
  | .slice t, xs => [.rs t xs]
  | .pair a b, x => explode a x.1 ++ explode b x.2
  | .adr T, x => [.adr T x]
  | .hd e, h => [.hd e h]

theorem explode_den {ρ : List Value} {I : Nat → Prop} {w : World} : (t : Ty) → {x : t.den} → {cs : List Value} → Rd I w t x cs → SV.denL ρ I w (explode t x) cs
  | .int _, _, _, h => by simp only [Rd] at h; subst h; simp [explode, SV.denL, SV.den]
  | .bool, _, _, h => by simp only [Rd] at h; subst h; simp [explode, SV.denL, SV.den]
  | .str, _, _, h => by obtain ⟨h, hs⟩ := h; subst h; simp [explode, SV.denL, SV.den, hs]
  | .slice t, xs, _, h => by
    have h' := h
    obtain ⟨A, c, e, _⟩ := h
    subst e
    simp only [explode, SV.denL, SV.den]
    exact ⟨_, [], rfl, h', rfl⟩
  | .pair a b, _, _, h => by
    obtain ⟨c1, c2, e, h1, h2⟩ := h
    subst e
    exact SV.denL_append _ _ (explode_den a h1) (explode_den b h2)
  | .adr _, _, _, h => by simp only [Rd] at h; subst h; simp [explode, SV.denL, SV.den]
  | .hd _, _, _, h => by obtain ⟨h, hs⟩ := h; subst h; simp [explode, SV.denL, SV.den, hs]

end Go.Proofs.Ytfdcmbaoekjkgaa.Gx
namespace Go.Proofs.Ytfdcmbaoekjkgaa.Gx
open Go.RowKit
set_option linter.unusedSimpArgs false
set_option linter.unusedVariables false

/-- A resource of one's own making: what it says of memory may hang on its footprint and on immutable blocks alone. -/
structure Cust (t : Ty) where
  holds : t.den → Value → World → (Nat → Prop) → (Nat → Prop) → Prop
  keep : ∀ {x : t.den} {v : Value} {w w' : World} {I I' F : Nat → Prop}, holds x v w I F → (∀ k, F k → w'.heap[k]? = w.heap[k]?) → (∀ k, I k → I' k) → (∀ k, I k → w'.heap[k]? = w.heap[k]?) → holds x v w' I' F

/-- The blocks of loops over functions that a frame has come through: so many. -/
def bunV (Ds : List Nat) : Value := .func (.yield 0) #[] (Ds.map fun D => Value.pointer (some ⟨D, 0, none⟩)).toArray
def coll (Ds : List Nat) : List Deferred := Ds.map fun D => { target := .collected D, args := #[] }
def DV (Ds : List Nat) (v : Value) : Prop := (∃ D, Ds = [D] ∧ v = .pointer (some ⟨D, 0, none⟩)) ∨ v = bunV Ds
theorem DV.ne {Ds : List Nat} {v : Value} (h : DV Ds v) : v ≠ holdV := by
  rcases h with ⟨D, _, rfl⟩ | rfl <;> simp [bunV]
theorem ptrs_inj : {l k : List Nat} → (l.map fun D => Value.pointer (some ⟨D, 0, none⟩)) = (k.map fun D => Value.pointer (some ⟨D, 0, none⟩)) → l = k
  | [], [], _ => rfl
  | [], _ :: _, h => by simp at h
  | _ :: _, [], h => by simp at h
  | a :: l, b :: k, h => by
    simp only [List.map_cons, List.cons.injEq, Value.pointer.injEq, Option.some.injEq, Addr.mk.injEq, and_true] at h
    rw [h.1, ptrs_inj h.2]
theorem DV.ptr {Ds : List Nat} {D : Nat} (h : DV Ds (.pointer (some ⟨D, 0, none⟩))) : Ds = [D] := by
  rcases h with ⟨E, rfl, e⟩ | e
  · simp at e; rw [e]
  · simp [bunV] at e
theorem DV.bun {Ds Es : List Nat} (h : DV Ds (bunV Es)) : Ds = Es := by
  rcases h with ⟨E, rfl, e⟩ | e
  · simp [bunV] at e
  · simp only [bunV, Value.func.injEq, true_and] at e
    exact (ptrs_inj (by simpa using e)).symm

structure Fr where
  n : Nat
  tm : List (Nat × SV)
  dfr : List Nat := []
  cs : List Nat := []

def getT : List (Nat × SV) → Nat → SV
  | [], _ => .any
  | (i, v) :: l, d => bif i == d then v else getT l d

/-- How a piece of code is left. -/
inductive X where
  | normal
  | exit (id : Nat)
  | ret
  deriving DecidableEq

def X.out : X → Exit
  | .normal => .normal
  | .exit id => .exit id
  | .ret => .ret

def X.code : X → Code
  | .normal => .skip
  | .exit id => .exit id
  | .ret => .ret

/-- The codes of the loops over functions that are under way, by their resources. -/
abbrev Lp := Nat → Option (Code × Code × Nat)

def TmOk (ρ : List Value) (I : Nat → Prop) (w : World) (fr : Fr) (tmps : Array Value) : Prop :=
  tmps.size = fr.n ∧ ∀ t, SV.den ρ I w (getT fr.tm t) (tmps.getD t Go.undef)

inductive Res : Type where
  | blk (ty : TypeId) (cs : List SV)
  | row (e : TypeId) (t : Ty) (xs : List t.den)
  | cust (t : Ty) (R : Cust t) (x : t.den)
  | dfr
  | dfrs
  | loop (fr : Fr) (ps : List Tmp) (st : LoopState) (pend : Option X)
  | rsv
  | mv (j : Nat) (e : TypeId) (t : Ty) (xs : List t.den)
  | was
  | ro (ty : TypeId) (cs : List SV)
  | gone
  | mapr (kk : IntKind) (ag : Bool) (vt : Ty) (es : List (Int × vt.den)) (it : Option (Nat × Option Int × List Int))
  | mit (i : Nat)
  | junk
  | fam (T : TypeId) (t : Ty) (os : List (Nat × (Nat × List t.den)))

/-- The cells of a row of data. -/
def RdL (I : Nat → Prop) (w : World) (t : Ty) : List t.den → List Value → Prop
  | [], cs => cs = []
  | x :: xs, cs => ∃ c1 c2, cs = c1 ++ c2 ∧ Rd I w t x c1 ∧ RdL I w t xs c2

/-- A map's value. -/
def VRd (I : Nat → Prop) (w : World) (ag : Bool) (t : Ty) (x : t.den) (v : Value) : Prop :=
  match ag with
  | true => ∃ cs, v = .agg cs.toArray ∧ Rd I w t x cs
  | false => Rd I w t x [v]

def EntsOk (I : Nat → Prop) (w : World) (kk : IntKind) (ag : Bool) (vt : Ty) : List MapEntry → List (Int × vt.den) → Prop
  | [], es => es = []
  | e :: ents, es => ∃ x es', es = x :: es' ∧ e.key = .int kk x.1 ∧ VRd I w ag vt x.2 e.val ∧ EntsOk I w kk ag vt ents es'

/-- A map's entries read as these keys and values; no key stands twice; each entry has a stamp of its own. -/
structure MapOk (I : Nat → Prop) (w : World) (kk : IntKind) (ag : Bool) (vt : Ty) (b : Nat) (es : List (Int × vt.den)) (ents : List MapEntry) (clock : Nat) : Prop where
  heap : w.heap[b]? = some (.map ents.toArray clock)
  rd : EntsOk I w kk ag vt ents es
  nodup : (es.map (·.1)).Nodup
  born : (ents.map (·.born)).Nodup
  clock : ∀ e ∈ ents, e.born < clock

/-- An iterator that has still to go over 'left'. -/
def ItOk {α : Type} (w : World) (b r : Nat) (es : List (Int × α)) (ents : List MapEntry) (clock : Nat) (cur : Option Int) (left : List Int) : Prop :=
  ∃ since seen stepped, w.heap[r]? = some (.mapIter (some b) since seen stepped) ∧ (∀ e ∈ ents, e.born < since) ∧ (seen.size ≠ 0 → stepped = clock) ∧
    left = ((ents.zip es).filter fun p => !seen.contains p.1.born).map (·.2.1) ∧ (∀ k, cur = some k → ∃ (n : Nat) (e : MapEntry) (x : Int × α), ents[n]? = some e ∧ es[n]? = some x ∧ x.1 = k ∧ seen.back? = some e.born)

/-- Blocks by their places: of so many elements, the first of them are known. -/
structure FamOk (I : Nat → Prop) (w : World) (T : TypeId) (t : Ty) (os : List (Nat × (Nat × List t.den))) (F : Nat → Prop) : Prop where
  rd : ∀ b n xs, (b, (n, xs)) ∈ os → ∃ cur, w.heap[b]? = some (.cells cur T (0, 0)) ∧ cur.size = n * t.sz ∧ xs.length ≤ n ∧ RdL I w t xs (cur.toList.take (xs.length * t.sz))
  nodup : (os.map (·.1)).Nodup
  foot : ∀ k, F k ↔ k ∈ os.map (·.1)
/-- What stands for a root that is none. -/
abbrev famV : Value := .bool true

def Res.holds (lp : Lp) (ρ : List Value) (I : Nat → Prop) (w : World) (i : Nat) (F : Nat → Prop) : Res → Prop
  | .blk ty cs => ∃ b vs, ρ[i]? = some (.pointer (some ⟨b, 0, none⟩)) ∧ w.heap[b]? = some (.cells vs.toArray ty (0, 0)) ∧ SV.denL ρ I w cs vs ∧ (∀ k, F k ↔ k = b)
  | .row e t xs => ∃ v cells, ρ[i]? = some v ∧ w.ownsRow 0 e t.sz v xs.length cells ∧ RdL I w t xs cells ∧ (∀ k, F k ↔ v.ownBlock = some k)
  | .cust t R x => ∃ v, ρ[i]? = some v ∧ Nh v ∧ R.holds x v w I F
  | .dfr => ∃ b, ρ[i]? = some (.pointer (some ⟨b, 0, none⟩)) ∧ w.heap[b]? = some (.deferred (some [])) ∧ (∀ k, F k ↔ k = b)
  | .dfrs => ∃ Ds : List Nat, ρ[i]? = some (bunV Ds) ∧ (∀ D ∈ Ds, w.heap[D]? = some (.deferred (some []))) ∧ Ds.Nodup ∧ (∀ k, F k ↔ k ∈ Ds)
  | .loop fr ps st pend => ∃ l r, ρ[i]? = some (.pointer (some ⟨l, 0, none⟩)) ∧ w.heap[l]? = some (.loop r) ∧ lp i = some (r.assign, r.body, l) ∧ r.params.toList = ps ∧ r.state = st ∧ r.pending = pend.map X.code ∧
      TmOk ρ I w fr r.tmps ∧ (∀ k, F k ↔ k = l)
  | .rsv => ρ[i]? = some holdV ∧ ∀ k, ¬ F k
  | .mv j e t xs => ρ[i]? = some holdV ∧ ∃ v cells, ρ[j]? = some v ∧ w.ownsRow 0 e t.sz v xs.length cells ∧ RdL I w t xs cells ∧ (∀ k, F k ↔ v.ownBlock = some k)
  | .was => (∃ A n c, ρ[i]? = some (.slice A n c)) ∧ ∀ k, ¬ F k
  | .ro ty cs => ∃ b vs, ρ[i]? = some (.pointer (some ⟨b, 0, none⟩)) ∧ w.heap[b]? = some (.cells vs.toArray ty (0, 0)) ∧ SV.denL ρ I w cs vs ∧ I b ∧ (∀ k, ¬ F k)
  | .gone => ∀ k, ¬ F k
  | .mapr kk ag vt es it => ∃ b ents clock ro, ρ[i]? = some (.map (some b)) ∧ MapOk I w kk ag vt b es ents clock ∧ (∀ k, F k ↔ (k = b ∨ ro = some k)) ∧
      (match it with
      | none => ro = none
      | some (j, cur, left) => ∃ r, ro = some r ∧ ρ[j]? = some (.pointer (some ⟨r, 0, none⟩)) ∧ r ≠ b ∧ ItOk w b r es ents clock cur left)
  | .junk => True
  | .fam T t os => ρ[i]? = some famV ∧ FamOk I w T t os F
  | .mit _ => (∃ r, ρ[i]? = some (.pointer (some ⟨r, 0, none⟩))) ∧ ∀ k, ¬ F k

structure Cx where
  lp : Lp
  I0 : Nat → Prop
  M0 : Nat → Prop
  w0 : World

structure Mem (cx : Cx) (res : List Res) (ρ : List Value) (I : Nat → Prop) (F : Nat → Nat → Prop) (w : World) : Prop where
  len : ρ.length = res.length
  ones : ∀ (i : Nat) (v : Value), ρ[i]? = some v → v.oneCell' = true
  holds : ∀ (i : Nat) (r : Res), res[i]? = some r → r.holds cx.lp ρ I w i (F i)
  apart : ∀ i j k, i < res.length → j < res.length → i ≠ j → F i k → ¬ F j k
  lt : ∀ i k, i < res.length → F i k → k < w.heap.size
  notI : ∀ i k, i < res.length → F i k → ¬ I k
  new : ∀ i k, i < res.length → F i k → cx.M0 k ∨ cx.w0.heap.size ≤ k
  I0 : ∀ k, cx.I0 k → I k
  Ilt : ∀ k, I k → k < w.heap.size
  Inew : ∀ k, I k → cx.I0 k ∨ cx.M0 k ∨ cx.w0.heap.size ≤ k
  size : cx.w0.heap.size ≤ w.heap.size
  os : w.os = cx.w0.os
  tape : w.tape = cx.w0.tape
  output : w.output = cx.w0.output
  frame : ∀ k, k < cx.w0.heap.size → ¬ cx.M0 k → w.heap[k]? = cx.w0.heap[k]?

structure St where
  fr : Fr
  stk : List Fr
  res : List Res

def DfrOk (ρ : List Value) : List Nat → List Deferred → Prop
  | [], ds => ds = []
  | i :: l, ds => ∃ Ds ds' v, ds = coll Ds ++ ds' ∧ (ρ[i]? = some v ∧ DV Ds v) ∧ DfrOk ρ l ds'

def FrOk (ρ : List Value) (I : Nat → Prop) (w : World) (fr : Fr) (a : Act) : Prop :=
  a.tmps.size = fr.n ∧ (∀ t, SV.den ρ I w (getT fr.tm t) (a.tmps.getD t Go.undef)) ∧ DfrOk ρ fr.dfr a.defers

def StkOk (ρ : List Value) (I : Nat → Prop) (w : World) : List Fr → List Act → Prop
  | [], sv => sv = []
  | fr :: l, sv => ∃ a sv', sv = a :: sv' ∧ FrOk ρ I w fr a ∧ StkOk ρ I w l sv'

/-- The state S speaks of the activation a in the world w, beside it of the values vs (the frames beneath: sv). -/
def Ok (cx : Cx) (S : St) (a : Act) (w : World) (sv : List Act) (ss : List SV) (vs : List Value) : Prop :=
  ∃ ρ I F, Mem cx S.res ρ I F w ∧ FrOk ρ I w S.fr a ∧ StkOk ρ I w S.stk sv ∧ SV.denL ρ I w ss vs

section
variable {ρ ρ' : List Value} {I I' : Nat → Prop} {w w' : World}

theorem RdL.keep (hI : ∀ k, I k → I' k) (hw : ∀ k, I k → w'.heap[k]? = w.heap[k]?) (t : Ty) : (xs : List t.den) → {cs : List Value} → RdL I w t xs cs → RdL I' w' t xs cs
  | [], _, h => h
  | x :: xs, _, h => by
    obtain ⟨c1, c2, e, h1, h2⟩ := h
    exact ⟨c1, c2, e, Rd.keep hI hw t h1, RdL.keep hI hw t xs h2⟩

theorem RdL.length (t : Ty) : (xs : List t.den) → {cs : List Value} → RdL I w t xs cs → cs.length = xs.length * t.sz
  | [], _, h => by simp [RdL] at h; simp [h]
  | x :: xs, _, h => by
    obtain ⟨c1, c2, e, h1, h2⟩ := h
    rw [e, List.length_append, Rd.length t h1, RdL.length t xs h2, List.length_cons, Nat.add_mul]; omega

theorem RdL.append (t : Ty) : (xs ys : List t.den) → {cs ds : List Value} → RdL I w t xs cs → RdL I w t ys ds → RdL I w t (xs ++ ys) (cs ++ ds)
  | [], _, _, _, h, k => by simp [RdL] at h; simpa [h] using k
  | x :: xs, ys, _, _, h, k => by
    obtain ⟨c1, c2, e, h1, h2⟩ := h
    subst e
    exact ⟨c1, c2 ++ _, by simp, h1, RdL.append t xs ys h2 k⟩

theorem RdL.get (t : Ty) : (xs : List t.den) → {cs : List Value} → RdL I w t xs cs → ∀ (i : Nat) x, xs[i]? = some x → ∃ cells, Rd I w t x cells ∧ ∀ j v, cells[j]? = some v → cs[i * t.sz + j]? = some v
  | [], _, _ => by intro i x h; simp at h
  | x :: xs, _, h => by
    obtain ⟨c1, c2, e, h1, h2⟩ := h
    subst e
    intro i y hy
    cases i with
    | zero =>
      simp at hy; subst hy
      refine ⟨c1, h1, fun j v hj => ?_⟩
      have hlt : j < c1.length := by rcases Nat.lt_or_ge j c1.length with h | h; exact h; rw [List.getElem?_eq_none h] at hj; cases hj
      rw [Nat.zero_mul, Nat.zero_add, List.getElem?_append_left hlt]; exact hj
    | succ i =>
      obtain ⟨cells, hr, hc⟩ := RdL.get t xs h2 i y (by simpa using hy)
      refine ⟨cells, hr, fun j v hj => ?_⟩
      have hl := Rd.length t h1
      have : (i + 1) * t.sz + j = c1.length + (i * t.sz + j) := by rw [hl, Nat.add_mul]; omega
      rw [this, List.getElem?_append_right (by omega), Nat.add_sub_cancel_left]
      exact hc j v hj

theorem RdL.one (t : Ty) : (xs : List t.den) → {cs : List Value} → RdL I w t xs cs → ∀ u ∈ cs, u.oneCell' = true
  | [], _, h => by simp [RdL] at h; simp [h]
  | x :: xs, _, h => by
    obtain ⟨c1, c2, e, h1, h2⟩ := h
    subst e
    intro u hu
    rw [List.mem_append] at hu
    exact hu.elim (Rd.one t h1 u) (RdL.one t xs h2 u)

theorem DfrOk.keep (hρ : ∀ (i : Nat) v, ρ[i]? = some v → ρ'[i]? = some v) : (l : List Nat) → {ds : List Deferred} → DfrOk ρ l ds → DfrOk ρ' l ds
  | [], _, h => h
  | i :: l, _, h => by
    obtain ⟨D, ds', v, e, h1, h2⟩ := h
    exact ⟨D, ds', v, e, ⟨hρ _ _ h1.1, h1.2⟩, DfrOk.keep hρ l h2⟩

theorem FrOk.keep (hρ : ∀ (i : Nat) v, ρ[i]? = some v → ρ'[i]? = some v) (hI : ∀ k, I k → I' k) (hw : ∀ k, I k → w'.heap[k]? = w.heap[k]?) {fr : Fr} {a : Act}
    (h : FrOk ρ I w fr a) : FrOk ρ' I' w' fr a := ⟨h.1, fun t => SV.den_keep hρ hI hw _ (h.2.1 t), DfrOk.keep hρ _ h.2.2⟩

theorem StkOk.keep (hρ : ∀ (i : Nat) v, ρ[i]? = some v → ρ'[i]? = some v) (hI : ∀ k, I k → I' k) (hw : ∀ k, I k → w'.heap[k]? = w.heap[k]?) :
    (l : List Fr) → {sv : List Act} → StkOk ρ I w l sv → StkOk ρ' I' w' l sv
  | [], _, h => h
  | fr :: l, _, h => by
    obtain ⟨tm, sv', e, h1, h2⟩ := h
    exact ⟨tm, sv', e, h1.keep hρ hI hw, StkOk.keep hρ hI hw l h2⟩

theorem ownsRow_move {e : TypeId} {size n : Nat} {v : Value} {xs : List Value} (h : w.ownsRow 0 e size v n xs) (hw : ∀ k, v.ownBlock = some k → w'.heap[k]? = w.heap[k]?) : w'.ownsRow 0 e size v n xs := by
  obtain ⟨h1, h2⟩ := h
  refine ⟨h1, ?_⟩
  rcases h2 with h2 | ⟨g, cap, cur, hv, hg, hh, r⟩
  · exact .inl h2
  · exact .inr ⟨g, cap, cur, hv, hg, by rw [hw g (by rw [hv]; rfl)]; exact hh, r⟩

theorem own_ne {e : TypeId} {size n : Nat} {v : Value} {xs : List Value} (h : w.ownsRow 0 e size v n xs) : Nh v := by
  rcases h.2 with ⟨h2, _⟩ | ⟨g, cap, cur, hv, _⟩
  · rw [h2]; rfl
  · rw [hv]; rfl

theorem VRd.keep (hI : ∀ k, I k → I' k) (hw : ∀ k, I k → w'.heap[k]? = w.heap[k]?) {ag : Bool} {t : Ty} {x : t.den} {v : Value} (h : VRd I w ag t x v) : VRd I' w' ag t x v := by
  cases ag with
  | true => obtain ⟨cs, e, h⟩ := h; exact ⟨cs, e, Rd.keep hI hw t h⟩
  | false => exact Rd.keep hI hw t h

theorem EntsOk.keep (hI : ∀ k, I k → I' k) (hw : ∀ k, I k → w'.heap[k]? = w.heap[k]?) {kk : IntKind} {ag : Bool} {vt : Ty} : {ents : List MapEntry} → {es : List (Int × vt.den)} → EntsOk I w kk ag vt ents es → EntsOk I' w' kk ag vt ents es
  | [], _, h => h
  | _ :: _, _, h => by
    obtain ⟨x, es', e, h1, h2, h3⟩ := h
    exact ⟨x, es', e, h1, h2.keep hI hw, EntsOk.keep hI hw h3⟩

theorem MapOk.keep (hI : ∀ k, I k → I' k) (hw : ∀ k, I k → w'.heap[k]? = w.heap[k]?) {kk : IntKind} {ag : Bool} {vt : Ty} {b : Nat} {es : List (Int × vt.den)} {ents : List MapEntry} {clock : Nat}
    (h : MapOk I w kk ag vt b es ents clock) (hb : w'.heap[b]? = w.heap[b]?) : MapOk I' w' kk ag vt b es ents clock :=
  ⟨hb.trans h.heap, h.rd.keep hI hw, h.nodup, h.born, h.clock⟩

theorem ItOk.keep {α : Type} {b r : Nat} {es : List (Int × α)} {ents : List MapEntry} {clock : Nat} {cur : Option Int} {left : List Int} (h : ItOk w b r es ents clock cur left) (hb : w'.heap[r]? = w.heap[r]?) : ItOk w' b r es ents clock cur left := by
  obtain ⟨since, seen, stepped, h1, h2⟩ := h
  exact ⟨since, seen, stepped, hb.trans h1, h2⟩

theorem FamOk.keep (hI : ∀ k, I k → I' k) (hw : ∀ k, I k → w'.heap[k]? = w.heap[k]?) {T : TypeId} {t : Ty} {os : List (Nat × (Nat × List t.den))} {F : Nat → Prop} (hF : ∀ k, F k → w'.heap[k]? = w.heap[k]?)
    (h : FamOk I w T t os F) : FamOk I' w' T t os F where
  rd := fun b n xs hm => by
    obtain ⟨cur, h1, h2, h3, h4⟩ := h.rd b n xs hm
    exact ⟨cur, (hF b ((h.foot b).2 (List.mem_map.2 ⟨_, hm, rfl⟩))).trans h1, h2, h3, RdL.keep hI hw t xs h4⟩
  nodup := h.nodup
  foot := h.foot

theorem Res.keep {lp : Lp} {i : Nat} {F : Nat → Prop} (hρ : ∀ (i : Nat) v, ρ[i]? = some v → ρ'[i]? = some v) (hI : ∀ k, I k → I' k) (hw : ∀ k, I k → w'.heap[k]? = w.heap[k]?)
    (hF : ∀ k, F k → w'.heap[k]? = w.heap[k]?) : (r : Res) → r.holds lp ρ I w i F → r.holds lp ρ' I' w' i F
  | .blk ty cs, h => by
    obtain ⟨b, vs, h1, h2, h3, h4⟩ := h
    exact ⟨b, vs, hρ _ _ h1, (hF b ((h4 b).2 rfl)).trans h2, SV.denL_keep hρ hI hw cs h3, h4⟩
  | .row e t xs, h => by
    obtain ⟨v, cells, h1, h2, h3, h4⟩ := h
    exact ⟨v, cells, hρ _ _ h1, ownsRow_move h2 (fun k hk => hF k ((h4 k).2 hk)), RdL.keep hI hw t xs h3, h4⟩
  | .cust t R x, h => by
    obtain ⟨v, h1, h0, h2⟩ := h
    exact ⟨v, hρ _ _ h1, h0, R.keep h2 hF hI hw⟩
  | .dfr, h => by
    obtain ⟨b, h1, h2, h3⟩ := h
    exact ⟨b, hρ _ _ h1, (hF b ((h3 b).2 rfl)).trans h2, h3⟩
  | .dfrs, h => by
    obtain ⟨Ds, h1, h2, h3, h4⟩ := h
    exact ⟨Ds, hρ _ _ h1, fun D hD => (hF D ((h4 D).2 hD)).trans (h2 D hD), h3, h4⟩
  | .loop fr ps st pend, h => by
    obtain ⟨l, r, h1, h2, h3, h4, h5, h6, h7, h8⟩ := h
    exact ⟨l, r, hρ _ _ h1, (hF l ((h8 l).2 rfl)).trans h2, h3, h4, h5, h6, ⟨h7.1, fun t => SV.den_keep hρ hI hw _ (h7.2 t)⟩, h8⟩
  | .rsv, h => ⟨hρ _ _ h.1, h.2⟩
  | .mv j e t xs, h => by
    obtain ⟨h0, v, cells, h1, h2, h3, h4⟩ := h
    exact ⟨hρ _ _ h0, v, cells, hρ _ _ h1, ownsRow_move h2 (fun k hk => hF k ((h4 k).2 hk)), RdL.keep hI hw t xs h3, h4⟩
  | .was, h => by
    obtain ⟨⟨A, n, c, h1⟩, h2⟩ := h
    exact ⟨⟨A, n, c, hρ _ _ h1⟩, h2⟩
  | .ro ty cs, h => by
    obtain ⟨b, vs, h1, h2, h3, h4, h5⟩ := h
    exact ⟨b, vs, hρ _ _ h1, (hw b h4).trans h2, SV.denL_keep hρ hI hw cs h3, hI b h4, h5⟩
  | .gone, h => h
  | .junk, h => h
  | .fam T t os, h => ⟨hρ _ _ h.1, h.2.keep hI hw hF⟩
  | .mit _, h => by
    obtain ⟨⟨r, h1⟩, h2⟩ := h
    exact ⟨⟨r, hρ _ _ h1⟩, h2⟩
  | .mapr kk ag vt es it, h => by
    obtain ⟨b, ents, clock, ro, h1, h2, h3, h4⟩ := h
    refine ⟨b, ents, clock, ro, hρ _ _ h1, h2.keep hI hw (hF b ((h3 b).2 (.inl rfl))), h3, ?_⟩
    cases it with
    | none => exact h4
    | some p =>
      obtain ⟨r, e, g1, g2, g3⟩ := h4
      exact ⟨r, e, hρ _ _ g1, g2, g3.keep (hF r ((h3 r).2 (.inr e)))⟩
theorem FrOk.keepP (hρ : ∀ (i : Nat) v, v ≠ holdV → ρ[i]? = some v → ρ'[i]? = some v) (hI : ∀ k, I k → I' k) (hw : ∀ k, I k → w'.heap[k]? = w.heap[k]?) {fr : Fr} {a : Act}
    (h : FrOk ρ I w fr a) : FrOk ρ' I' w' fr a := by
  refine ⟨h.1, fun t => SV.den_keepP (fun i v hv => hρ i v hv.ne) hI hw _ (h.2.1 t), ?_⟩
  have : ∀ (l : List Nat) {ds : List Deferred}, DfrOk ρ l ds → DfrOk ρ' l ds := by
    intro l
    induction l with
    | nil => intro ds h; exact h
    | cons i l ih => intro ds h; obtain ⟨D, ds', v, e, h1, h2⟩ := h; exact ⟨D, ds', v, e, ⟨hρ _ _ h1.2.ne h1.1, h1.2⟩, ih h2⟩
  exact this _ h.2.2

theorem StkOk.keepP (hρ : ∀ (i : Nat) v, v ≠ holdV → ρ[i]? = some v → ρ'[i]? = some v) (hI : ∀ k, I k → I' k) (hw : ∀ k, I k → w'.heap[k]? = w.heap[k]?) :
    (l : List Fr) → {sv : List Act} → StkOk ρ I w l sv → StkOk ρ' I' w' l sv
  | [], _, h => h
  | fr :: l, _, h => by
    obtain ⟨tm, sv', e, h1, h2⟩ := h
    exact ⟨tm, sv', e, h1.keepP hρ hI hw, StkOk.keepP hρ hI hw l h2⟩

/-- Another resource than i, behind a change at the place i that was kept. -/
theorem Res.keepP {lp : Lp} {i j : Nat} {F : Nat → Prop} (hji : j ≠ i) (hρ : ∀ (i : Nat) v, Nh v → ρ[i]? = some v → ρ'[i]? = some v) (hρ2 : ∀ (k : Nat) v, k ≠ i → ρ[k]? = some v → ρ'[k]? = some v) (hI : ∀ k, I k → I' k) (hw : ∀ k, I k → w'.heap[k]? = w.heap[k]?)
    (hF : ∀ k, F k → w'.heap[k]? = w.heap[k]?) : (r : Res) → r.holds lp ρ I w j F → r.holds lp ρ' I' w' j F
  | .blk ty cs, h => by
    obtain ⟨b, vs, h1, h2, h3, h4⟩ := h
    exact ⟨b, vs, hρ _ _ rfl h1, (hF b ((h4 b).2 rfl)).trans h2, SV.denL_keepP hρ hI hw cs h3, h4⟩
  | .row e t xs, h => by
    obtain ⟨v, cells, h1, h2, h3, h4⟩ := h
    exact ⟨v, cells, hρ _ _ (own_ne h2) h1, ownsRow_move h2 (fun k hk => hF k ((h4 k).2 hk)), RdL.keep hI hw t xs h3, h4⟩
  | .cust t R x, h => by
    obtain ⟨v, h1, h0, h2⟩ := h
    exact ⟨v, hρ _ _ h0 h1, h0, R.keep h2 hF hI hw⟩
  | .dfr, h => by
    obtain ⟨b, h1, h2, h3⟩ := h
    exact ⟨b, hρ _ _ rfl h1, (hF b ((h3 b).2 rfl)).trans h2, h3⟩
  | .dfrs, h => by
    obtain ⟨Ds, h1, h2, h3, h4⟩ := h
    exact ⟨Ds, hρ2 _ _ hji h1, fun D hD => (hF D ((h4 D).2 hD)).trans (h2 D hD), h3, h4⟩
  | .loop fr ps st pend, h => by
    obtain ⟨l, r, h1, h2, h3, h4, h5, h6, h7, h8⟩ := h
    exact ⟨l, r, hρ _ _ rfl h1, (hF l ((h8 l).2 rfl)).trans h2, h3, h4, h5, h6, ⟨h7.1, fun t => SV.den_keepP hρ hI hw _ (h7.2 t)⟩, h8⟩
  | .rsv, h => ⟨hρ2 _ _ hji h.1, h.2⟩
  | .mv j e t xs, h => by
    obtain ⟨h0, v, cells, h1, h2, h3, h4⟩ := h
    exact ⟨hρ2 _ _ hji h0, v, cells, hρ _ _ (own_ne h2) h1, ownsRow_move h2 (fun k hk => hF k ((h4 k).2 hk)), RdL.keep hI hw t xs h3, h4⟩
  | .was, h => by
    obtain ⟨⟨A, n, c, h1⟩, h2⟩ := h
    exact ⟨⟨A, n, c, hρ _ _ rfl h1⟩, h2⟩
  | .ro ty cs, h => by
    obtain ⟨b, vs, h1, h2, h3, h4, h5⟩ := h
    exact ⟨b, vs, hρ _ _ rfl h1, (hw b h4).trans h2, SV.denL_keepP hρ hI hw cs h3, hI b h4, h5⟩
  | .gone, h => h
  | .junk, h => h
  | .fam T t os, h => ⟨hρ _ _ rfl h.1, h.2.keep hI hw hF⟩
  | .mit _, h => by
    obtain ⟨⟨r, h1⟩, h2⟩ := h
    exact ⟨⟨r, hρ _ _ rfl h1⟩, h2⟩
  | .mapr kk ag vt es it, h => by
    obtain ⟨b, ents, clock, ro, h1, h2, h3, h4⟩ := h
    refine ⟨b, ents, clock, ro, hρ _ _ rfl h1, h2.keep hI hw (hF b ((h3 b).2 (.inl rfl))), h3, ?_⟩
    cases it with
    | none => exact h4
    | some p =>
      obtain ⟨r, e, g1, g2, g3⟩ := h4
      exact ⟨r, e, hρ _ _ rfl g1, g2, g3.keep (hF r ((h3 r).2 (.inr e)))⟩
end

section
variable {cx : Cx} {res : List Res} {ρ : List Value} {I : Nat → Prop} {F : Nat → Nat → Prop} {w w' : World}

/-- All blocks that there were are as they were (new ones may have come): what they bear is immutable. -/
theorem Mem.below (h : Mem cx res ρ I F w) (hb : Below w.heap.size w w') : Mem cx res ρ (fun k => I k ∨ (w.heap.size ≤ k ∧ k < w'.heap.size)) F w' where
  len := h.len
  ones := h.ones
  holds := fun i r hr => Res.keep (fun _ _ h => h) (fun _ h => .inl h) (fun k hk => hb.block k (h.Ilt k hk))
    (fun k hk => hb.block k (h.lt i k (List.getElem?_eq_some_iff.1 hr).1 hk)) r (h.holds i r hr)
  apart := h.apart
  lt := fun i k hi hk => Nat.lt_of_lt_of_le (h.lt i k hi hk) hb.size
  notI := fun i k hi hk hI => hI.elim (h.notI i k hi hk) (fun hI => by have := h.lt i k hi hk; omega)
  new := h.new
  I0 := fun k hk => .inl (h.I0 k hk)
  Ilt := fun k hk => hk.elim (fun hk => Nat.lt_of_lt_of_le (h.Ilt k hk) hb.size) (fun hk => hk.2)
  Inew := fun k hk => hk.elim (h.Inew k) (fun hk => .inr (.inr (by have := h.size; omega)))
  size := Nat.le_trans h.size hb.size
  os := hb.os.trans h.os
  tape := hb.tape.trans h.tape
  output := hb.output.trans h.output
  frame := fun k hk hm => (hb.block k (by have := h.size; omega)).trans (h.frame k hk hm)

theorem getElem?_snoc {α : Type} (l : List α) (x : α) (i : Nat) : (l ++ [x])[i]? = if i = l.length then some x else l[i]? := by
  rw [List.getElem?_append]
  split
  · rw [if_neg (by omega)]
  · rename_i h
    split
    · rename_i h2; simp [h2]
    · rw [List.getElem?_eq_none (by simp; omega), List.getElem?_eq_none (by omega)]

theorem rho_snoc {u v : Value} {i : Nat} (h : ρ[i]? = some v) : (ρ ++ [u])[i]? = some v := by
  rw [getElem?_snoc, if_neg (by have := (List.getElem?_eq_some_iff.1 h).1; omega)]; exact h

/-- A new block as a new resource r, realised by u. -/
theorem Mem.push (h : Mem cx res ρ I F w) (o : Obj) (r : Res) (u : Value) (hu : u.oneCell' = true)
    (hr : r.holds cx.lp (ρ ++ [u]) I (w.alloc o) res.length (fun k => k = w.heap.size)) :
    ∃ F', Mem cx (res ++ [r]) (ρ ++ [u]) I F' (w.alloc o) := by
  have hold : ∀ k, k < w.heap.size → (w.alloc o).heap[k]? = w.heap[k]? := fun k hk => Below.heap_alloc w o k hk
  refine ⟨fun i => if i = res.length then (fun k => k = w.heap.size) else F i, ?_⟩
  have hlt : ∀ i k, i < (res ++ [r]).length → (if i = res.length then (fun k => k = w.heap.size) else F i) k → k < w.heap.size + 1 := by
    intro i k hi hk
    split at hk
    · omega
    · rename_i hne; have := h.lt i k (by simp at hi; omega) hk; omega
  refine ⟨by simp [h.len], ?_, ?_, ?_, ?_, ?_, ?_, h.I0, ?_, h.Inew, by simp; exact Nat.le_succ_of_le h.size, h.os, h.tape, h.output, ?_⟩
  · intro i v hv
    rw [getElem?_snoc] at hv
    split at hv
    · cases hv; exact hu
    · exact h.ones i v hv
  · intro i r' hr'
    rw [getElem?_snoc] at hr'
    by_cases hi : i = res.length
    · rw [if_pos hi] at hr'
      cases hr'
      simp only [hi, if_true]
      exact hr
    · rw [if_neg hi] at hr'
      simp only [hi, if_false]
      exact Res.keep (fun _ _ h => rho_snoc h) (fun _ h => h) (fun k hk => hold k (h.Ilt k hk)) (fun k hk => hold k (h.lt i k (List.getElem?_eq_some_iff.1 hr').1 hk)) r' (h.holds i r' hr')
  · intro i j k hi hj hne hki hkj
    simp at hi hj
    by_cases ei : i = res.length
    · rw [if_pos ei] at hki
      rw [if_neg (by omega)] at hkj
      have := h.lt j k (by omega) hkj; omega
    · rw [if_neg ei] at hki
      by_cases ej : j = res.length
      · rw [if_pos ej] at hkj
        have := h.lt i k (by omega) hki; omega
      · rw [if_neg ej] at hkj
        exact h.apart i j k (by omega) (by omega) hne hki hkj
  · intro i k hi hk; simp only [World.size_alloc]; exact hlt i k hi hk
  · intro i k hi hk hI
    have hI' := h.Ilt k hI
    split at hk
    · omega
    · exact h.notI i k (by simp at hi; omega) hk hI
  · intro i k hi hk
    split at hk
    · right; have := h.size; omega
    · exact h.new i k (by simp at hi; omega) hk
  · intro k hk; have := h.Ilt k hk; simp; omega
  · intro k hk hm
    exact (hold k (by have := h.size; omega)).trans (h.frame k hk hm)
end
end Go.Proofs.Ytfdcmbaoekjkgaa.Gx
namespace Go.Proofs.Ytfdcmbaoekjkgaa.Gx
set_option linter.unusedSimpArgs false
set_option linter.unusedVariables false

def fN (n : Nat) (k : Nat → Prop) : Prop :=
  match n with
  | 0 => k 0
  | m + 1 => k (m + 1)

theorem fN_eq (n : Nat) (k : Nat → Prop) : fN n k = k n := by cases n <;> rfl

mutual
def SV.force : SV → (SV → Prop) → Prop
  | .any, k => k .any
  | .undef, k => k .undef
  | .int kk n, k => k (.int kk n)
  | .bool b, k => k (.bool b)
  | .lit b, k => k (.lit b)
  | .str s, k => k (.str s)
  | .rs t xs, k => k (.rs t xs)
  | .pto t x off, k => fN off fun off => k (.pto t x off)
  | .ptr i off, k => fN i fun i => fN off fun off => k (.ptr i off)
  | .row i, k => fN i fun i => k (.row i)
  | .elt i j sz off, k => fN i fun i => fN sz fun sz => fN off fun off => k (.elt i j sz off)
  | .win i lo hi sz, k => fN i fun i => fN sz fun sz => k (.win i lo hi sz)
  | .fn f caps, k => fN f fun f => SV.forceL caps fun caps => k (.fn f caps)
  | .yld i, k => fN i fun i => k (.yld i)
  | .agg cs, k => SV.forceL cs fun cs => k (.agg cs)
  | .tup cs, k => SV.forceL cs fun cs => k (.tup cs)
  | .val v, k => k (.val v)
  | .mp i, k => fN i fun i => k (.mp i)
  | .adr T x, k => k (.adr T x)
  | .hd e h, k => k (.hd e h)
  | .fp T b j sz off, k => fN sz fun sz => fN off fun off => k (.fp T b j sz off)
  | .ev, k => k .ev
def SV.forceL : List SV → (List SV → Prop) → Prop
  | [], k => k []
  | s :: ss, k => SV.force s fun s => SV.forceL ss fun ss => k (s :: ss)
end

mutual
theorem SV.force_eq : (s : SV) → (k : SV → Prop) → SV.force s k = k s
  | .any, k => by simp only [SV.force]
  | .undef, k => by simp only [SV.force]
  | .int _ _, k => by simp only [SV.force]
  | .bool _, k => by simp only [SV.force]
  | .lit _, k => by simp only [SV.force]
  | .str _, k => by simp only [SV.force]
  | .rs _ _, k => by simp only [SV.force]
  | .pto _ _ _, k => by simp only [SV.force, fN_eq]
  | .ptr _ _, k => by simp only [SV.force, fN_eq]
  | .row _, k => by simp only [SV.force, fN_eq]
  | .elt _ _ _ _, k => by simp only [SV.force, fN_eq]
  | .win _ _ _ _, k => by simp only [SV.force, fN_eq]
  | .fn _ caps, k => by simp only [SV.force, fN_eq]; rw [SV.forceL_eq caps]
  | .yld _, k => by simp only [SV.force, fN_eq]
  | .agg cs, k => by simp only [SV.force]; rw [SV.forceL_eq cs]
  | .tup cs, k => by simp only [SV.force]; rw [SV.forceL_eq cs]
  | .val _, k => by simp only [SV.force]
  | .mp _, k => by simp only [SV.force, fN_eq]
  | .adr _ _, k => by simp only [SV.force]
  | .hd _ _, k => by simp only [SV.force]
  | .fp _ _ _ _ _, k => by simp only [SV.force, fN_eq]
  | .ev, k => by simp only [SV.force]
theorem SV.forceL_eq : (ss : List SV) → (k : List SV → Prop) → SV.forceL ss k = k ss
  | [], k => by simp only [SV.forceL]
  | s :: ss, k => by simp only [SV.forceL]; rw [SV.force_eq s, SV.forceL_eq ss]
end

def fTm : List (Nat × SV) → (List (Nat × SV) → Prop) → Prop
  | [], k => k []
  | (i, v) :: l, k => fN i fun i => SV.force v fun v => fTm l fun l => k ((i, v) :: l)

theorem fTm_eq : (l : List (Nat × SV)) → (k : List (Nat × SV) → Prop) → fTm l k = k l
  | [], k => rfl
  | (i, v) :: l, k => by simp only [fTm, fN_eq]; rw [SV.force_eq, fTm_eq l]

def fNs : List Nat → (List Nat → Prop) → Prop
  | [], k => k []
  | i :: l, k => fN i fun i => fNs l fun l => k (i :: l)

theorem fNs_eq : (l : List Nat) → (k : List Nat → Prop) → fNs l k = k l
  | [], k => rfl
  | i :: l, k => by simp only [fNs, fN_eq]; rw [fNs_eq l]

def Fr.force (f : Fr) (k : Fr → Prop) : Prop := fN f.n fun n => fTm f.tm fun tm => fNs f.dfr fun dfr => fNs f.cs fun cs => k { n := n, tm := tm, dfr := dfr, cs := cs }

theorem Fr.force_eq (f : Fr) (k : Fr → Prop) : f.force k = k f := by simp only [Fr.force, fN_eq, fTm_eq, fNs_eq]

def fFrs : List Fr → (List Fr → Prop) → Prop
  | [], k => k []
  | f :: l, k => f.force fun f => fFrs l fun l => k (f :: l)

theorem fFrs_eq : (l : List Fr) → (k : List Fr → Prop) → fFrs l k = k l
  | [], k => rfl
  | f :: l, k => by simp only [fFrs]; rw [Fr.force_eq, fFrs_eq l]

def Res.force : Res → (Res → Prop) → Prop
  | .blk ty cs, k => fN ty fun ty => SV.forceL cs fun cs => k (.blk ty cs)
  | .row e t xs, k => fN e fun e => k (.row e t xs)
  | .cust t R x, k => k (.cust t R x)
  | .dfr, k => k .dfr
  | .dfrs, k => k .dfrs
  | .loop fr ps st pd, k => fr.force fun fr => fNs ps fun ps => k (.loop fr ps st pd)
  | .rsv, k => k .rsv
  | .mv j e t xs, k => k (.mv j e t xs)
  | .was, k => k .was
  | .ro ty cs, k => fN ty fun ty => SV.forceL cs fun cs => k (.ro ty cs)
  | .gone, k => k .gone
  | .mapr kk ag vt es it, k => match it with
    | none => k (.mapr kk ag vt es none)
    | some (j, cur, left) => fN j fun j => k (.mapr kk ag vt es (some (j, cur, left)))
  | .mit i, k => fN i fun i => k (.mit i)
  | .junk, k => k .junk
  | .fam T t os, k => k (.fam T t os)

theorem Res.force_eq (r : Res) (k : Res → Prop) : r.force k = k r := by
  cases r <;> simp only [Res.force, fN_eq, SV.forceL_eq, Fr.force_eq, fNs_eq]
  split <;> rfl

def fRs : List Res → (List Res → Prop) → Prop
  | [], k => k []
  | r :: l, k => r.force fun r => fRs l fun l => k (r :: l)

theorem fRs_eq : (l : List Res) → (k : List Res → Prop) → fRs l k = k l
  | [], k => rfl
  | r :: l, k => by simp only [fRs]; rw [Res.force_eq, fRs_eq l]

def St.force (S : St) (k : St → Prop) : Prop := S.fr.force fun fr => fFrs S.stk fun stk => fRs S.res fun res => k { fr := fr, stk := stk, res := res }

theorem St.force_eq (S : St) (k : St → Prop) : S.force k = k S := by simp only [St.force, Fr.force_eq, fFrs_eq, fRs_eq]
end Go.Proofs.Ytfdcmbaoekjkgaa.Gx
namespace Go.Proofs.Ytfdcmbaoekjkgaa.Gx
open Go.RowKit
set_option linter.unusedSimpArgs false
set_option linter.unusedVariables false

section
variable {α : Type _}
def lookN : List (Nat × α) → Nat → Option α
  | [], _ => none
  | x :: l, k => if x.1 = k then some x.2 else lookN l k
def putN : List (Nat × α) → Nat → α → List (Nat × α)
  | [], _, _ => []
  | x :: l, k, v => if x.1 = k then (k, v) :: l else x :: putN l k v
/-- The element j of the block b. -/
def famGet (os : List (Nat × (Nat × List α))) (b j : Nat) : Option α := (lookN os b).bind fun e => e.2[j]?
def famSet (os : List (Nat × (Nat × List α))) (b j : Nat) (y : α) : List (Nat × (Nat × List α)) := match lookN os b with
  | some e => putN os b (e.1, e.2.set j y)
  | none => os
/-- What a slice's head reads. -/
def rdH (os : List (Nat × (Nat × List α))) (h : Hd) : List α := match h.b with
  | some g => ((((lookN os g).map (·.2)).getD []).drop h.off).take h.len
  | none => []
/-- A head of a slice whose block is one's own. -/
def hdIn (os : List (Nat × (Nat × List α))) (h : Hd) : Prop := match h.b with
  | some g => ∃ n xs, lookN os g = some (n, xs) ∧ h.off + h.cap ≤ n ∧ h.off + h.len ≤ xs.length ∧ h.len ≤ h.cap
  | none => h.len = 0
structure HdIn (os : List (Nat × (Nat × List α))) (h : Hd) : Prop where
  ok : hdIn os h
/-- Behind an appending. -/
structure AppPost (os : List (Nat × (Nat × List α))) (h : Hd) (ys : List α) (h' : Hd) (os' : List (Nat × (Nat × List α))) : Prop where
  hin : hdIn os' h'
  rd : rdH os' h' = rdH os h ++ ys
  blk : h'.b = h.b ∨ ∃ g, h'.b = some g ∧ lookN os g = none
  keep : ∀ g, h.b ≠ some g → lookN os g ≠ none → lookN os' g = lookN os g
  dom : ∀ g, lookN os g ≠ none → lookN os' g ≠ none
  new : ∀ g, lookN os' g ≠ none → lookN os g ≠ none ∨ h'.b = some g
  nodup : (os'.map (·.1)).Nodup
def nilHd : Hd := ⟨none, 0, 0, 0⟩

theorem lookN_mem : {l : List (Nat × α)} → {k : Nat} → {v : α} → lookN l k = some v → (k, v) ∈ l
  | [], _, _, h => by simp [lookN] at h
  | x :: l, k, v, h => by
    simp only [lookN] at h
    split at h
    · rename_i e; cases h; subst e; simp
    · exact List.mem_cons_of_mem _ (lookN_mem h)
theorem lookN_none : {l : List (Nat × α)} → {k : Nat} → lookN l k = none → k ∉ l.map (·.1)
  | [], _, _ => by simp
  | x :: l, k, h => by
    simp only [lookN] at h
    split at h
    · cases h
    · rename_i e
      simp only [List.map_cons, List.mem_cons, not_or]
      exact ⟨fun e' => e e'.symm, lookN_none h⟩
theorem lookN_of_mem : {l : List (Nat × α)} → {k : Nat} → {v : α} → (l.map (·.1)).Nodup → (k, v) ∈ l → lookN l k = some v
  | [], _, _, _, h => by simp at h
  | x :: l, k, v, hn, h => by
    simp only [List.map_cons, List.nodup_cons] at hn
    simp only [lookN]
    rcases List.mem_cons.1 h with rfl | h
    · simp
    · rw [if_neg (fun e => hn.1 (List.mem_map.2 ⟨_, h, e.symm⟩))]
      exact lookN_of_mem hn.2 h
theorem lookN_some_key {l : List (Nat × α)} {k : Nat} : lookN l k ≠ none ↔ k ∈ l.map (·.1) := by
  constructor
  · intro h
    cases hl : lookN l k with
    | none => exact absurd hl h
    | some v => exact List.mem_map.2 ⟨_, lookN_mem hl, rfl⟩
  · intro h hn
    exact lookN_none hn h
theorem putN_keys : (l : List (Nat × α)) → (k : Nat) → (v : α) → (putN l k v).map (·.1) = l.map (·.1)
  | [], _, _ => rfl
  | x :: l, k, v => by
    simp only [putN]
    split
    · rename_i e; simp [e]
    · simp [putN_keys l]
theorem lookN_putN : (l : List (Nat × α)) → (k : Nat) → (v : α) → (j : Nat) → lookN (putN l k v) j = if j = k then (lookN l k).map (fun _ => v) else lookN l j
  | [], k, v, j => by simp [putN, lookN]
  | x :: l, k, v, j => by
    simp only [putN]
    by_cases e : x.1 = k
    · rw [if_pos e]
      simp only [lookN, e, if_true]
      by_cases e2 : j = k
      · subst e2; simp
      · rw [if_neg (fun h => e2 h.symm), if_neg e2, if_neg (fun h => e2 h.symm)]
    · rw [if_neg e]
      simp only [lookN, e, if_false]
      by_cases e3 : x.1 = j
      · have e2 : ¬ j = k := fun h => e (e3.trans h)
        simp [e3, e2]
      · rw [if_neg e3, lookN_putN l k v j, if_neg e3]
theorem famSet_keys (os : List (Nat × (Nat × List α))) (b j : Nat) (y : α) : (famSet os b j y).map (·.1) = os.map (·.1) := by
  unfold famSet
  split
  · exact putN_keys _ _ _
  · rfl
theorem putN_mem {l : List (Nat × α)} {k : Nat} {v : α} (hn : (l.map (·.1)).Nodup) {p : Nat × α} (h : p ∈ putN l k v) : p = (k, v) ∨ (p ∈ l ∧ p.1 ≠ k) := by
  have h2 := lookN_of_mem (k := p.1) (v := p.2) (by rw [putN_keys]; exact hn) h
  rw [lookN_putN] at h2
  split at h2
  · rename_i e
    cases hl : lookN l k with
    | none => rw [hl] at h2; cases h2
    | some u =>
      rw [hl] at h2
      simp only [Option.map_some, Option.some.injEq] at h2
      exact .inl (by rw [← e, h2])
  · rename_i e
    exact .inr ⟨lookN_mem h2, e⟩
theorem famGet_famSet {os : List (Nat × (Nat × List α))} {b j : Nat} {y y0 : α} (h : famGet os b j = some y0) (b' j' : Nat) : famGet (famSet os b j y) b' j' = if b' = b ∧ j' = j then some y else famGet os b' j' := by
  unfold famGet at h ⊢
  unfold famSet
  cases hl : lookN os b with
  | none => rw [hl] at h; cases h
  | some e =>
    rw [hl] at h
    simp only [Option.bind_some] at h
    obtain ⟨hj, _⟩ := List.getElem?_eq_some_iff.1 h
    simp only [lookN_putN]
    by_cases e1 : b' = b
    · subst e1
      simp only [if_true, hl, Option.map_some, Option.bind_some, true_and, List.getElem?_set]
      by_cases e2 : j = j'
      · subst e2; simp [hj]
      · rw [if_neg e2, if_neg (fun h => e2 h.symm)]
    · simp [e1]
end

section
variable {I : Nat → Prop} {w w' : World} {T : TypeId} {t : Ty} {os : List (Nat × (Nat × List t.den))} {F : Nat → Prop}

theorem FamOk.at (h : FamOk I w T t os F) {b j : Nat} {y : t.den} (hg : famGet os b j = some y) : ∃ cells, Rd I w t y cells ∧ ∀ m u, cells[m]? = some u → w.cell? (⟨b, j * t.sz + m, none⟩ : Addr) = some u := by
  unfold famGet at hg
  cases hl : lookN os b with
  | none => rw [hl] at hg; cases hg
  | some e =>
    obtain ⟨n, xs⟩ := e
    rw [hl] at hg
    simp only [Option.bind_some] at hg
    obtain ⟨cur, h1, h2, h3, h4⟩ := h.rd b n xs (lookN_mem hl)
    obtain ⟨cells, g1, g2⟩ := RdL.get t xs h4 j y hg
    refine ⟨cells, g1, fun m u hm => ?_⟩
    have := g2 m u hm
    rw [List.getElem?_take] at this
    split at this
    · rw [cell_of_row w b _ _ _ _ h1]; simpa using this
    · cases this
end

/-- Where the family of a type stands. -/
def findFam (T : TypeId) : Nat → List Res → Option Nat
  | _, [] => none
  | i, r :: l => match r with
    | .fam T' _ _ => match Nat.beq T' T with
      | true => some i
      | false => findFam T (i + 1) l
    | _ => findFam T (i + 1) l
end Go.Proofs.Ytfdcmbaoekjkgaa.Gx
namespace Go.Proofs.Ytfdcmbaoekjkgaa.Gx
open Go.RowKit
set_option linter.unusedSimpArgs false
set_option linter.unusedVariables false

def cSV : Value → SV
  | .bool b => .lit b
  | .int k n => .int k n
  | .string s => if s.size ≤ maxLen then .str s else .any
  | v => .val v

theorem cSV_den (ρ : List Value) (I : Nat → Prop) (w : World) (v : Value) : SV.den ρ I w (cSV v) v := by
  unfold cSV
  split
  · simp [SV.den]
  · simp [SV.den]
  · split
    · rename_i h; simp [SV.den, h]
    · simp [SV.den]
  · simp [SV.den]

def Fr.ev (fr : Fr) : Operand → SV
  | .tmp t => getT fr.tm t
  | .const v => cSV v
  | .global g => .val (.pointer (some ⟨g, 0, none⟩))
  | .func f => .fn f []

theorem Fr.ev_den {ρ : List Value} {I : Nat → Prop} {w : World} {fr : Fr} {a : Act} (h : FrOk ρ I w fr a) (x : Operand) : SV.den ρ I w (fr.ev x) (a.eval x) := by
  cases x with
  | tmp t => exact h.2.1 t
  | const v => exact cSV_den ρ I w v
  | global g => simp [Fr.ev, Act.eval, SV.den]
  | func f => simp [Fr.ev, Act.eval, SV.den, SV.denL]

theorem Fr.evs_den {ρ : List Value} {I : Nat → Prop} {w : World} {fr : Fr} {a : Act} (h : FrOk ρ I w fr a) : (xs : List Operand) → SV.denL ρ I w (xs.map fr.ev) (xs.map a.eval)
  | [] => by simp [SV.denL]
  | x :: xs => by simp only [List.map_cons]; unfold SV.denL; exact ⟨_, _, rfl, Fr.ev_den h x, Fr.evs_den h xs⟩

def Same (w w' : World) : Prop := ∀ k, k < w.heap.size → w'.heap[k]? = w.heap[k]?

theorem Same.refl (w : World) : Same w w := fun _ _ => rfl

theorem Same.cell {w w' : World} (h : Same w w') {a : Addr} {v : Value} (hc : w.cell? a = some v) : w'.cell? a = some v :=
  (World.cell?_of_block (w := w) (h _ (World.block_lt_of_cell? w _ hc))).trans hc

def isAggD : TypeDesc → Bool
  | .struct _ | .array _ _ => true
  | _ => false

theorem run_isAgg {P : Program} {t : TypeId} {d : TypeDesc} (h : P.underlying t = some d) (w : World) : (isAgg t).run P w = .ok (isAggD d) w := by
  unfold isAgg
  rw [Sem.run_bind, run_underlying h w]
  cases d <;> simp [isAggD]

theorem run_sizeOf' {P : Program} {t : TypeId} {i : TypeInfo} (h : P.info? t = some i) (w : World) : (sizeOf t).run P w = .ok i.size w := by
  simp [sizeOf, typeInfo, h]

/-- A value of type t out of a list of cells, from place off on. -/
def loadC (P : Program) (t : TypeId) (cs : List SV) (off : Nat) (k : SV → Prop) : Prop :=
  match P.underlying t with
  | some d => match isAggD d with
    | true => match P.info? t with
      | some i => match Nat.ble (off + i.size) cs.length with
        | true => k (.agg ((cs.drop off).take i.size))
        | false => False
      | none => False
    | false => match cs[off]? with
      | some s => k s
      | none => False
  | none => False

theorem loadC_sound {P : Program} {t : TypeId} {cs : List SV} {off : Nat} {k : SV → Prop} {ρ : List Value} {I : Nat → Prop} {w : World} {vs : List Value} {ad : Addr}
    (hd : SV.denL ρ I w cs vs) (hc : ∀ j u, vs[j]? = some u → w.cell? (ad.add j) = some u) (h : loadC P t cs off k) :
    ∃ v s, SV.den ρ I w s v ∧ k s ∧ ∀ w', Same w w' → (loadVar t (ad.add off)).run P w' = .ok v w' := by
  unfold loadC at h
  split at h
  · rename_i d hu
    split at h
    · rename_i hagg
      split at h
      · rename_i i hi
        split at h
        · rename_i hle
          have hle' : off + i.size ≤ cs.length := Nat.le_of_ble_eq_true hle
          have hl := SV.denL_length cs hd
          refine ⟨.agg ((vs.drop off).take i.size).toArray, _, ?_, h, fun w' hw => ?_⟩
          · unfold SV.den; exact ⟨_, rfl, SV.denL_take _ _ (SV.denL_drop off cs hd)⟩
          · have hlen : ((vs.drop off).take i.size).length = i.size := by rw [List.length_take, List.length_drop]; omega
            have hr := run_loadCells_list (P := P) w' (ad.add off) ((vs.drop off).take i.size) (fun j v hj => by
              rw [add_add]
              refine hw.cell (hc (off + j) v ?_)
              rw [List.getElem?_take] at hj
              split at hj
              · rwa [List.getElem?_drop] at hj
              · cases hj)
            rw [hlen] at hr
            unfold loadVar
            simp only [Sem.run_bind, run_isAgg hu, Result.andThen_ok, hagg, if_true, run_sizeOf' hi, hr, Sem.run_pure]
        · exact h.elim
      · exact h.elim
    · rename_i hagg
      split at h
      · rename_i s hs
        obtain ⟨v, hv, hdn⟩ := SV.denL_get cs hd off s hs
        refine ⟨v, s, hdn, h, fun w' hw => ?_⟩
        unfold loadVar
        simp only [Sem.run_bind, run_isAgg hu, Result.andThen_ok, hagg, run_load, hw.cell (hc off v hv), Bool.false_eq_true, if_false]
      · exact h.elim
  · exact h.elim

/-- A part of an aggregate. -/
theorem partC_sound {P : Program} {t : TypeId} {cs : List SV} {off : Nat} {k : SV → Prop} {ρ : List Value} {I : Nat → Prop} {w : World} {vs : List Value}
    (hd : SV.denL ρ I w cs vs) (h : loadC P t cs off k) :
    ∃ v s, SV.den ρ I w s v ∧ k s ∧ ∀ w', (part t vs.toArray off).run P w' = .ok v w' := by
  unfold loadC at h
  split at h
  · rename_i d hu
    split at h
    · rename_i hagg
      split at h
      · rename_i i hi
        split at h
        · rename_i hle
          refine ⟨.agg ((vs.drop off).take i.size).toArray, _, ?_, h, fun w' => ?_⟩
          · unfold SV.den; exact ⟨_, rfl, SV.denL_take _ _ (SV.denL_drop off cs hd)⟩
          · unfold part
            simp only [Sem.run_bind, run_isAgg hu, Result.andThen_ok, hagg, if_true, run_sizeOf' hi, Sem.run_pure]
            congr 2
            apply Array.ext'
            simp [List.extract_eq_take_drop]
        · exact h.elim
      · exact h.elim
    · rename_i hagg
      split at h
      · rename_i s hs
        obtain ⟨v, hv, hdn⟩ := SV.denL_get cs hd off s hs
        refine ⟨v, s, hdn, h, fun w' => ?_⟩
        unfold part
        simp [Sem.run_bind, run_isAgg hu, hagg, hv]
      · exact h.elim
  · exact h.elim

/-- An element of a block by its place. -/
def famAtK (S : St) (T : TypeId) (b j sz : Nat) (k : (ty : Ty) → ty.den → Prop) : Prop :=
  match findFam T 0 S.res with
  | some i => match S.res[i]? with
    | some (.fam _ ty os) => match Nat.beq sz ty.sz with
      | true => (∃ y, famGet os b j = some y) ∧ ∀ y, famGet os b j = some y → k ty y
      | false => match j with
        | 0 => (∃ y, famGet os b 0 = some y) ∧ ∀ y, famGet os b 0 = some y → k ty y
        | _ + 1 => False
    | _ => False
  | none => False

def sload (P : Program) (S : St) (t : TypeId) (x : SV) (k : SV → Prop) : Prop :=
  match x with
  | .ptr i off => match S.res[i]? with
    | some (.blk _ cs) => loadC P t cs off k
    | some (.ro _ cs) => loadC P t cs off k
    | _ => False
  | .pto ty y off => loadC P t (explode ty y) off k
  | .elt i j sz off => match S.res[i]? with
    | some (.row _ ty xs) => match Nat.beq sz ty.sz with
      | true => j < xs.length ∧ ∀ y, xs[j]? = some y → loadC P t (explode ty y) off k
      | false => False
    | _ => False
  | .adr T x => x.isSome = true ∧ famAtK S T (x.getD 0) 0 0 fun ty y => loadC P t (explode ty y) 0 k
  | .fp T b j sz off => famAtK S T b j sz fun ty y => loadC P t (explode ty y) off k
  | _ => False

section
variable {P : Program} {cx : Cx} {S : St} {ρ : List Value} {I : Nat → Prop} {F : Nat → Nat → Prop} {w : World}

theorem plain_add' (b off j : Nat) : (⟨b, off, none⟩ : Addr).add j = ⟨b, off + j, none⟩ := by unfold Addr.add; split <;> simp_all

theorem plain_add (b j : Nat) : (⟨b, 0, none⟩ : Addr).add j = ⟨b, j, none⟩ := by unfold Addr.add; split <;> simp_all

theorem famAtK_sound (hM : Mem cx S.res ρ I F w) {T : TypeId} {b j sz : Nat} {k : (ty : Ty) → ty.den → Prop} (h : famAtK S T b j sz k) :
    ∃ (ty : Ty) (y : ty.den) (cells : List Value), k ty y ∧ Rd I w ty y cells ∧ ∀ m u, cells[m]? = some u → w.cell? (⟨b, j * sz + m, none⟩ : Addr) = some u := by
  unfold famAtK at h
  split at h
  · split at h
    · rename_i T' ty os hr
      have hF := (hM.holds _ _ hr).2
      split at h
      · rename_i hsz
        obtain rfl : sz = ty.sz := Nat.eq_of_beq_eq_true hsz
        obtain ⟨⟨y, hy⟩, hk⟩ := h
        obtain ⟨cells, h1, h2⟩ := hF.at hy
        exact ⟨ty, y, cells, hk y hy, h1, h2⟩
      · split at h
        · obtain ⟨⟨y, hy⟩, hk⟩ := h
          obtain ⟨cells, h1, h2⟩ := hF.at hy
          refine ⟨ty, y, cells, hk y hy, h1, fun m u hm => ?_⟩
          have := h2 m u hm
          simpa using this
        · exact h.elim
    · exact h.elim
  · exact h.elim

theorem sload_sound (hM : Mem cx S.res ρ I F w) {t : TypeId} {x : SV} {v : Value} {k : SV → Prop} (hx : SV.den ρ I w x v) (h : sload P S t x k) :
    ∃ v' s, SV.den ρ I w s v' ∧ k s ∧ ∀ w', Same w w' → (Instr.loadAt t v).run P w' = .ok v' w' := by
  unfold sload at h
  split at h
  · rename_i i off
    unfold SV.den at hx
    obtain ⟨b, hb, rfl⟩ := hx
    split at h
    · rename_i ty cs hr
      obtain ⟨b', vs, h1, h2, h3, _⟩ := hM.holds _ _ hr
      rw [hb] at h1
      obtain rfl : b = b' := by simpa using h1
      obtain ⟨v', s, hd, hk, hrun⟩ := loadC_sound (P := P) (t := t) (off := off) (ad := ⟨b, 0, none⟩) h3 (fun j u hj => by rw [plain_add, cell_of_row w b j _ _ _ h2]; simpa using hj) h
      refine ⟨v', s, hd, hk, fun w' hw => ?_⟩
      have := hrun w' hw
      rw [plain_add] at this
      simp only [Instr.loadAt, Instr.sureAddr, Sem.run_bind, Sem.run_pure, Result.andThen_ok, this]
    · rename_i ty cs hr
      obtain ⟨b', vs, h1, h2, h3, _⟩ := hM.holds _ _ hr
      rw [hb] at h1
      obtain rfl : b = b' := by simpa using h1
      obtain ⟨v', s, hd, hk, hrun⟩ := loadC_sound (P := P) (t := t) (off := off) (ad := ⟨b, 0, none⟩) h3 (fun j u hj => by rw [plain_add, cell_of_row w b j _ _ _ h2]; simpa using hj) h
      refine ⟨v', s, hd, hk, fun w' hw => ?_⟩
      have := hrun w' hw
      rw [plain_add] at this
      simp only [Instr.loadAt, Instr.sureAddr, Sem.run_bind, Sem.run_pure, Result.andThen_ok, this]
    · exact h.elim
  · rename_i ty y off
    unfold SV.den at hx
    obtain ⟨ad, cells, rfl, hi, hr, hc⟩ := hx
    obtain ⟨v', s, hd, hk, hrun⟩ := loadC_sound (P := P) (t := t) (off := off) (ad := ad) (explode_den ty hr) hc h
    refine ⟨v', s, hd, hk, fun w' hw => ?_⟩
    simp only [Instr.loadAt, Instr.sureAddr, Sem.run_bind, Sem.run_pure, Result.andThen_ok, hrun w' hw]
  · rename_i i j sz off
    unfold SV.den at hx
    obtain ⟨g, n, c, hb, rfl⟩ := hx
    split at h
    · rename_i e ty xs hr
      split at h
      · rename_i hsz
        have hsz' : sz = ty.sz := Nat.eq_of_beq_eq_true hsz
        subst hsz'
        obtain ⟨hj, h⟩ := h
        obtain ⟨v0, cells, h1, h2, h3, _⟩ := hM.holds _ _ hr
        rw [hb] at h1
        cases h1
        obtain ⟨y, hy⟩ : ∃ y, xs[j]? = some y := ⟨_, List.getElem?_eq_getElem hj⟩
        obtain ⟨cs, g1, g2⟩ := RdL.get ty xs h3 j y hy
        rcases h2.2 with ⟨e1, _⟩ | ⟨g', cap, cur, hv, _, hh, hnc, hcm, hcs, htk⟩
        · cases e1
        · simp only [Value.slice.injEq, Option.some.injEq, Addr.mk.injEq, and_true, true_and] at hv
          obtain ⟨rfl, rfl, rfl⟩ := hv
          obtain ⟨v', s, hd, hk, hrun⟩ := loadC_sound (P := P) (t := t) (off := off) (ad := ⟨g, j * ty.sz, none⟩) (explode_den ty g1) (fun m u hm => by
            have hk := g2 m u hm
            rw [← htk, List.getElem?_take] at hk
            split at hk
            · rw [plain_add', cell_of_row w g _ _ _ _ hh]; simpa using hk
            · cases hk) (h y hy)
          refine ⟨v', s, hd, hk, fun w' hw => ?_⟩
          have := hrun w' hw
          rw [plain_add'] at this
          simp only [Instr.loadAt, Instr.sureAddr, Sem.run_bind, Sem.run_pure, Result.andThen_ok, this]
      · exact h.elim
    · exact h.elim
  · rename_i T x
    unfold SV.den at hx
    obtain ⟨hs, h⟩ := h
    obtain ⟨b, rfl⟩ := Option.isSome_iff_exists.1 hs
    subst hx
    obtain ⟨ty, y, cells, hk, hr, hc⟩ := famAtK_sound hM h
    obtain ⟨v', s, hd, hk, hrun⟩ := loadC_sound (P := P) (t := t) (off := 0) (ad := ⟨b, 0, none⟩) (explode_den ty hr) (fun m u hm => by rw [plain_add]; simpa using hc m u hm) hk
    refine ⟨v', s, hd, hk, fun w' hw => ?_⟩
    have := hrun w' hw
    rw [plain_add] at this
    simp only [Instr.loadAt, Instr.sureAddr, padr, Option.map_some, Sem.run_bind, Sem.run_pure, Result.andThen_ok, this]
  · rename_i T b j sz off
    unfold SV.den at hx
    subst hx
    obtain ⟨ty, y, cells, hk, hr, hc⟩ := famAtK_sound hM h
    obtain ⟨v', s, hd, hk, hrun⟩ := loadC_sound (P := P) (t := t) (off := off) (ad := ⟨b, j * sz, none⟩) (explode_den ty hr) (fun m u hm => by rw [plain_add']; exact hc m u hm) hk
    refine ⟨v', s, hd, hk, fun w' hw => ?_⟩
    have := hrun w' hw
    rw [plain_add'] at this
    simp only [Instr.loadAt, Instr.sureAddr, Sem.run_bind, Sem.run_pure, Result.andThen_ok, this]
  · exact h.elim

def spick (c a b : SV) (k : SV → Prop) : Prop :=
  match c with
  | .lit true => k a
  | .lit false => k b
  | .bool c => (c = true → k a) ∧ (c = false → k b)
  | _ => False

def snil (x : SV) (k : SV → Prop) : Prop :=
  match x with
  | .ptr i off => k (.ptr i off)
  | .pto t y off => k (.pto t y off)
  | .fn f caps => k (.fn f caps)
  | .elt i j sz off => k (.elt i j sz off)
  | .val (.pointer (some ad)) => k (.val (.pointer (some ad)))
  | .adr T x => x.isSome = true ∧ k (.adr T x)
  | .fp T b j sz off => k (.fp T b j sz off)
  | _ => False

def fieldOf (P : Program) (t : TypeId) (f : Nat) : Option Field :=
  match P.underlying t with
  | some (.struct fs) => fs[f]?
  | _ => none

def sfieldAddr (P : Program) (t : TypeId) (x : SV) (f : Nat) (k : SV → Prop) : Prop :=
  match fieldOf P t f with
  | some fd => match P.info? fd.type with
    | some i => match Nat.beq i.size 0 with
      | true => False
      | false => match x with
        | .ptr j off => k (.ptr j (off + fd.offset))
        | .pto ty y off => k (.pto ty y (off + fd.offset))
        | .elt a b sz off => k (.elt a b sz (off + fd.offset))
        | .adr T x => x.isSome = true ∧ k (.fp T (x.getD 0) 0 0 fd.offset)
        | .fp T b j sz off => k (.fp T b j sz (off + fd.offset))
        | _ => False
    | none => False
  | none => False

theorem sfieldAddr_sound {t : TypeId} {x : SV} {v : Value} {f : Nat} {k : SV → Prop} (hx : SV.den ρ I w x v) (h : sfieldAddr P t x f k) :
    ∃ v' s, SV.den ρ I w s v' ∧ k s ∧ ∀ w', (Instr.fieldAt t v f).run P w' = .ok v' w' := by
  unfold sfieldAddr at h
  split at h
  · rename_i fd hfd
    unfold fieldOf at hfd
    split at hfd
    · rename_i fs hu
      split at h
      · rename_i i hi
        split at h
        · exact h.elim
        · rename_i hz
          have hz' : ¬ i.size = 0 := by intro e; rw [e] at hz; simp at hz
          have hrun : ∀ (ad : Addr) (w' : World), (Instr.fieldAt t (.pointer (some ad)) f).run P w' = .ok (.pointer (some (ad.add fd.offset))) w' := by
            intro ad w'
            simp only [Instr.fieldAt, Sem.run_bind, run_underlying hu, Result.andThen_ok, hfd, Instr.sureAddr, Sem.run_pure, fieldPlace, run_sizeOf' hi, hz', if_false]
          split at h
          · rename_i j off
            unfold SV.den at hx
            obtain ⟨b, hb, rfl⟩ := hx
            refine ⟨.pointer (some ⟨b, off + fd.offset, none⟩), _, ?_, h, fun w' => ?_⟩
            · unfold SV.den; exact ⟨b, hb, rfl⟩
            · rw [hrun, plain_add']
          · rename_i ty y off
            unfold SV.den at hx
            obtain ⟨ad, cells, rfl, hi', hr, hc⟩ := hx
            refine ⟨.pointer (some (ad.add (off + fd.offset))), _, ?_, h, fun w' => ?_⟩
            · unfold SV.den; exact ⟨ad, cells, rfl, hi', hr, hc⟩
            · rw [hrun, add_add]
          · rename_i i' j' sz off
            unfold SV.den at hx
            obtain ⟨g, n, c, hb, rfl⟩ := hx
            refine ⟨.pointer (some ⟨g, j' * sz + (off + fd.offset), none⟩), _, ?_, h, fun w' => ?_⟩
            · unfold SV.den; exact ⟨g, n, c, hb, rfl⟩
            · rw [hrun, plain_add', Nat.add_assoc]
          · rename_i T x
            unfold SV.den at hx
            obtain ⟨hs, h⟩ := h
            obtain ⟨b, rfl⟩ := Option.isSome_iff_exists.1 hs
            subst hx
            refine ⟨.pointer (some ⟨b, fd.offset, none⟩), _, ?_, h, fun w' => ?_⟩
            · unfold SV.den; simp
            · show (Instr.fieldAt t (.pointer (some ⟨b, 0, none⟩)) f).run P w' = _
              rw [hrun, plain_add]
          · rename_i T b j sz off
            unfold SV.den at hx
            subst hx
            refine ⟨.pointer (some ⟨b, j * sz + (off + fd.offset), none⟩), _, ?_, h, fun w' => ?_⟩
            · unfold SV.den; rfl
            · rw [hrun, plain_add', Nat.add_assoc]
          · exact h.elim
      · exact h.elim
    · cases hfd
  · exact h.elim

def sfield (P : Program) (t : TypeId) (x : SV) (f : Nat) (k : SV → Prop) : Prop :=
  match fieldOf P t f with
  | some fd => match x with
    | .agg cs => loadC P fd.type cs fd.offset k
    | _ => False
  | none => False

theorem sfield_sound {t : TypeId} {x : SV} {v : Value} {f : Nat} {k : SV → Prop} (hx : SV.den ρ I w x v) (h : sfield P t x f k) :
    ∃ v' s, SV.den ρ I w s v' ∧ k s ∧ ∀ w', (Instr.field t v f).run P w' = .ok v' w' := by
  unfold sfield at h
  split at h
  · rename_i fd hfd
    unfold fieldOf at hfd
    split at hfd
    · rename_i fs hu
      split at h
      · rename_i cs
        unfold SV.den at hx
        obtain ⟨vs, rfl, hd⟩ := hx
        obtain ⟨v', s, h1, h2, h3⟩ := partC_sound hd h
        refine ⟨v', s, h1, h2, fun w' => ?_⟩
        simp only [Instr.field, Sem.run_bind, run_underlying hu, Result.andThen_ok, hfd, asAgg, Sem.run_pure, h3]
      · exact h.elim
    · cases hfd
  · exact h.elim

def sindexAddr (P : Program) (S : St) (t : TypeId) (x ix : SV) (k : SV → Prop) : Prop :=
  match ix with
  | .int _ i => match P.underlying t with
    | some (.slice e) => match P.info? e with
      | some inf => match x with
        | .rs ty xs => match Nat.beq inf.size ty.sz with
          | true => (0 ≤ i ∧ i < xs.length) ∧ ∀ y, xs[i.toNat]? = some y → k (.pto ty y 0)
          | false => False
        | .hd e' h => (0 ≤ i ∧ i < h.len) ∧ (match Nat.beq inf.size 1 with
          | true => k (.fp e' (h.b.getD 0) (h.off + i.toNat) 1 0)
          | false => False)
        | .row r => match S.res[r]? with
          | some (.row _ ty xs) => match Nat.beq inf.size ty.sz with
            | true => (0 ≤ i ∧ i < xs.length) ∧ k (.elt r i.toNat ty.sz 0)
            | false => False
          | _ => False
        | _ => False
      | none => False
    | some (.array n e) => match P.info? e with
      | some inf => match x with
        | .ptr b off => (0 ≤ i ∧ i < n) ∧ k (.ptr b (off + i.toNat * inf.size))
        | _ => False
      | none => False
    | _ => False
  | _ => False

theorem sindexAddr_sound (hM : Mem cx S.res ρ I F w) {t : TypeId} {x ix : SV} {v u : Value} {k : SV → Prop} (hx : SV.den ρ I w x v) (hix : SV.den ρ I w ix u) (h : sindexAddr P S t x ix k) :
    ∃ v' s, SV.den ρ I w s v' ∧ k s ∧ ∀ w', (Instr.indexAt t v u).run P w' = .ok v' w' := by
  unfold sindexAddr at h
  split at h
  · rename_i kk i
    unfold SV.den at hix
    subst hix
    split at h
    · rename_i e hu
      split at h
      · rename_i inf hi
        split at h
        · rename_i ty xs
          split at h
          · rename_i hsz
            have hsz' : inf.size = ty.sz := Nat.eq_of_beq_eq_true hsz
            obtain ⟨⟨h0, h1⟩, hk⟩ := h
            unfold SV.den at hx
            obtain ⟨A, c, he, hlc, hcm, hel⟩ := hx
            simp only [List.cons.injEq, and_true] at he
            subst he
            have hlt : i.toNat < xs.length := by omega
            have hy : xs[i.toNat]? = some xs[i.toNat] := List.getElem?_eq_getElem hlt
            obtain ⟨ad, cells, rfl, hI, hr, hc⟩ := hel i.toNat _ hy
            refine ⟨.pointer (some (ad.add (i.toNat * ty.sz))), _, ?_, hk _ hy, fun w' => ?_⟩
            · unfold SV.den
              refine ⟨ad.add (i.toNat * ty.sz), cells, by rw [add_zero], by rw [add_block]; exact hI, hr, fun j w1 hj => ?_⟩
              rw [add_add]; exact hc j w1 hj
            · have hb : 0 ≤ i ∧ i < (xs.length : Int) := ⟨h0, h1⟩
              simp only [Instr.indexAt, asIntOf, Sem.run_bind, Sem.run_pure, Result.andThen_ok, run_underlying hu, hb, and_self, if_true, run_sizeOf' hi, hsz']
          · exact h.elim
        · rename_i e' hh
          obtain ⟨⟨h0, h1⟩, h⟩ := h
          split at h
          · rename_i hsz
            have hsz' : inf.size = 1 := Nat.eq_of_beq_eq_true hsz
            unfold SV.den at hx
            obtain ⟨rfl, hok⟩ := hx
            cases hhb : hh.b with
            | none => have := hok.2.2 hhb; have := hok.1; omega
            | some g =>
              refine ⟨.pointer (some ⟨g, hh.off + i.toNat, none⟩), _, ?_, h, fun w' => ?_⟩
              · unfold SV.den; simp [hhb]
              · have hb : 0 ≤ i ∧ i < (hh.len : Int) := ⟨h0, h1⟩
                simp only [Instr.indexAt, asIntOf, Sem.run_bind, Sem.run_pure, Result.andThen_ok, run_underlying hu, hb, and_self, if_true, run_sizeOf' hi, hsz', hdV, hhb, Option.map_some, plain_add', Nat.mul_one]
          · exact h.elim
        · rename_i r
          split at h
          · rename_i e2 ty xs hres
            split at h
            · rename_i hsz
              have hsz' : inf.size = ty.sz := Nat.eq_of_beq_eq_true hsz
              obtain ⟨⟨h0, h1⟩, hk⟩ := h
              unfold SV.den at hx
              obtain ⟨v0, cells, g1, g2, g3, _⟩ := hM.holds _ _ hres
              rw [hx.1] at g1
              cases g1
              rcases g2.2 with ⟨e1, e2⟩ | ⟨g', cap, cur, hv, _, hh, hnc, hcm, hcs, htk⟩
              · omega
              · subst hv
                refine ⟨.pointer (some ⟨g', i.toNat * ty.sz + 0, none⟩), _, ?_, hk, fun w' => ?_⟩
                · unfold SV.den; exact ⟨g', _, _, hx.1, rfl⟩
                · have hb : 0 ≤ i ∧ i < (xs.length : Int) := ⟨h0, h1⟩
                  simp only [Instr.indexAt, asIntOf, Sem.run_bind, Sem.run_pure, Result.andThen_ok, run_underlying hu, hb, and_self, if_true, run_sizeOf' hi, hsz', plain_add', Nat.zero_add, Nat.add_zero]
            · exact h.elim
          · exact h.elim
        · exact h.elim
      · exact h.elim
    · rename_i n e hu
      split at h
      · rename_i inf hi
        split at h
        · rename_i b off
          obtain ⟨⟨h0, h1⟩, hk⟩ := h
          unfold SV.den at hx
          obtain ⟨b', hb, rfl⟩ := hx
          refine ⟨.pointer (some ⟨b', off + i.toNat * inf.size, none⟩), _, ?_, hk, fun w' => ?_⟩
          · unfold SV.den; exact ⟨b', hb, rfl⟩
          · have hb2 : 0 ≤ i ∧ i < (n : Int) := ⟨h0, h1⟩
            simp only [Instr.indexAt, asIntOf, Sem.run_bind, Sem.run_pure, Result.andThen_ok, run_underlying hu, Instr.sureAddr, hb2, and_self, if_true, run_sizeOf' hi, plain_add']
        · exact h.elim
      · exact h.elim
    · exact h.elim
  · exact h.elim

def sindex (P : Program) (t : TypeId) (x ix : SV) (k : SV → Prop) : Prop :=
  match ix with
  | .int _ i => match P.underlying t with
    | some .string => match x with
      | .str s => (0 ≤ i ∧ i < s.size) ∧ ∀ b : UInt8, s[i.toNat]? = some b → k (.int .u8 b.toNat)
      | _ => False
    | some (.array n e) => match P.info? e with
      | some inf => match x with
        | .agg cs => (0 ≤ i ∧ i < n) ∧ loadC P e cs (i.toNat * inf.size) k
        | _ => False
      | none => False
    | _ => False
  | _ => False

theorem sindex_sound {t : TypeId} {x ix : SV} {v u : Value} {k : SV → Prop} (hx : SV.den ρ I w x v) (hix : SV.den ρ I w ix u) (h : sindex P t x ix k) :
    ∃ v' s, SV.den ρ I w s v' ∧ k s ∧ ∀ w', (Instr.index t v u).run P w' = .ok v' w' := by
  unfold sindex at h
  split at h
  · rename_i kk i
    unfold SV.den at hix
    subst hix
    split at h
    · rename_i hu
      split at h
      · rename_i s
        obtain ⟨⟨h0, h1⟩, hk⟩ := h
        unfold SV.den at hx
        obtain ⟨rfl, hs⟩ := hx
        have hlt : i.toNat < s.size := by omega
        have hy : s[i.toNat]? = some s[i.toNat] := getElem?_pos s i.toNat hlt
        refine ⟨.int .u8 s[i.toNat].toNat, _, ?_, hk _ hy, fun w' => ?_⟩
        · simp [SV.den]
        · simp only [Instr.index, asIntOf, Sem.run_bind, Sem.run_pure, Result.andThen_ok, run_underlying hu, h0, if_true, hy]
      · exact h.elim
    · rename_i n e hu
      split at h
      · rename_i inf hi
        split at h
        · rename_i cs
          obtain ⟨⟨h0, h1⟩, hk⟩ := h
          unfold SV.den at hx
          obtain ⟨vs, rfl, hd⟩ := hx
          obtain ⟨v', s, g1, g2, g3⟩ := partC_sound hd hk
          refine ⟨v', s, g1, g2, fun w' => ?_⟩
          have hb2 : 0 ≤ i ∧ i < (n : Int) := ⟨h0, h1⟩
          simp only [Instr.index, asIntOf, Sem.run_bind, Sem.run_pure, Result.andThen_ok, run_underlying hu, hb2, and_self, if_true, run_sizeOf' hi, g3]
        · exact h.elim
      · exact h.elim
    · exact h.elim
  · exact h.elim
end
end Go.Proofs.Ytfdcmbaoekjkgaa.Gx
namespace Go.Proofs.Ytfdcmbaoekjkgaa.Gx
open Go.RowKit
set_option linter.unusedSimpArgs false
set_option linter.unusedVariables false

def bitv (op : BinOp) (k : IntKind) (x y : Int) : Int :=
  let a := BitVec.ofInt k.bits x
  let b := BitVec.ofInt k.bits y
  match op with
  | .and => k.wrap (a &&& b).toNat
  | .or => k.wrap (a ||| b).toNat
  | .xor => k.wrap (a ^^^ b).toNat
  | _ => k.wrap (a &&& ~~~b).toNat

def shiftv (op : BinOp) (k : IntKind) (x y : Int) : Int :=
  match op with
  | .shl => k.wrap (x * 2 ^ min y.toNat k.bits)
  | _ => x.fdiv (2 ^ min y.toNat k.bits)

def sint (op : BinOp) (kk kk' : IntKind) (a b : Int) (k : SV → Prop) : Prop :=
  match op with
  | .shl | .shr => 0 ≤ b ∧ k (.int kk (shiftv op kk a b))
  | _ => if kk = kk' then
    (match op with
    | .add => k (.int kk (kk.wrap (a + b)))
    | .sub => k (.int kk (kk.wrap (a - b)))
    | .mul => k (.int kk (kk.wrap (a * b)))
    | .quo => b ≠ 0 ∧ k (.int kk (kk.wrap (a.tdiv b)))
    | .rem => b ≠ 0 ∧ k (.int kk (a.tmod b))
    | .and => k (.int kk (bitv .and kk a b))
    | .or => k (.int kk (bitv .or kk a b))
    | .xor => k (.int kk (bitv .xor kk a b))
    | .andNot => k (.int kk (bitv .andNot kk a b))
    | .eql => k (.bool (a == b))
    | .neq => k (.bool (a != b))
    | .lss => k (.bool (decide (a < b)))
    | .leq => k (.bool (decide (a ≤ b)))
    | .gtr => k (.bool (decide (a > b)))
    | .geq => k (.bool (decide (a ≥ b)))
    | _ => False)
    else False

section
variable {P : Program} {cx : Cx} {S : St} {ρ : List Value} {I : Nat → Prop} {F : Nat → Nat → Prop} {w : World}

theorem sint_sound {op : BinOp} {t : TypeId} {kk kk' : IntKind} {a b : Int} {k : SV → Prop} (h : sint op kk kk' a b k) :
    ∃ v' s, SV.den ρ I w s v' ∧ k s ∧ ∀ w', (binOp op t (.int kk a) (.int kk' b)).run P w' = .ok v' w' := by
  unfold sint at h
  split at h
  · obtain ⟨hb, h⟩ := h
    refine ⟨_, _, by unfold SV.den; rfl, h, fun w' => ?_⟩
    have hb' : ¬ b < 0 := by omega
    simp [binOp, Op.shift, hb', shiftv]
  · obtain ⟨hb, h⟩ := h
    refine ⟨_, _, by unfold SV.den; rfl, h, fun w' => ?_⟩
    have hb' : ¬ b < 0 := by omega
    simp [binOp, Op.shift, hb', shiftv]
  · rename_i hs1 hs2
    split at h
    · rename_i hk
      subst hk
      split at h
      · exact ⟨_, _, by unfold SV.den; rfl, h, fun w' => by simp [binOp, Op.intArith]⟩
      · exact ⟨_, _, by unfold SV.den; rfl, h, fun w' => by simp [binOp, Op.intArith]⟩
      · exact ⟨_, _, by unfold SV.den; rfl, h, fun w' => by simp [binOp, Op.intArith]⟩
      · exact ⟨_, _, by unfold SV.den; rfl, h.2, fun w' => by simp [binOp, Op.intDiv, h.1]⟩
      · exact ⟨_, _, by unfold SV.den; rfl, h.2, fun w' => by simp [binOp, Op.intDiv, h.1]⟩
      · exact ⟨_, _, by unfold SV.den; rfl, h, fun w' => by simp [binOp, Op.intBits, bitv]⟩
      · exact ⟨_, _, by unfold SV.den; rfl, h, fun w' => by simp [binOp, Op.intBits, bitv]⟩
      · exact ⟨_, _, by unfold SV.den; rfl, h, fun w' => by simp [binOp, Op.intBits, bitv]⟩
      · exact ⟨_, _, by unfold SV.den; rfl, h, fun w' => by simp [binOp, Op.intBits, bitv]⟩
      · exact ⟨_, _, by unfold SV.den; rfl, h, fun w' => by simp [binOp, Op.intCmp]⟩
      · exact ⟨_, _, by unfold SV.den; rfl, h, fun w' => by simp [binOp, Op.intCmp]⟩
      · exact ⟨_, _, by unfold SV.den; rfl, h, fun w' => by simp [binOp, Op.intCmp]⟩
      · exact ⟨_, _, by unfold SV.den; rfl, h, fun w' => by simp [binOp, Op.intCmp]⟩
      · exact ⟨_, _, by unfold SV.den; rfl, h, fun w' => by simp [binOp, Op.intCmp]⟩
      · exact ⟨_, _, by unfold SV.den; rfl, h, fun w' => by simp [binOp, Op.intCmp]⟩
      · exact h.elim
    · exact h.elim

def isBoolT (P : Program) (t : TypeId) : Bool := match P.underlying t with | some .bool => true | _ => false
def isPtrT (P : Program) (t : TypeId) : Bool := match P.underlying t with | some (.pointer _) => true | _ => false

def sbool (P : Program) (op : BinOp) (t : TypeId) (a b : Bool) (k : SV → Prop) : Prop :=
  match isBoolT P t with
  | true => (match op with
    | .eql => k (.bool (a == b))
    | .neq => k (.bool (!(a == b)))
    | _ => False)
  | false => False

theorem isBoolT_un {t : TypeId} (h : isBoolT P t = true) : P.underlying t = some .bool := by
  unfold isBoolT at h; split at h
  · assumption
  · cases h

theorem sbool_sound {op : BinOp} {t : TypeId} {a b : Bool} {k : SV → Prop} (h : sbool P op t a b k) :
    ∃ v' s, SV.den ρ I w s v' ∧ k s ∧ ∀ w', (binOp op t (.bool a) (.bool b)).run P w' = .ok v' w' := by
  unfold sbool at h
  split at h
  · rename_i hb
    split at h
    · exact ⟨_, _, by unfold SV.den; rfl, h, fun w' => run_eql_bool w' t a b (isBoolT_un hb)⟩
    · exact ⟨_, _, by unfold SV.den; rfl, h, fun w' => run_neq_bool w' t a b (isBoolT_un hb)⟩
    · exact h.elim
  · exact h.elim

def sstr (op : BinOp) (a b : ByteArray) (k : SV → Prop) : Prop :=
  match op with
  | .add => a.size + b.size ≤ maxLen ∧ k (.str (a ++ b))
  | .eql => k (.bool (a.toList == b.toList))
  | .neq => k (.bool (!(a.toList == b.toList)))
  | .lss => k (.bool (Op.bytesLess a.toList b.toList))
  | _ => False

theorem sstr_sound {op : BinOp} {t : TypeId} {a b : ByteArray} {k : SV → Prop} (h : sstr op a b k) :
    ∃ v' s, SV.den ρ I w s v' ∧ k s ∧ ∀ w', (binOp op t (.string a) (.string b)).run P w' = .ok v' w' := by
  unfold sstr at h
  split at h
  · obtain ⟨hb, h⟩ := h
    refine ⟨.string (a ++ b), _, ?_, h, fun w' => ?_⟩
    · unfold SV.den; exact ⟨rfl, by rw [ByteArray.size_append]; exact hb⟩
    · have hmax : IntKind.i64.max = 9223372036854775807 := rfl
      have : ¬ ((a.size + b.size : Nat) : Int) > 9223372036854775807 := by simp only [maxLen] at hb; omega
      simp only [binOp, Op.stringOp, hmax, this, if_false, Sem.run_pure]
  · exact ⟨_, _, by unfold SV.den; rfl, h, fun w' => by simp [binOp, Op.stringOp]⟩
  · exact ⟨_, _, by unfold SV.den; rfl, h, fun w' => by simp [binOp, Op.stringOp]⟩
  · exact ⟨_, _, by unfold SV.den; rfl, h, fun w' => by simp [binOp, Op.stringOp]⟩
  · exact h.elim

/-- A pointer that is not nil against nil. -/
def sptr (P : Program) (op : BinOp) (t : TypeId) (isnil : Bool) (k : SV → Prop) : Prop :=
  match isPtrT P t with
  | true => (match op with
    | .eql => k (.lit isnil)
    | .neq => k (.lit (!isnil))
    | _ => False)
  | false => False

theorem isPtrT_un {t : TypeId} (h : isPtrT P t = true) : ∃ e, P.underlying t = some (.pointer e) := by
  unfold isPtrT at h; split at h
  · rename_i e he; exact ⟨e, he⟩
  · cases h

theorem sptr_sound {op : BinOp} {t : TypeId} {p : Option Addr} {k : SV → Prop} (h : sptr P op t p.isNone k) :
    ∃ v' s, SV.den ρ I w s v' ∧ k s ∧ ∀ w', (binOp op t (.pointer p) (.pointer none)).run P w' = .ok v' w' := by
  unfold sptr at h
  split at h
  · rename_i hb
    obtain ⟨e, he⟩ := isPtrT_un hb
    split at h
    · refine ⟨.bool p.isNone, _, by unfold SV.den; rfl, h, fun w' => ?_⟩
      exact run_eql_pointer_nil w' t p (by rw [he]; simp [Program.pointee, he])
    · refine ⟨.bool (!p.isNone), _, by unfold SV.den; rfl, h, fun w' => ?_⟩
      exact run_neq_pointer_nil w' t p (by rw [he]; simp [Program.pointee, he])
    · exact h.elim
  · exact h.elim

/-- A pointer that may be nil against nil. -/
def sptrB (P : Program) (op : BinOp) (t : TypeId) (isnil : Bool) (k : SV → Prop) : Prop :=
  match isPtrT P t with
  | true => (match op with
    | .eql => k (.bool isnil)
    | .neq => k (.bool (!isnil))
    | _ => False)
  | false => False

theorem sptrB_sound {op : BinOp} {t : TypeId} {p : Option Addr} {b : Bool} {k : SV → Prop} (hb : b = p.isNone) (h : sptrB P op t b k) :
    ∃ v' s, SV.den ρ I w s v' ∧ k s ∧ ∀ w', (binOp op t (.pointer p) (.pointer none)).run P w' = .ok v' w' := by
  subst hb
  unfold sptrB at h
  split at h
  · rename_i hb
    obtain ⟨e, he⟩ := isPtrT_un hb
    split at h
    · refine ⟨.bool p.isNone, _, by unfold SV.den; rfl, h, fun w' => ?_⟩
      exact run_eql_pointer_nil w' t p (by rw [he]; simp [Program.pointee, he])
    · refine ⟨.bool (!p.isNone), _, by unfold SV.den; rfl, h, fun w' => ?_⟩
      exact run_neq_pointer_nil w' t p (by rw [he]; simp [Program.pointee, he])
    · exact h.elim
  · exact h.elim

/-- A map against nil. -/
def smapN (P : Program) (op : BinOp) (t : TypeId) (isnil : Bool) (k : SV → Prop) : Prop :=
  match P.underlying t with
  | some (.map _ _) => (match op with
    | .eql => k (.lit isnil)
    | .neq => k (.lit (!isnil))
    | _ => False)
  | _ => False

theorem gx_equal_nilM (w : World) (t : TypeId) {kt et : TypeId} (a : Option Nat) (h : P.underlying t = some (.map kt et)) : (Op.equal t (.map a) (.map none)).run P w = .ok a.isNone w := by
  have : ∀ d, (Op.equalIn (d + 1) t (.map a) (.map none)).run P w = .ok a.isNone w := fun d => by
    cases a <;> simp [Op.equalIn, run_underlying h]
  exact this 9999

theorem smapN_sound {op : BinOp} {t : TypeId} {p : Option Nat} {b : Bool} {k : SV → Prop} (hb : b = p.isNone) (h : smapN P op t b k) :
    ∃ v' s, SV.den ρ I w s v' ∧ k s ∧ ∀ w', (binOp op t (.map p) (.map none)).run P w' = .ok v' w' := by
  subst hb
  unfold smapN at h
  split at h
  · rename_i kt et he
    split at h
    · exact ⟨.bool p.isNone, _, by unfold SV.den; rfl, h, fun w' => by simp [binOp, gx_equal_nilM w' t p he]⟩
    · exact ⟨.bool (!p.isNone), _, by unfold SV.den; rfl, h, fun w' => by simp [binOp, gx_equal_nilM w' t p he]⟩
    · exact h.elim
  · exact h.elim

/-- So many integers are compared. -/
def eqIts : Nat → List SV → List SV → Option (Bool × List SV × List SV)
  | 0, cs, ds => some (true, cs, ds)
  | n + 1, cs, ds => match cs, ds with
    | .int k a :: cs, .int k' b :: ds => match decEq k k' with
      | .isTrue _ => match eqIts n cs ds with
        | some (r, x, y) => some (a == b && r, x, y)
        | none => none
      | _ => none
    | _, _ => none

def bitS : SV → Option Bool
  | .bool b => some b
  | .lit b => some b
  | _ => none

/-- Two structs of integers, bools, texts and arrays of integers are compared. -/
def eqFsS (P : Program) : List Field → Nat → List SV → List SV → Option Bool
  | [], _, cs, ds => match cs, ds with
    | [], [] => some true
    | _, _ => none
  | f :: fs, i, cs, ds => match P.underlying f.type, Nat.beq f.offset i, f.name == "_" with
    | some (.int _), true, false => match cs, ds with
      | .int k a :: cs, .int k' b :: ds => match decEq k k' with
        | .isTrue _ => match eqFsS P fs (i + 1) cs ds with
          | some r => some (a == b && r)
          | none => none
        | _ => none
      | _, _ => none
    | some .bool, true, false => match cs, ds with
      | c :: cs, d :: ds => match bitS c, bitS d with
        | some a, some b => match eqFsS P fs (i + 1) cs ds with
          | some r => some (a == b && r)
          | none => none
        | _, _ => none
      | _, _ => none
    | some (.array n e), true, false => match P.underlying e, P.info? e, P.info? f.type with
      | some (.int _), some inf, some inf2 => match Nat.beq inf.size 1, Nat.beq inf2.size n, eqIts n cs ds with
        | true, true, some (r1, cs', ds') => match eqFsS P fs (i + n) cs' ds' with
          | some r => some (r1 && r)
          | none => none
        | _, _, _ => none
      | _, _, _ => none
    | _, _, _ => none

def seqA (P : Program) (op : BinOp) (t : TypeId) (cs ds : List SV) (k : SV → Prop) : Prop :=
  match P.underlying t with
  | some (.struct fs) => match P.stoodInHeld t, P.eqGuardType P.depth t with
    | false, false => match eqFsS P fs.toList 0 cs ds with
      | some r => match op with
        | .eql => k (.bool r)
        | .neq => k (.bool (!r))
        | _ => False
      | none => False
    | _, _ => False
  | _ => False

theorem bitS_den {s : SV} {b : Bool} {v : Value} (h : bitS s = some b) (hd : SV.den ρ I w s v) : v = .bool b := by
  unfold bitS at h
  split at h
  · cases h; unfold SV.den at hd; exact hd
  · cases h; unfold SV.den at hd; exact hd
  · cases h

theorem eqIts_run {e : TypeId} {ke : IntKind} (he : P.underlying e = some (.int ke)) (n : Nat) {xs ys : Array Value} {o K : Nat} : (k s : Nat) → s + k = K → (cs ds : List SV) → (r : Bool) → (cs' ds' : List SV) → SV.denL ρ I w cs (xs.toList.drop (o + s)) → SV.denL ρ I w ds (ys.toList.drop (o + s)) → eqIts k cs ds = some (r, cs', ds') →
    (∀ w', (Op.eqItems (n + 1) e 1 (xs.extract o (o + K)) (ys.extract o (o + K)) (List.range' s k)).run P w' = .ok r w') ∧ SV.denL ρ I w cs' (xs.toList.drop (o + K)) ∧ SV.denL ρ I w ds' (ys.toList.drop (o + K))
  | 0, s, hs, cs, ds, r, cs', ds', h1, h2, h => by
    unfold eqIts at h
    cases h
    have : s = K := by omega
    subst this
    exact ⟨fun w' => by simp [Op.eqItems], h1, h2⟩
  | k + 1, s, hs, cs, ds, r, cs', ds', h1, h2, h => by
    unfold eqIts at h
    split at h
    · rename_i q a cs q' b ds
      split at h
      · rename_i hq hdec
        split at h
        · rename_i r' x y hr
          cases h
          subst hq
          unfold SV.denL at h1 h2
          obtain ⟨v, vs, e1, d1, t1⟩ := h1
          obtain ⟨u, us, e2, d2, t2⟩ := h2
          unfold SV.den at d1 d2
          subst d1; subst d2
          have hx : xs[o + s]? = some (.int q a) := by
            have := congrArg (fun l => l[0]?) e1
            simpa using this
          have hy : ys[o + s]? = some (.int q b) := by
            have := congrArg (fun l => l[0]?) e2
            simpa using this
          have hd1 : xs.toList.drop (o + (s + 1)) = vs := by rw [show o + (s + 1) = o + s + 1 by omega, ← List.tail_drop, e1]; rfl
          have hd2 : ys.toList.drop (o + (s + 1)) = us := by rw [show o + (s + 1) = o + s + 1 by omega, ← List.tail_drop, e2]; rfl
          obtain ⟨ih, g1, g2⟩ := eqIts_run he n (xs := xs) (ys := ys) (o := o) (K := K) k (s + 1) (by omega) cs ds r' _ _ (by rw [hd1]; exact t1) (by rw [hd2]; exact t2) hr
          have hx' : (xs.extract o (o + K))[s]? = some (.int q a) := by
            rw [Array.getElem?_extract, if_pos (by have := (Array.getElem?_eq_some_iff.1 hx).1; omega)]; exact hx
          have hy' : (ys.extract o (o + K))[s]? = some (.int q b) := by
            rw [Array.getElem?_extract, if_pos (by have := (Array.getElem?_eq_some_iff.1 hy).1; omega)]; exact hy
          refine ⟨fun w' => ?_, g1, g2⟩
          have p1 : (part e (xs.extract o (o + K)) (s * 1)).run P w' = .ok (.int q a) w' := by rw [Nat.mul_one]; simp [part, isAgg, run_underlying he, hx']
          have p2 : (part e (ys.extract o (o + K)) (s * 1)).run P w' = .ok (.int q b) w' := by rw [Nat.mul_one]; simp [part, isAgg, run_underlying he, hy']
          have p3 := run_equalIn_int w' n e q ke a b he
          simp only [List.range'_succ, Op.eqItems, Sem.run_bind, p1, p2, p3, Result.andThen_ok]
          cases hab : a == b
          · simp
          · simp only [Bool.not_true, Bool.false_eq_true, if_false, Bool.true_and]; exact ih w'
        · cases h
      · cases h
    · cases h

theorem eqFsS_run (n : Nat) {xs ys : Array Value} : (fs : List Field) → (i : Nat) → (cs ds : List SV) → (r : Bool) → SV.denL ρ I w cs (xs.toList.drop i) → SV.denL ρ I w ds (ys.toList.drop i) → eqFsS P fs i cs ds = some r →
    ∀ w', (Op.eqFields (n + 2) xs ys fs).run P w' = .ok r w'
  | [], i, cs, ds, r, h1, h2, h, w' => by
    unfold eqFsS at h
    split at h
    · cases h; simp [Op.eqFields]
    · cases h
  | f :: fs, i, cs, ds, r, h1, h2, h, w' => by
    unfold eqFsS at h
    split at h
    · rename_i kk hu hoff hname
      have hoff := Nat.eq_of_beq_eq_true hoff
      have hnm : f.name ≠ "_" := by simpa using hname
      split at h
      · rename_i k a cs k' b ds
        split at h
        · rename_i hk hdec
          split at h
          · rename_i r' hr
            cases h
            subst hk
            unfold SV.denL at h1 h2
            obtain ⟨v, vs, e1, d1, t1⟩ := h1
            obtain ⟨u, us, e2, d2, t2⟩ := h2
            unfold SV.den at d1 d2
            subst d1; subst d2
            have hx : xs[f.offset]? = some (.int k a) := by
              have := congrArg (fun l => l[0]?) e1
              rw [hoff]; simpa using this
            have hy : ys[f.offset]? = some (.int k b) := by
              have := congrArg (fun l => l[0]?) e2
              rw [hoff]; simpa using this
            have hd1 : xs.toList.drop (i + 1) = vs := by rw [← List.tail_drop, e1]; rfl
            have hd2 : ys.toList.drop (i + 1) = us := by rw [← List.tail_drop, e2]; rfl
            have ih := eqFsS_run n fs (i + 1) cs ds r' (by rw [hd1]; exact t1) (by rw [hd2]; exact t2) hr w'
            have p1 : (part f.type xs f.offset).run P w' = .ok (.int k a) w' := by simp [part, isAgg, run_underlying hu, hx]
            have p2 : (part f.type ys f.offset).run P w' = .ok (.int k b) w' := by simp [part, isAgg, run_underlying hu, hy]
            have p3 := run_equalIn_int w' (n + 1) f.type k kk a b hu
            simp only [Op.eqFields, if_pos hnm, Sem.run_bind, p1, p2, p3, Result.andThen_ok]
            cases hab : a == b
            · simp
            · simp only [Bool.not_true, Bool.false_eq_true, if_false, Bool.true_and]; exact ih
          · cases h
        · cases h
      · cases h
    · rename_i hu hoff hname
      have hoff := Nat.eq_of_beq_eq_true hoff
      have hnm : f.name ≠ "_" := by simpa using hname
      split at h
      · rename_i c cs d ds
        split at h
        · rename_i a b ha hb
          split at h
          · rename_i r' hr
            cases h
            unfold SV.denL at h1 h2
            obtain ⟨v, vs, e1, d1, t1⟩ := h1
            obtain ⟨u, us, e2, d2, t2⟩ := h2
            have d1 := bitS_den ha d1
            have d2 := bitS_den hb d2
            subst d1; subst d2
            have hx : xs[f.offset]? = some (.bool a) := by
              have := congrArg (fun l => l[0]?) e1
              rw [hoff]; simpa using this
            have hy : ys[f.offset]? = some (.bool b) := by
              have := congrArg (fun l => l[0]?) e2
              rw [hoff]; simpa using this
            have hd1 : xs.toList.drop (i + 1) = vs := by rw [← List.tail_drop, e1]; rfl
            have hd2 : ys.toList.drop (i + 1) = us := by rw [← List.tail_drop, e2]; rfl
            have ih := eqFsS_run n fs (i + 1) cs ds r' (by rw [hd1]; exact t1) (by rw [hd2]; exact t2) hr w'
            have p1 : (part f.type xs f.offset).run P w' = .ok (.bool a) w' := by simp [part, isAgg, run_underlying hu, hx]
            have p2 : (part f.type ys f.offset).run P w' = .ok (.bool b) w' := by simp [part, isAgg, run_underlying hu, hy]
            have p3 := run_equalIn_bool w' (n + 1) f.type a b hu
            simp only [Op.eqFields, if_pos hnm, Sem.run_bind, p1, p2, p3, Result.andThen_ok]
            cases hab : a == b
            · simp
            · simp only [Bool.not_true, Bool.false_eq_true, if_false, Bool.true_and]; exact ih
          · cases h
        · cases h
      · cases h
    · rename_i m e hu hoff hname
      have hoff := Nat.eq_of_beq_eq_true hoff
      have hnm : f.name ≠ "_" := by simpa using hname
      split at h
      · rename_i ke inf inf2 he hinf hinf2
        split at h
        · rename_i r1 cs' ds' hs1 hs2 hit
          have hs1 := Nat.eq_of_beq_eq_true hs1
          have hs2 := Nat.eq_of_beq_eq_true hs2
          split at h
          · rename_i r' hr
            cases h
            obtain ⟨hrun, g1, g2⟩ := eqIts_run he n (xs := xs) (ys := ys) (o := i) (K := m) m 0 (by omega) cs ds r1 cs' ds' h1 h2 hit
            have ih := eqFsS_run n fs (i + m) cs' ds' r' g1 g2 hr w'
            have hce : P.cellsOf e = 1 := by simp [Program.cellsOf, hinf, hs1]
            have p1 : (part f.type xs f.offset).run P w' = .ok (.agg (xs.extract i (i + m))) w' := by simp [part, isAgg, run_underlying hu, run_sizeOf' hinf2, hs2, hoff]
            have p2 : (part f.type ys f.offset).run P w' = .ok (.agg (ys.extract i (i + m))) w' := by simp [part, isAgg, run_underlying hu, run_sizeOf' hinf2, hs2, hoff]
            have p3 : (Op.equalIn (n + 2) f.type (.agg (xs.extract i (i + m))) (.agg (ys.extract i (i + m)))).run P w' = .ok r1 w' := by
              rw [run_equalIn_array w' (n + 1) _ _ hu hinf, hce, List.range_eq_range']
              exact hrun w'
            simp only [Op.eqFields, if_pos hnm, Sem.run_bind, p1, p2, p3, Result.andThen_ok]
            cases r1
            · simp
            · simp only [Bool.not_true, Bool.false_eq_true, if_false, Bool.true_and]; exact ih
          · cases h
        · cases h
      · cases h
    · cases h

theorem seqA_sound {op : BinOp} {t : TypeId} {cs ds : List SV} {ox oy : Operand} {xs ys : List Value} {k : SV → Prop} (h1 : SV.denL ρ I w cs xs) (h2 : SV.denL ρ I w ds ys) (h : seqA P op t cs ds k) :
    ∃ v' s, SV.den ρ I w s v' ∧ k s ∧ ∀ w', (do eqGuard op t ox oy (.agg xs.toArray) (.agg ys.toArray); binOp op t (.agg xs.toArray) (.agg ys.toArray) : Sem Value).run P w' = .ok v' w' := by
  unfold seqA at h
  split at h
  · rename_i fs hT
    split at h
    · rename_i hp hm
      split at h
      · rename_i r hr
        have hF : P.fieldsOf t = fs := by unfold Program.fieldsOf; rw [hT]
        have hrun := eqFsS_run (P := P) (ρ := ρ) (I := I) (w := w) 9997 (xs := xs.toArray) (ys := ys.toArray) fs.toList 0 cs ds r (by simpa using h1) (by simpa using h2) hr
        have heq : ∀ w', (Op.equalIn 10000 t (.agg xs.toArray) (.agg ys.toArray)).run P w' = .ok r w' := fun w' => by
          rw [run_equalIn_struct w' 9999 t _ _ (by rw [hF]; exact hT) hp, hF]; exact hrun w'
        split at h
        · exact ⟨.bool r, _, by unfold SV.den; rfl, h, fun w' => by rw [Sem.run_bind, run_eqGuard_agg w' _ t ox oy _ _ hm, Result.andThen_ok, run_eql_struct, heq]; rfl⟩
        · exact ⟨.bool (!r), _, by unfold SV.den; rfl, h, fun w' => by rw [Sem.run_bind, run_eqGuard_agg w' _ t ox oy _ _ hm, Result.andThen_ok, run_neq_struct, heq]; rfl⟩
        · exact h.elim
      · exact h.elim
    · exact h.elim
  · exact h.elim

def sbin (P : Program) (op : BinOp) (t : TypeId) (x y : SV) (k : SV → Prop) : Prop :=
  match x, y with
  | .int kk a, .int kk' b => sint op kk kk' a b k
  | .bool a, .bool b => sbool P op t a b k
  | .bool a, .lit b => sbool P op t a b k
  | .lit a, .bool b => sbool P op t a b k
  | .lit a, .lit b => sbool P op t a b k
  | .str a, .str b => sstr op a b k
  | .agg cs, .agg ds => seqA P op t cs ds k
  | .ptr _ _, .val (.pointer none) => sptr P op t false k
  | .pto _ _ _, .val (.pointer none) => sptr P op t false k
  | .val (.pointer none), .val (.pointer none) => sptr P op t true k
  | .adr _ x, .val (.pointer none) => sptrB P op t x.isNone k
  | .fp _ _ _ _ _, .val (.pointer none) => sptr P op t false k
  | .mp _, .val (.map none) => smapN P op t false k
  | .val (.map none), .val (.map none) => smapN P op t true k
  | _, _ => False

theorem run_eqGuard_int {op : BinOp} {t : TypeId} {x y : Operand} {a b : Value} (ha : ∀ cs, a ≠ .agg cs) (hb : a ≠ .nilIface) (w' : World) : (eqGuard op t x y a b).run P w' = .ok () w' := by
  cases a <;> first | exact absurd rfl hb | exact absurd rfl (ha _) | (cases op <;> rfl)

theorem sbin_sound {op : BinOp} {t : TypeId} {x y : SV} {ox oy : Operand} {v u : Value} {k : SV → Prop} (hx : SV.den ρ I w x v) (hy : SV.den ρ I w y u) (h : sbin P op t x y k) :
    ∃ v' s, SV.den ρ I w s v' ∧ k s ∧ ∀ w', (do eqGuard op t ox oy v u; binOp op t v u : Sem Value).run P w' = .ok v' w' := by
  have fin : (∀ cs, v ≠ .agg cs) → v ≠ .nilIface → (∃ v' s, SV.den ρ I w s v' ∧ k s ∧ ∀ w', (binOp op t v u).run P w' = .ok v' w') →
      ∃ v' s, SV.den ρ I w s v' ∧ k s ∧ ∀ w', (do eqGuard op t ox oy v u; binOp op t v u : Sem Value).run P w' = .ok v' w' := by
    rintro h1 h2 ⟨v', s, g1, g2, g3⟩
    exact ⟨v', s, g1, g2, fun w' => by simp only [Sem.run_bind, run_eqGuard_int h1 h2, Result.andThen_ok, g3]⟩
  unfold sbin at h
  split at h
  · unfold SV.den at hx hy; subst hx; subst hy
    exact fin (by intro cs; simp) (by simp) (sint_sound h)
  · unfold SV.den at hx hy; subst hx; subst hy
    exact fin (by intro cs; simp) (by simp) (sbool_sound h)
  · unfold SV.den at hx hy; subst hx; subst hy
    exact fin (by intro cs; simp) (by simp) (sbool_sound h)
  · unfold SV.den at hx hy; subst hx; subst hy
    exact fin (by intro cs; simp) (by simp) (sbool_sound h)
  · unfold SV.den at hx hy; subst hx; subst hy
    exact fin (by intro cs; simp) (by simp) (sbool_sound h)
  · unfold SV.den at hx hy; obtain ⟨rfl, _⟩ := hx; obtain ⟨rfl, _⟩ := hy
    exact fin (by intro cs; simp) (by simp) (sstr_sound h)
  · unfold SV.den at hx hy; obtain ⟨xs, rfl, h1⟩ := hx; obtain ⟨ys, rfl, h2⟩ := hy
    exact seqA_sound h1 h2 h
  · unfold SV.den at hx hy; obtain ⟨b, _, rfl⟩ := hx; subst hy
    exact fin (by intro cs; simp) (by simp) (sptr_sound (p := some _) h)
  · unfold SV.den at hx hy; obtain ⟨ad, cells, rfl, _⟩ := hx; subst hy
    exact fin (by intro cs; simp) (by simp) (sptr_sound (p := some _) h)
  · unfold SV.den at hx hy; subst hx; subst hy
    exact fin (by intro cs; simp) (by simp) (sptr_sound (p := none) h)
  · unfold SV.den at hx hy; subst hx; subst hy
    exact fin (by intro cs; simp) (by simp) (sptrB_sound (by simp) h)
  · unfold SV.den at hx hy; subst hx; subst hy
    exact fin (by intro cs; simp) (by simp) (sptr_sound (p := some _) h)
  · unfold SV.den at hx hy; obtain ⟨b, _, rfl⟩ := hx; subst hy
    exact fin (by intro cs; simp) (by simp) (smapN_sound (p := some _) rfl h)
  · unfold SV.den at hx hy; subst hx; subst hy
    exact fin (by intro cs; simp) (by simp) (smapN_sound (p := none) rfl h)
  · exact h.elim

def sun (op : UnOp) (x : SV) (k : SV → Prop) : Prop :=
  match op, x with
  | .not, .bool b => k (.bool (!b))
  | .not, .lit b => k (.lit (!b))
  | .neg, .int kk n => k (.int kk (kk.wrap (0 - n)))
  | _, _ => False

theorem sun_sound {op : UnOp} {x : SV} {v : Value} {k : SV → Prop} (hx : SV.den ρ I w x v) (h : sun op x k) :
    ∃ v' s, SV.den ρ I w s v' ∧ k s ∧ ∀ w', (Op.unary op v).run P w' = .ok v' w' := by
  unfold sun at h
  split at h
  · unfold SV.den at hx; subst hx; exact ⟨_, _, by unfold SV.den; rfl, h, fun w' => by simp [Op.unary]⟩
  · unfold SV.den at hx; subst hx; exact ⟨_, _, by unfold SV.den; rfl, h, fun w' => by simp [Op.unary]⟩
  · unfold SV.den at hx; subst hx; exact ⟨_, _, by unfold SV.den; rfl, h, fun w' => by simp [Op.unary, Op.intArith]⟩
  · exact h.elim

def sconv (P : Program) (src dst : TypeId) (x : SV) (k : SV → Prop) : Prop :=
  match P.underlying src, P.underlying dst, x with
  | some _, some (.int kd), .int _ n => k (.int kd (kd.wrap n))
  | some .string, some .string, .str s => k (.str s)
  | _, _, _ => False

theorem sconv_sound {src dst : TypeId} {x : SV} {v : Value} {k : SV → Prop} (hx : SV.den ρ I w x v) (h : sconv P src dst x k) :
    ∃ v' s, SV.den ρ I w s v' ∧ k s ∧ ∀ w', (convert src dst v).run P w' = .ok v' w' := by
  unfold sconv at h
  split at h
  · rename_i d kd kk n hs hd
    unfold SV.den at hx; subst hx
    exact ⟨_, _, by unfold SV.den; rfl, h, fun w' => by simp [convert, run_underlying hs, run_underlying hd, Conv.intToInt]⟩
  · rename_i s hs hd
    have hx' := hx
    unfold SV.den at hx; obtain ⟨rfl, _⟩ := hx
    exact ⟨_, _, hx', h, fun w' => by simp [convert, run_underlying hs, run_underlying hd]⟩
  · exact h.elim

def sextract (x : SV) (i : Nat) (k : SV → Prop) : Prop :=
  match x with
  | .tup vs => match vs[i]? with
    | some s => k s
    | none => False
  | _ => False

theorem sextract_sound {x : SV} {i : Nat} {v : Value} {k : SV → Prop} (hx : SV.den ρ I w x v) (h : sextract x i k) :
    ∃ v' s, SV.den ρ I w s v' ∧ k s ∧ ∀ w', (Instr.extract v i).run P w' = .ok v' w' := by
  unfold sextract at h
  split at h
  · rename_i ss
    split at h
    · rename_i s hs
      unfold SV.den at hx
      obtain ⟨vs, rfl, hd⟩ := hx
      obtain ⟨v', hv, hdn⟩ := SV.denL_get ss hd i s hs
      exact ⟨v', s, hdn, h, fun w' => by simp [Instr.extract, hv]⟩
    · exact h.elim
  · exact h.elim

/-- The bounds of a slice expression. -/
def oint : Option SV → Option (Option Int)
  | none => some none
  | some (.int _ n) => some (some n)
  | _ => none

/-- A part of a slice, by its head. -/
def subH (h : Hd) (lo hi : Nat) : Hd := ⟨h.b, if h.cap = lo then h.off else h.off + lo, hi - lo, h.cap - lo⟩

def sslice (P : Program) (t : TypeId) (x : SV) (lo hi : Option SV) (k : SV → Prop) : Prop :=
  match oint lo, oint hi with
  | some l, some h => match P.underlying t, x with
    | some .string, .str s =>
      (0 ≤ h.getD s.size ∧ h.getD s.size ≤ s.size ∧ 0 ≤ l.getD 0 ∧ l.getD 0 ≤ h.getD s.size) ∧ k (.str (s.extract (l.getD 0).toNat (h.getD s.size).toNat))
    | some (.slice e), .rs ty xs => match P.info? e with
      | some inf => match Nat.beq inf.size ty.sz with
        | true => (0 ≤ h.getD xs.length ∧ h.getD xs.length ≤ xs.length ∧ 0 ≤ l.getD 0 ∧ l.getD 0 ≤ h.getD xs.length) ∧ k (.rs ty ((xs.take (h.getD xs.length).toNat).drop (l.getD 0).toNat))
        | false => False
      | none => False
    | some (.slice e), .hd e' hh => match P.info? e with
      | some inf => match Nat.beq inf.size 1 with
        | true => (0 ≤ h.getD hh.len ∧ h.getD hh.len ≤ hh.len ∧ 0 ≤ l.getD 0 ∧ l.getD 0 ≤ h.getD hh.len) ∧ k (.hd e' (subH hh (l.getD 0).toNat (h.getD hh.len).toNat))
        | false => False
      | none => False
    | _, _ => False
  | _, _ => False

def ODen (ρ : List Value) (I : Nat → Prop) (w : World) : Option SV → Option Value → Prop
  | none, none => True
  | some s, some v => SV.den ρ I w s v
  | _, _ => False

theorem oint_den {o : Option SV} {ov : Option Value} {n : Option Int} (h : oint o = some n) (hd : ODen ρ I w o ov) :
    (n = none ∧ ov = none) ∨ (∃ kk m, n = some m ∧ ov = some (.int kk m)) := by
  unfold oint at h
  split at h
  · cases h
    cases ov with
    | none => exact .inl ⟨rfl, rfl⟩
    | some v => exact hd.elim
  · cases h
    rename_i kk m
    cases ov with
    | none => exact hd.elim
    | some v => simp only [ODen, SV.den] at hd; subst hd; exact .inr ⟨kk, m, rfl, rfl⟩
  · cases h

theorem run_sliceBounds (isS : Bool) (len cap : Nat) (hlc : len ≤ cap) {lo hi : Option Value} {l h : Option Int} (hl : (l = none ∧ lo = none) ∨ (∃ kk m, l = some m ∧ lo = some (.int kk m)))
    (hh : (h = none ∧ hi = none) ∨ (∃ kk m, h = some m ∧ hi = some (.int kk m))) (h0 : 0 ≤ h.getD len) (h1 : h.getD len ≤ len) (l0 : 0 ≤ l.getD 0) (l1 : l.getD 0 ≤ h.getD len) (w' : World) :
    (Instr.sliceBounds isS len cap lo hi none).run P w' = .ok ((l.getD 0).toNat, (h.getD len).toNat, cap) w' := by
  rcases hh with ⟨rfl, rfl⟩ | ⟨kh, mh, rfl, rfl⟩ <;> rcases hl with ⟨rfl, rfl⟩ | ⟨kl, ml, rfl, rfl⟩
  · simp [Instr.sliceBounds]
  · simp only [Option.getD_some, Option.getD_none] at *
    have : 0 ≤ ml ∧ ml ≤ (len : Int) := ⟨l0, l1⟩
    simp [Instr.sliceBounds, Instr.sliceBound, asIntOf, this]
  · simp only [Option.getD_some, Option.getD_none] at *
    have : 0 ≤ mh ∧ mh ≤ (cap : Int) := ⟨h0, by omega⟩
    simp [Instr.sliceBounds, Instr.sliceBound, asIntOf, this]
  · simp only [Option.getD_some, Option.getD_none] at *
    have g1 : 0 ≤ mh ∧ mh ≤ (cap : Int) := ⟨h0, by omega⟩
    have g2 : 0 ≤ ml ∧ ml ≤ (mh.toNat : Int) := ⟨l0, by omega⟩
    have g3 : (mh.toNat : Int) = mh := Int.toNat_of_nonneg h0
    have g4 : ml ≤ mh := l1
    simp [Instr.sliceBounds, Instr.sliceBound, asIntOf, g1, l0, g3, g4]

theorem size_extract_le (s : ByteArray) (a b : Nat) : (s.extract a b).size ≤ s.size := by rw [ByteArray.size_extract]; omega

theorem sslice_sound {t : TypeId} {x : SV} {v : Value} {lo hi : Option SV} {vl vh : Option Value} {k : SV → Prop} (hx : SV.den ρ I w x v)
    (hlo : ODen ρ I w lo vl) (hhi : ODen ρ I w hi vh) (h : sslice P t x lo hi k) :
    ∃ v' s, SV.den ρ I w s v' ∧ k s ∧ ∀ w', (Instr.sliceAt t v vl vh none).run P w' = .ok v' w' := by
  unfold sslice at h
  split at h
  · rename_i l hb e1 e2
    have hl := oint_den e1 hlo
    have hh := oint_den e2 hhi
    split at h
    · rename_i s hu
      obtain ⟨⟨g0, g1, g2, g3⟩, hk⟩ := h
      unfold SV.den at hx
      obtain ⟨rfl, hs⟩ := hx
      refine ⟨.string (s.extract (l.getD 0).toNat (hb.getD s.size).toNat), _, ?_, hk, fun w' => ?_⟩
      · unfold SV.den; exact ⟨rfl, Nat.le_trans (size_extract_le _ _ _) hs⟩
      · simp [Instr.sliceAt, run_underlying hu, Instr.slice, run_sliceBounds (P := P) false s.size s.size (Nat.le_refl _) hl hh g0 g1 g2 g3 w']
    · rename_i e ty xs hu
      split at h
      · rename_i inf hi
        split at h
        · rename_i hsz
          have hsz' : inf.size = ty.sz := Nat.eq_of_beq_eq_true hsz
          obtain ⟨⟨g0, g1, g2, g3⟩, hk⟩ := h
          unfold SV.den at hx
          obtain ⟨A, c, he, hlc, hcm, hel⟩ := hx
          simp only [List.cons.injEq, and_true] at he
          subst he
          have hln : (l.getD 0).toNat ≤ (hb.getD xs.length).toNat := by omega
          have hhn : (hb.getD xs.length).toNat ≤ xs.length := by omega
          generalize hL : (l.getD 0).toNat = L at *
          generalize hH : (hb.getD xs.length).toNat = H at *
          have hlen : ((xs.take H).drop L).length = H - L := by rw [List.length_drop, List.length_take]; omega
          refine ⟨.slice (if c = L then A else A.map (·.add (L * inf.size))) (H - L) (c - L), _, ?_, hk, fun w' => ?_⟩
          · unfold SV.den
            refine ⟨_, c - L, by rw [hlen], by rw [hlen]; omega, by omega, fun i y hy => ?_⟩
            have hiy : i < H - L := by
              rcases Nat.lt_or_ge i ((xs.take H).drop L).length with h | h
              · rwa [hlen] at h
              · rw [List.getElem?_eq_none h] at hy; cases hy
            have hy' : xs[L + i]? = some y := by
              rw [List.getElem?_drop, List.getElem?_take, if_pos (by omega)] at hy
              exact hy
            obtain ⟨ad, cells, rfl, hI, hr, hc⟩ := hel (L + i) y hy'
            rw [if_neg (by omega)]
            refine ⟨ad.add (L * inf.size), cells, rfl, by rw [add_block]; exact hI, hr, fun j u hj => ?_⟩
            rw [add_add, hsz', show L * ty.sz + (i * ty.sz + j) = (L + i) * ty.sz + j by rw [Nat.add_mul]; omega]
            exact hc j u hj
          · have hb' := run_sliceBounds (P := P) true xs.length c hlc hl hh g0 g1 g2 g3 w'
            rw [hL, hH] at hb'
            simp [Instr.sliceAt, run_underlying hu, Instr.slice, hb', run_sizeOf' hi]
        · exact h.elim
      · exact h.elim
    · rename_i e e' hd' hu
      split at h
      · rename_i inf hi
        split at h
        · rename_i hsz
          have hsz' : inf.size = 1 := Nat.eq_of_beq_eq_true hsz
          obtain ⟨⟨g0, g1, g2, g3⟩, hk⟩ := h
          unfold SV.den at hx
          obtain ⟨rfl, hok⟩ := hx
          obtain ⟨ok1, ok2, ok3⟩ := hok
          have hb' := fun w' => run_sliceBounds (P := P) true hd'.len hd'.cap ok1 hl hh g0 g1 g2 g3 w'
          generalize hL : (l.getD 0).toNat = L at *
          generalize hH : (hb.getD hd'.len).toNat = H at *
          refine ⟨hdV (subH hd' L H), _, ?_, hk, fun w' => ?_⟩
          · unfold SV.den
            refine ⟨rfl, ?_, ?_, fun hb => ?_⟩
            · simp only [subH]; omega
            · simp only [subH]; omega
            · have := ok3 hb; simp only [subH]; omega
          · have hb'' := hb' w'
            obtain ⟨bb, off, len, cap⟩ := hd'
            simp only at *
            cases bb with
            | none => simp [Instr.sliceAt, run_underlying hu, Instr.slice, hb'', run_sizeOf' hi, subH, hdV]
            | some g =>
              by_cases hc : cap = L
              · clear hb'; subst hc; simp [Instr.sliceAt, run_underlying hu, Instr.slice, hb'', run_sizeOf' hi, subH, hdV]
              · simp [Instr.sliceAt, run_underlying hu, Instr.slice, hb'', run_sizeOf' hi, subH, hdV, hsz', hc, plain_add']
        · exact h.elim
      · exact h.elim
    · exact h.elim
  · exact h.elim
end
end Go.Proofs.Ytfdcmbaoekjkgaa.Gx
namespace Go.Proofs.Ytfdcmbaoekjkgaa.Gx
open Go.RowKit
set_option linter.unusedSimpArgs false
set_option linter.unusedVariables false

def implI (kk : IntKind) : List SV → Option (Int × List SV)
  | .int kk' n :: r => if kk = kk' then some (n, r) else none
  | _ => none
def implB : List SV → Option (Bool × List SV)
  | .bool b :: r => some (b, r)
  | .lit b :: r => some (b, r)
  | _ => none
def implS : List SV → Option (ByteArray × List SV)
  | .str s :: r => some (s, r)
  | _ => none
def implR (t : Ty) : List SV → Option (List t.den × List SV)
  | .rs t' xs :: r => if h : t' = t then some (h ▸ xs, r) else none
  | .val (.slice none 0 0) :: r => some ([], r)
  | .ev :: r => some ([], r)
  | _ => none
def implA (T : TypeId) : List SV → Option (Option Nat × List SV)
  | .adr T' x :: r => match Nat.beq T' T with
    | true => some (x, r)
    | false => none
  | .val (.pointer none) :: r => some (none, r)
  | _ => none

def implH (e : TypeId) : List SV → Option (Hd × List SV)
  | .hd e' h :: r => match Nat.beq e' e with
    | true => some (h, r)
    | false => none
  | .val (.slice none 0 0) :: r => some (nilHd, r)
  | _ => none

def implode : (t : Ty) → List SV → Option (t.den × List SV)
  | .int kk, l => implI kk l
  | .bool, l => implB l
  | .str, l => implS l
  | .slice t, l => implR t l
  | .adr T, l => implA T l
  | .hd e, l => implH e l
  | .pair a b, l => match implode a l with
    | some (x, l1) => match implode b l1 with
      | some (y, l2) => some ((x, y), l2)
      | none => none
    | none => none

theorem nil_reads (I : Nat → Prop) (w : World) (t : Ty) : Rd I w (.slice t) [] [.slice none 0 0] :=
  ⟨none, 0, rfl, by simp, by decide, fun i x hx => by simp at hx⟩

theorem implode_den {ρ : List Value} {I : Nat → Prop} {w : World} : (t : Ty) → {l : List SV} → {vs : List Value} → {x : t.den} → {r : List SV} → SV.denL ρ I w l vs → implode t l = some (x, r) →
    ∃ c1 c2, vs = c1 ++ c2 ∧ Rd I w t x c1 ∧ SV.denL ρ I w r c2
  | .int kk, l, vs, x, r, hd, h => by
    simp only [implode] at h
    unfold implI at h
    split at h <;> try cases h
    split at h <;> cases h
    rename_i e
    simp only [SV.denL, SV.den] at hd
    obtain ⟨_, vs', rfl, rfl, h2⟩ := hd
    subst e
    exact ⟨[_], vs', rfl, rfl, h2⟩
  | .bool, l, vs, x, r, hd, h => by
    simp only [implode] at h
    unfold implB at h
    split at h <;> cases h
    · simp only [SV.denL, SV.den] at hd
      obtain ⟨_, vs', rfl, rfl, h2⟩ := hd
      exact ⟨[_], vs', rfl, rfl, h2⟩
    · simp only [SV.denL, SV.den] at hd
      obtain ⟨_, vs', rfl, rfl, h2⟩ := hd
      exact ⟨[_], vs', rfl, rfl, h2⟩
  | .str, l, vs, x, r, hd, h => by
    simp only [implode] at h
    unfold implS at h
    split at h <;> cases h
    simp only [SV.denL, SV.den] at hd
    obtain ⟨_, vs', rfl, ⟨rfl, h1⟩, h2⟩ := hd
    exact ⟨[_], vs', rfl, ⟨rfl, h1⟩, h2⟩
  | .slice t, l, vs, x, r, hd, h => by
    simp only [implode] at h
    unfold implR at h
    split at h <;> try cases h
    · split at h <;> cases h
      rename_i e
      subst e
      simp only [SV.denL, SV.den] at hd
      obtain ⟨v, vs', rfl, h1, h2⟩ := hd
      exact ⟨[v], vs', rfl, h1, h2⟩
    · simp only [SV.denL, SV.den] at hd
      obtain ⟨_, vs', rfl, rfl, h2⟩ := hd
      exact ⟨[_], vs', rfl, nil_reads I w t, h2⟩
    · simp only [SV.denL, SV.den] at hd
      obtain ⟨_, vs', rfl, ⟨A, rfl⟩, h2⟩ := hd
      exact ⟨[_], vs', rfl, ⟨A, 0, rfl, by simp, by decide, fun i x hx => by simp at hx⟩, h2⟩
  | .pair t u, l, vs, x, r, hd, h => by
    simp only [implode] at h
    split at h
    · rename_i y l1 h1
      split at h
      · rename_i z l2 h2
        cases h
        obtain ⟨c1, c2, rfl, g1, g2⟩ := implode_den t hd h1
        obtain ⟨c3, c4, rfl, g3, g4⟩ := implode_den u g2 h2
        exact ⟨c1 ++ c3, c4, by simp, ⟨c1, c3, rfl, g1, g3⟩, g4⟩
      · cases h
    · cases h
  | .adr T, l, vs, x, r, hd, h => by
    simp only [implode] at h
    unfold implA at h
    split at h <;> try cases h
    · split at h <;> cases h
      simp only [SV.denL, SV.den] at hd
      obtain ⟨_, vs', rfl, rfl, h2⟩ := hd
      exact ⟨[_], vs', rfl, rfl, h2⟩
    · simp only [SV.denL, SV.den] at hd
      obtain ⟨_, vs', rfl, rfl, h2⟩ := hd
      exact ⟨[_], vs', rfl, rfl, h2⟩
  | .hd e, l, vs, x, r, hd, h => by
    simp only [implode] at h
    unfold implH at h
    split at h <;> try cases h
    · split at h <;> cases h
      simp only [SV.denL, SV.den] at hd
      obtain ⟨_, vs', rfl, ⟨rfl, ho⟩, h2⟩ := hd
      exact ⟨[_], vs', rfl, ⟨rfl, ho⟩, h2⟩
    · simp only [SV.denL, SV.den] at hd
      obtain ⟨_, vs', rfl, rfl, h2⟩ := hd
      exact ⟨[_], vs', rfl, ⟨rfl, by simp [Hd.ok, nilHd, maxLen]⟩, h2⟩

/-! ### Maps -/
def lookL {α : Type _} : List (Int × α) → Int → Option α
  | [], _ => none
  | x :: l, k => if x.1 = k then some x.2 else lookL l k

def vSV (ag : Bool) (t : Ty) (x : t.den) : SV := match ag with
  | true => .agg (explode t x)
  | false => match explode t x with
    | [s] => s
    | ss => .agg ss

/-- A type's zero value, as data. -/
def zdat (P : Program) (et : TypeId) (ag : Bool) (vt : Ty) : Option vt.den :=
  match P.info? et with
  | some i => match i.zero with
    | some z => match ag, z with
      | true, .agg cs => match implode vt (cs.toList.map cSV) with
        | some (y, []) => some y
        | _ => none
      | true, _ => none
      | false, .agg _ => none
      | false, z => match implode vt [cSV z] with
        | some (y, []) => some y
        | _ => none
    | none => none
  | none => none

def zSV (P : Program) (et : TypeId) : Option SV :=
  match P.info? et with
  | some i => match i.zero with
    | some z => match z with
      | .agg cs => some (.agg (cs.toList.map cSV))
      | z => some (cSV z)
    | none => none
  | none => none

def slookup (P : Program) (S : St) (T : TypeId) (x ix : SV) (ok : Bool) (k : SV → Prop) : Prop :=
  match P.underlying T, ix with
  | some (.map kt et), .int kk n => match P.underlying kt, x with
    | some (.int _), .mp i => match S.res[i]? with
      | some (.mapr kk' ag vt es _) => match decEq kk' kk, zdat P et ag vt with
        | .isTrue _, some z => match ok with
          | true => k (.tup [vSV ag vt ((lookL es n).getD z), .bool (lookL es n).isSome])
          | false => k (vSV ag vt ((lookL es n).getD z))
        | _, _ => False
      | _ => False
    | some (.int _), .val (.map none) => match zSV P et with
      | some z => match ok with
        | true => k (.tup [z, .lit false])
        | false => k z
      | none => False
    | _, _ => False
  | _, _ => False

section
variable {P : Program} {cx : Cx} {S : St} {ρ : List Value} {I : Nat → Prop} {F : Nat → Nat → Prop} {w : World}

theorem vSV_den {ag : Bool} {t : Ty} {x : t.den} {v : Value} (h : VRd I w ag t x v) : SV.den ρ I w (vSV ag t x) v := by
  cases ag with
  | true =>
    obtain ⟨cs, rfl, h⟩ := h
    simp only [vSV]
    unfold SV.den
    exact ⟨cs, rfl, explode_den t h⟩
  | false =>
    have h1 := explode_den (ρ := ρ) t h
    have h2 := SV.denL_length _ h1
    simp only [vSV]
    split
    · rename_i s e
      rw [e] at h1
      unfold SV.denL at h1
      obtain ⟨v', vs', e2, h3, _⟩ := h1
      cases e2
      exact h3
    · rename_i hne
      match he : explode t x, h2 with
      | [s], _ => exact absurd he (hne s)

theorem cSV_list (ρ : List Value) (I : Nat → Prop) (w : World) : (vs : List Value) → SV.denL ρ I w (vs.map cSV) vs
  | [] => by simp [SV.denL]
  | v :: vs => by
    simp only [List.map_cons]
    unfold SV.denL
    exact ⟨v, vs, rfl, cSV_den ρ I w v, cSV_list ρ I w vs⟩

theorem zero_run {et : TypeId} {i : TypeInfo} {z : Value} (hi : P.info? et = some i) (hz : i.zero = some z) (w' : World) : (zeroValue et).run P w' = .ok z w' := by
  simp [zeroValue, typeInfo, hi, hz]

theorem zdat_run {et : TypeId} {ag : Bool} {vt : Ty} {y : vt.den} (h : zdat P et ag vt = some y) : ∃ z, (∀ w', (zeroValue et).run P w' = .ok z w') ∧ ∀ I w, VRd I w ag vt y z := by
  unfold zdat at h
  split at h
  · rename_i i hi
    split at h
    · rename_i z hz
      refine ⟨z, fun w' => zero_run hi hz w', fun I w => ?_⟩
      split at h
      · rename_i cs
        split at h
        · rename_i y' hy
          cases h
          obtain ⟨c1, c2, e, h1, h2⟩ := implode_den (ρ := []) vt (cSV_list [] I w cs.toList) hy
          unfold SV.denL at h2
          subst h2
          rw [List.append_nil] at e
          exact ⟨c1, by rw [← e], h1⟩
        · cases h
      · cases h
      · cases h
      · split at h
        · rename_i y' hy
          cases h
          obtain ⟨c1, c2, e, h1, h2⟩ := implode_den (ρ := []) vt (cSV_list [] I w [z]) hy
          unfold SV.denL at h2
          subst h2
          rw [List.append_nil] at e
          subst e
          exact h1
        · cases h
    · cases h
  · cases h

theorem zSV_run {et : TypeId} {s : SV} (h : zSV P et = some s) : ∃ z, (∀ w', (zeroValue et).run P w' = .ok z w') ∧ SV.den ρ I w s z := by
  unfold zSV at h
  split at h
  · rename_i i hi
    split at h
    · rename_i z hz
      refine ⟨z, fun w' => zero_run hi hz w', ?_⟩
      split at h
      · cases h
        unfold SV.den
        exact ⟨_, rfl, cSV_list ρ I w _⟩
      · cases h
        exact cSV_den ρ I w _
    · cases h
  · cases h

theorem findNow_ok {kk : IntKind} {ag : Bool} {vt : Ty} {kd : IntKind} {n : Int} : (ents : List MapEntry) → {es : List (Int × vt.den)} → EntsOk I w kk ag vt ents es → (i : Nat) →
    (lookL es n = none ∧ Instr.findNow (.int kd) (.int kk n) ents i = some none) ∨
    ∃ y j e, lookL es n = some y ∧ Instr.findNow (.int kd) (.int kk n) ents i = some (some (i + j, e.val)) ∧ ents[j]? = some e ∧ es[j]? = some (n, y) ∧ VRd I w ag vt y e.val
  | [], _, h, i => by
    simp only [EntsOk] at h
    subst h
    exact .inl ⟨rfl, rfl⟩
  | e :: ents, _, h, i => by
    obtain ⟨x, es', rfl, h1, h2, h3⟩ := h
    have hs : Instr.sameNow (.int kd) (.int kk n) e.key = some (n == x.1) := by rw [h1]; simp [Instr.sameNow]
    by_cases hx : x.1 = n
    · refine .inr ⟨x.2, 0, e, by simp [lookL, hx], ?_, rfl, by rw [← hx]; rfl, h2⟩
      simp only [Instr.findNow, hs, hx, beq_self_eq_true, Nat.add_zero]
    · have hx' : (n == x.1) = false := by simp; exact fun e => hx e.symm
      rcases findNow_ok (kd := kd) (n := n) ents h3 (i + 1) with ⟨g1, g2⟩ | ⟨y, j, e', g1, g2, g3, g4, g5⟩
      · exact .inl ⟨by simp only [lookL, if_neg hx, g1], by simp only [Instr.findNow, hs, hx', g2]⟩
      · refine .inr ⟨y, j + 1, e', by simp only [lookL, if_neg hx, g1], ?_, by simpa using g3, by simpa using g4, g5⟩
        simp only [Instr.findNow, hs, hx', g2]
        rw [show i + 1 + j = i + (j + 1) by omega]

theorem checkKey_int {kt : TypeId} {kd kk : IntKind} {n : Int} (h : P.underlying kt = some (.int kd)) (em : Bool) (w' : World) : (Instr.checkKey em 10000 kt (.int kk n)).run P w' = .ok () w' := by
  show (Instr.checkKey em (Nat.succ 9999) kt (.int kk n)).run P w' = _
  rw [Instr.checkKey.eq_2]
  simp only [Sem.run_bind, run_underlying h, Result.andThen_ok, Sem.run_pure]

theorem findKey_int {kt : TypeId} {kd kk : IntKind} {n : Int} (h : P.underlying kt = some (.int kd)) {ents : List MapEntry} {r : Option (Nat × Value)} (hr : Instr.findNow (.int kd) (.int kk n) ents 0 = some r) (w' : World) :
    (Instr.findKey kt (.int kk n) ents).run P w' = .ok r w' := by
  simp only [Instr.findKey, Sem.run_bind, run_underlying h, Result.andThen_ok, hr, Sem.run_pure]

theorem getObj_map {w' : World} {b : Nat} {ents : List MapEntry} {clock : Nat} (h : w'.heap[b]? = some (.map ents.toArray clock)) : (getObj b).run P w' = .ok (.map ents.toArray clock) w' := by
  simp [getObj, Sem.run, h]

theorem slookup_sound (hM : Mem cx S.res ρ I F w) {T : TypeId} {x ix : SV} {v u : Value} {ok : Bool} {k : SV → Prop} (hx : SV.den ρ I w x v) (hix : SV.den ρ I w ix u) (h : slookup P S T x ix ok k) :
    ∃ v' s, SV.den ρ I w s v' ∧ k s ∧ ∀ w', Same w w' → (Instr.lookup T v u ok).run P w' = .ok v' w' := by
  unfold slookup at h
  split at h
  · rename_i kt et kk n hT
    unfold SV.den at hix
    subst hix
    split at h
    · rename_i kd i hk
      split at h
      · rename_i kk' ag vt es it hr
        split at h
        · rename_i e z _ hz
          subst e
          unfold SV.den at hx
          obtain ⟨b, hb, rfl⟩ := hx
          obtain ⟨b', ents, clock, ro, g1, g2, _, _⟩ := hM.holds _ _ hr
          rw [hb] at g1
          cases g1
          obtain ⟨z', hz1, hz2⟩ := zdat_run hz
          have hgo : ∀ w', Same w w' → w'.heap[b]? = some (.map ents.toArray clock) := fun w' hw => (hw b (Array.getElem?_eq_some_iff.1 g2.heap).1).trans g2.heap
          obtain ⟨v0, f0, hv0, hrun⟩ : ∃ v0 f0, (VRd I w ag vt ((lookL es n).getD z) v0 ∧ f0 = (lookL es n).isSome) ∧ ∀ w', Same w w' → (Instr.lookup T (.map (some b)) (.int kk' n) ok).run P w' = .ok (if ok then .tuple #[v0, .bool f0] else v0) w' := by
            rcases findNow_ok (kd := kd) (n := n) ents g2.rd 0 with ⟨q1, q2⟩ | ⟨y, j, e, q1, q2, q3, q4, q5⟩
            · refine ⟨z', false, ⟨by rw [q1]; exact hz2 I w, by rw [q1]; rfl⟩, fun w' hw => ?_⟩
              simp only [Instr.lookup, Sem.run_bind, run_underlying hT, Result.andThen_ok, getObj_map (hgo w' hw), Sem.run_pure, checkKey_int hk, findKey_int hk q2, hz1]
            · refine ⟨e.val, true, ⟨by rw [q1]; exact q5, by rw [q1]; rfl⟩, fun w' hw => ?_⟩
              simp only [Instr.lookup, Sem.run_bind, run_underlying hT, Result.andThen_ok, getObj_map (hgo w' hw), Sem.run_pure, checkKey_int hk, findKey_int hk q2]
          obtain ⟨hv0, rfl⟩ := hv0
          have hd := vSV_den (ρ := ρ) hv0
          cases ok with
          | true =>
            refine ⟨_, _, ?_, h, hrun⟩
            simp only [if_true]
            unfold SV.den
            refine ⟨[v0, .bool (lookL es n).isSome], rfl, ?_⟩
            unfold SV.denL
            refine ⟨_, _, rfl, hd, ?_⟩
            unfold SV.denL SV.den
            exact ⟨_, _, rfl, rfl, by simp [SV.denL]⟩
          | false => exact ⟨_, _, hd, h, hrun⟩
        · exact h.elim
      · exact h.elim
    · rename_i kd hk
      unfold SV.den at hx
      subst hx
      split at h
      · rename_i z hz
        obtain ⟨z', hz1, hz2⟩ := zSV_run (ρ := ρ) (I := I) (w := w) hz
        have hrun : ∀ w', Same w w' → (Instr.lookup T (.map none) (.int kk n) ok).run P w' = .ok (if ok then .tuple #[z', .bool false] else z') w' := fun w' _ => by
          have : Instr.findNow (.int kd) (.int kk n) (#[] : Array MapEntry).toList 0 = some none := rfl
          simp only [Instr.lookup, Sem.run_bind, run_underlying hT, Result.andThen_ok, Sem.run_pure, checkKey_int hk, findKey_int hk this, hz1]
        cases ok with
        | true =>
          refine ⟨_, _, ?_, h, hrun⟩
          simp only [if_true]
          unfold SV.den
          refine ⟨[z', .bool false], rfl, ?_⟩
          unfold SV.denL
          refine ⟨_, _, rfl, hz2, ?_⟩
          unfold SV.denL SV.den
          exact ⟨_, _, rfl, rfl, by simp [SV.denL]⟩
        | false => exact ⟨_, _, hz2, h, hrun⟩
      · exact h.elim
    · exact h.elim
  · exact h.elim

/-! ### Iterating: the entry that is looked at -/
def sentry (S : St) (x : SV) (k : SV → Prop) : Prop :=
  match x with
  | .ptr j off => match S.res[j]? with
    | some (.mit i) => match S.res[i]? with
      | some (.mapr kk ag vt es (some (j', some n, _))) => match Nat.beq j' j, Nat.beq off 0 with
        | true, true => ∀ y, lookL es n = some y → k (.tup [.int kk n, vSV ag vt y])
        | _, _ => False
      | _ => False
    | _ => False
  | _ => False

theorem EntsOk.get {kk : IntKind} {ag : Bool} {vt : Ty} : {ents : List MapEntry} → {es : List (Int × vt.den)} → EntsOk I w kk ag vt ents es → (n : Nat) → (e : MapEntry) → (x : Int × vt.den) → ents[n]? = some e → es[n]? = some x → e.key = .int kk x.1 ∧ VRd I w ag vt x.2 e.val
  | [], _, _, n, e, x, h, _ => by simp at h
  | _ :: _, _, h, 0, e, x, h1, h2 => by
    obtain ⟨x', es', rfl, g1, g2, g3⟩ := h
    simp at h1 h2
    subst h1; subst h2
    exact ⟨g1, g2⟩
  | _ :: _, _, h, n + 1, e, x, h1, h2 => by
    obtain ⟨x', es', rfl, g1, g2, g3⟩ := h
    simp only [List.getElem?_cons_succ] at h1 h2
    exact EntsOk.get g3 n e x h1 h2

theorem find_born {α : Type _} : (ents : List MapEntry) → (es : List (Int × α)) → (ents.map (·.born)).Nodup → (es.map (·.1)).Nodup → (n : Nat) → (e : MapEntry) → (x : Int × α) → ents[n]? = some e → es[n]? = some x →
    ents.find? (fun e' => e'.born == e.born) = some e ∧ lookL es x.1 = some x.2
  | [], _, _, _, n, e, x, h, _ => by simp at h
  | _ :: _, [], _, _, n, e, x, _, h => by simp at h
  | e0 :: ents, x0 :: es, hb, hn, 0, e, x, h1, h2 => by
    simp at h1 h2
    subst h1; subst h2
    exact ⟨by simp, by simp [lookL]⟩
  | e0 :: ents, x0 :: es, hb, hn, n + 1, e, x, h1, h2 => by
    simp only [List.map_cons, List.nodup_cons] at hb hn
    simp only [List.getElem?_cons_succ] at h1 h2
    obtain ⟨g1, g2⟩ := find_born ents es hb.2 hn.2 n e x h1 h2
    have m1 : e.born ∈ ents.map (·.born) := List.mem_map.2 ⟨e, List.mem_of_getElem? h1, rfl⟩
    have m2 : x.1 ∈ es.map (·.1) := List.mem_map.2 ⟨x, List.mem_of_getElem? h2, rfl⟩
    refine ⟨?_, ?_⟩
    · rw [List.find?_cons_of_neg (by simp only [beq_iff_eq]; intro e'; rw [e'] at hb; exact hb.1 m1), g1]
    · simp only [lookL]
      rw [if_neg (fun e' => by rw [e'] at hn; exact hn.1 m2), g2]

theorem sentry_sound (hM : Mem cx S.res ρ I F w) {x : SV} {v : Value} {k : SV → Prop} (hx : SV.den ρ I w x v) (h : sentry S x k) :
    ∃ v' s, SV.den ρ I w s v' ∧ k s ∧ ∀ w', Same w w' → (Instr.entry v).run P w' = .ok v' w' := by
  unfold sentry at h
  split at h
  · rename_i j off
    split at h
    · rename_i i hr1
      split at h
      · rename_i kk ag vt es j' n left hr2
        split at h
        · rename_i hj ho
          obtain rfl := Nat.eq_of_beq_eq_true hj
          obtain rfl := Nat.eq_of_beq_eq_true ho
          obtain ⟨b, ents, clock, ro, g1, g2, g3, g4⟩ := hM.holds _ _ hr2
          obtain ⟨r, rfl, k1, k2, since, seen, stepped, i1, i2, i3, i4, i5⟩ := g4
          obtain ⟨m, e, x', e1, e2, e3, e4⟩ := i5 n rfl
          unfold SV.den at hx
          obtain ⟨r', hr', rfl⟩ := hx
          rw [k1] at hr'
          cases hr'
          obtain ⟨q1, q2⟩ := find_born ents es g2.born g2.nodup m e x' e1 e2
          obtain ⟨q3, q4⟩ := g2.rd.get m e x' e1 e2
          have hst : stepped = clock := i3 (by
            intro h0
            have : seen = #[] := by simpa using h0
            rw [this] at e4; simp at e4)
          subst hst
          rw [e3] at q2 q3
          refine ⟨.tuple #[e.key, e.val], _, ?_, h _ q2, fun w' hw => ?_⟩
          · unfold SV.den
            refine ⟨[e.key, e.val], rfl, ?_⟩
            unfold SV.denL
            refine ⟨_, _, rfl, by unfold SV.den; exact q3, ?_⟩
            unfold SV.denL
            exact ⟨_, _, rfl, vSV_den q4, by simp [SV.denL]⟩
          · have h1 : w'.heap[r]? = some (.mapIter (some b) since seen stepped) := (hw r (Array.getElem?_eq_some_iff.1 i1).1).trans i1
            have h2 : w'.heap[b]? = some (.map ents.toArray stepped) := (hw b (Array.getElem?_eq_some_iff.1 g2.heap).1).trans g2.heap
            have h3 : (getObj r).run P w' = .ok (.mapIter (some b) since seen stepped) w' := by simp [getObj, Sem.run, h1]
            have h4 : ents.toArray.find? (fun e' => e'.born == e.born) = some e := by simpa using q1
            simp only [Instr.entry, Sem.run_bind, h3, Result.andThen_ok, e4, getObj_map h2, bne_self_eq_false, Bool.false_eq_true, if_false, Sem.run_pure, h4]
        · exact h.elim
      · exact h.elim
    · exact h.elim
  · exact h.elim
end
end Go.Proofs.Ytfdcmbaoekjkgaa.Gx
namespace Go.Proofs.Ytfdcmbaoekjkgaa.Gx
open Go.RowKit
set_option linter.unusedSimpArgs false
set_option linter.unusedVariables false

/-- The cells that a value fills. -/
def SV.cells : SV → Option (List SV)
  | .agg cs => some cs
  | .any | .undef | .tup _ => none
  | .val v => match v.oneCell' with | true => some [.val v] | false => none
  | s => some [s]

section
variable {P : Program} {cx : Cx} {S : St} {ρ : List Value} {I : Nat → Prop} {F : Nat → Nat → Prop} {w : World}

theorem one_cells {v : Value} (h : v.oneCell' = true) : v.cells = #[v] := by cases v <;> simp_all [Value.oneCell', Value.cells]

theorem SV.cells_den (h1 : ∀ (i : Nat) v, ρ[i]? = some v → v.oneCell' = true) {s : SV} {cs : List SV} {v : Value} (hc : s.cells = some cs) (hd : SV.den ρ I w s v) : ∃ vs, v.cells = vs.toArray ∧ SV.denL ρ I w cs vs := by
  have one : s.cells = some [s] → v.oneCell' = true → ∃ vs, v.cells = vs.toArray ∧ SV.denL ρ I w cs vs := by
    intro g1 g2
    rw [hc] at g1
    cases g1
    exact ⟨[v], one_cells g2, by unfold SV.denL; exact ⟨v, [], rfl, hd, by simp [SV.denL]⟩⟩
  cases s with
  | any => simp [SV.cells] at hc
  | undef => simp [SV.cells] at hc
  | tup _ => simp [SV.cells] at hc
  | row i => refine one rfl ?_; unfold SV.den at hd; exact h1 _ _ hd.1
  | elt i j sz off => refine one rfl ?_; unfold SV.den at hd; obtain ⟨g, n, c, _, e⟩ := hd; rw [e]; rfl
  | win i lo hi sz => refine one rfl ?_; unfold SV.den at hd; obtain ⟨A, n, c, _, _, _, _, _, e⟩ := hd; rw [e]; rfl
  | agg l =>
    simp only [SV.cells, Option.some.injEq] at hc
    subst hc
    unfold SV.den at hd
    obtain ⟨vs, rfl, h⟩ := hd
    exact ⟨vs, rfl, h⟩
  | int k n => unfold SV.den at hd; exact one rfl (by rw [hd]; rfl)
  | bool b => unfold SV.den at hd; exact one rfl (by rw [hd]; rfl)
  | lit b => unfold SV.den at hd; exact one rfl (by rw [hd]; rfl)
  | str b => unfold SV.den at hd; exact one rfl (by rw [hd.1]; rfl)
  | rs t xs =>
    refine one rfl ?_
    unfold SV.den at hd
    obtain ⟨A, c, e, _⟩ := hd
    simp only [List.cons.injEq, and_true] at e
    rw [e]; rfl
  | pto t x off => refine one rfl ?_; unfold SV.den at hd; obtain ⟨ad, cells, e, _⟩ := hd; rw [e]; rfl
  | ptr i off => refine one rfl ?_; unfold SV.den at hd; obtain ⟨b, _, e⟩ := hd; rw [e]; rfl
  | yld i => refine one rfl ?_; unfold SV.den at hd; obtain ⟨l, _, e⟩ := hd; rw [e]; rfl
  | mp i => refine one rfl ?_; unfold SV.den at hd; obtain ⟨l, _, e⟩ := hd; rw [e]; rfl
  | adr T x => refine one rfl ?_; unfold SV.den at hd; rw [hd]; rfl
  | hd e h => refine one rfl ?_; unfold SV.den at hd; rw [hd.1]; rfl
  | fp T b j sz off => refine one rfl ?_; unfold SV.den at hd; rw [hd]; rfl
  | ev => refine one rfl ?_; unfold SV.den at hd; obtain ⟨A, e⟩ := hd; rw [e]; rfl
  | fn f caps => refine one rfl ?_; unfold SV.den at hd; obtain ⟨vs, e, _⟩ := hd; rw [e]; rfl
  | val u =>
    unfold SV.den at hd
    subst hd
    simp only [SV.cells] at hc
    split at hc
    · rename_i h; exact one (by simp [SV.cells, h]) h
    · cases hc

/-- One part after another laid over the cells. -/
def setS (off : Nat) : List SV → List SV → List SV
  | cells, [] => cells
  | cells, c :: cs => setS (off + 1) (cells.set off c) cs

def sfill (place : Nat → Option (Nat × Nat)) (cells : List SV) : List (Nat × SV) → Option (List SV)
  | [] => some cells
  | (i, s) :: rest => match place i, s.cells with
    | some (off, size), some cs => match Nat.beq cs.length size, Nat.ble (off + cs.length) cells.length with
      | true, true => sfill place (setS off cells cs) rest
      | _, _ => none
    | _, _ => none

theorem setS_length : ∀ (cs : List SV) (off : Nat) (cells : List SV), (setS off cells cs).length = cells.length
  | [], _, _ => rfl
  | c :: cs, off, cells => by rw [setS, setS_length cs]; simp

theorem setS_den : ∀ (cs : List SV) (off : Nat) (cells : List SV) (vs : List Value) (us : List Value), SV.denL ρ I w cells vs → SV.denL ρ I w cs us →
    ∃ vs', SV.denL ρ I w (setS off cells cs) vs' ∧ (∀ (n : Nat), (us.zipIdx n).foldl (fun (l : Array Value) (p : Value × Nat) => l.setIfInBounds (off - n + p.2) p.1) vs.toArray = vs'.toArray ∨ n ≤ off → True) ∧
      (∀ (n : Nat) (m : Nat), m + n = off → (us.zipIdx n).foldl (fun (l : Array Value) (p : Value × Nat) => l.setIfInBounds (m + p.2) p.1) vs.toArray = vs'.toArray)
  | [], off, cells, vs, us, h, k => by
    unfold SV.denL at k
    subst k
    exact ⟨vs, by simpa [setS] using h, fun _ _ => trivial, fun n m _ => by simp⟩
  | c :: cs, off, cells, vs, us, h, k => by
    unfold SV.denL at k
    obtain ⟨u, us', rfl, h1, h2⟩ := k
    obtain ⟨vs', g1, _, g2⟩ := setS_den cs (off + 1) (cells.set off c) (vs.set off u) us' (SV.denL_set cells h off c u h1) h2
    refine ⟨vs', by simpa [setS] using g1, fun _ _ => trivial, fun n m hm => ?_⟩
    have := g2 (n + 1) m (by omega)
    simp only [List.zipIdx_cons, List.foldl_cons]
    rw [show (vs.toArray.setIfInBounds (m + n) u) = (vs.set off u).toArray by rw [hm]; simp]
    exact this

theorem sfill_den (hon : ∀ (i : Nat) v, ρ[i]? = some v → v.oneCell' = true) (place : Nat → Option (Nat × Nat)) : ∀ (parts : List (Nat × SV)) (cells cells' : List SV) (vs : List Value) (vparts : List (Nat × Value)), sfill place cells parts = some cells' → SV.denL ρ I w cells vs →
    (vparts.map (·.1) = parts.map (·.1) ∧ SV.denL ρ I w (parts.map (·.2)) (vparts.map (·.2))) → ∃ vs', SV.denL ρ I w cells' vs' ∧ Instr.fill place vs.toArray vparts = some vs'.toArray
  | [], cells, cells', vs, vparts, h, hd, hp => by
    simp only [sfill, Option.some.injEq] at h
    subst h
    have : vparts = [] := by have := hp.1; simpa using this
    subst this
    exact ⟨vs, hd, rfl⟩
  | (i, s) :: rest, cells, cells', vs, vparts, h, hd, hp => by
    obtain ⟨hp1, hp2⟩ := hp
    cases vparts with
    | nil => simp at hp1
    | cons vp vrest =>
      obtain ⟨i', v⟩ := vp
      simp only [List.map_cons, List.cons.injEq] at hp1 hp2
      obtain ⟨rfl, hp1⟩ := hp1
      unfold SV.denL at hp2
      obtain ⟨v', vs2, e, h1, h2⟩ := hp2
      simp only [List.cons.injEq] at e
      obtain ⟨rfl, rfl⟩ := e
      simp only [sfill] at h
      split at h
      · rename_i off size cs hpl hcs
        split at h
        · rename_i hb1 hb2
          obtain ⟨us, hu1, hu2⟩ := SV.cells_den hon hcs h1
          have hlu := SV.denL_length cs hu2
          have hlv := SV.denL_length cells hd
          obtain ⟨vs', g1, _, g2⟩ := setS_den cs off cells vs us hd hu2
          obtain ⟨vs'', k1, k2⟩ := sfill_den hon place rest _ cells' vs' vrest h g1 ⟨hp1, h2⟩
          refine ⟨vs'', k1, ?_⟩
          have hsz : cs.length = size := Nat.eq_of_beq_eq_true hb1
          have hle := Nat.le_of_ble_eq_true hb2
          simp only [Instr.fill, hpl, hu1, List.size_toArray, hlu, hsz, ne_eq, not_true_eq_false, decide_false, Bool.false_or]
          rw [if_neg (by simp; omega)]
          have g3 := g2 0 off (by omega)
          rw [← k2, ← g3]
          congr 1
          rw [← Array.foldl_toList]
          simp
        · cases h
      · cases h

def zcells (P : Program) (t : TypeId) : Option (List SV) :=
  match P.info? t with
  | some i => match i.zero with
    | some z => some (z.cells.toList.map cSV)
    | none => none
  | none => none

theorem cSVs_den (ρ : List Value) (I : Nat → Prop) (w : World) : (vs : List Value) → SV.denL ρ I w (vs.map cSV) vs
  | [] => by simp [SV.denL]
  | v :: vs => by simp only [List.map_cons]; unfold SV.denL; exact ⟨v, vs, rfl, cSV_den ρ I w v, cSVs_den ρ I w vs⟩

theorem zcells_run {t : TypeId} {cs : List SV} (h : zcells P t = some cs) : ∃ z, (∀ w', (zeroValue t).run P w' = .ok z w') ∧ cs = z.cells.toList.map cSV := by
  unfold zcells at h
  split at h
  · rename_i i hi
    split at h
    · rename_i z hz
      cases h
      exact ⟨z, fun w' => by simp [zeroValue, typeInfo, hi, hz], rfl⟩
    · cases h
  · cases h

def placesOf (P : Program) (fs : Array Field) : Option (List (Nat × Nat)) := fs.toList.mapM fun f => (P.info? f.type).map fun i => (f.offset, i.size)

def sbuild (P : Program) (t : TypeId) (parts : List (Nat × SV)) (k : SV → Prop) : Prop :=
  match zcells P t with
  | some z => match P.underlying t with
    | some (.struct fs) => match placesOf P fs with
      | some pl => match sfill (pl[·]?) z parts with
        | some cs => k (.agg cs)
        | none => False
      | none => False
    | some (.array _ e) => match P.info? e with
      | some inf => match sfill (fun i => some (i * inf.size, inf.size)) z parts with
        | some cs => k (.agg cs)
        | none => False
      | none => False
    | _ => False
  | none => False

theorem run_places (fs : List Field) (pl : List (Nat × Nat)) (h : fs.mapM (fun f => (P.info? f.type).map fun i => (f.offset, i.size)) = some pl) (w' : World) :
    (fs.mapM (fun f => (do pure (f.offset, ← sizeOf f.type) : Sem (Nat × Nat)))).run P w' = .ok pl w' := by
  induction fs generalizing pl with
  | nil => simp at h; subst h; rfl
  | cons f fs ih =>
    simp only [List.mapM_cons, Option.bind_eq_bind, Option.bind_eq_some_iff, Option.map_eq_some_iff] at h
    obtain ⟨a, ⟨i, hi, rfl⟩, rest, hr, h⟩ := h
    cases h
    simp only [List.mapM_cons, Sem.run_bind, run_sizeOf' hi, Result.andThen_ok, Sem.run_pure, ih rest hr]

theorem sbuild_sound (hon : ∀ (i : Nat) v, ρ[i]? = some v → v.oneCell' = true) {t : TypeId} {parts : List (Nat × SV)} {vparts : List (Nat × Value)} {k : SV → Prop} (h1 : vparts.map (·.1) = parts.map (·.1))
    (h2 : SV.denL ρ I w (parts.map (·.2)) (vparts.map (·.2))) (h : sbuild P t parts k) :
    ∃ v' s, SV.den ρ I w s v' ∧ k s ∧ ∀ w', (Instr.build t vparts.toArray).run P w' = .ok v' w' := by
  unfold sbuild at h
  split at h
  · rename_i zc hz
    obtain ⟨z, hzr, rfl⟩ := zcells_run hz
    have hzd := cSVs_den ρ I w z.cells.toList
    split at h
    · rename_i fs hu
      split at h
      · rename_i pl hpl
        split at h
        · rename_i cs hf
          obtain ⟨vs', g1, g2⟩ := sfill_den (ρ := ρ) (I := I) (w := w) hon _ parts _ cs _ vparts hf hzd ⟨h1, h2⟩
          refine ⟨.agg vs'.toArray, _, by unfold SV.den; exact ⟨vs', rfl, g1⟩, h, fun w' => ?_⟩
          have hr := run_places (P := P) fs.toList pl hpl w'
          have hm : (fs.mapM (fun f => (do pure (f.offset, ← sizeOf f.type) : Sem (Nat × Nat)))).run P w' = .ok pl.toArray w' := by
            rw [Array.mapM_eq_mapM_toList]
            simp only [Sem.run_map, hr, Result.andThen_ok]
          have hfun : (fun x => pl.toArray[x]? : Nat → Option (Nat × Nat)) = (fun x => pl[x]?) := by funext x; simp
          simp only [Instr.build, Sem.run_bind, hzr, Result.andThen_ok, run_underlying hu, hm, hfun]
          rw [show z.cells = z.cells.toList.toArray by simp, g2]
          rfl
        · exact h.elim
      · exact h.elim
    · rename_i n e hu
      split at h
      · rename_i inf hi
        split at h
        · rename_i cs hf
          obtain ⟨vs', g1, g2⟩ := sfill_den (ρ := ρ) (I := I) (w := w) hon _ parts _ cs _ vparts hf hzd ⟨h1, h2⟩
          refine ⟨.agg vs'.toArray, _, by unfold SV.den; exact ⟨vs', rfl, g1⟩, h, fun w' => ?_⟩
          simp only [Instr.build, Sem.run_bind, hzr, Result.andThen_ok, run_underlying hu, run_sizeOf' hi]
          rw [show z.cells = z.cells.toList.toArray by simp, g2]
          rfl
        · exact h.elim
      · exact h.elim
    · exact h.elim
  · exact h.elim

def slen (P : Program) (S : St) (t : TypeId) (x : SV) (k : SV → Prop) : Prop :=
  match P.underlying t, x with
  | some .string, .str s => s.size ≤ maxLen → k (.int .i64 s.size)
  | some (.slice _), .rs ty xs => xs.length ≤ maxLen → k (.int .i64 xs.length)
  | some (.slice _), .row i => match S.res[i]? with
    | some (.row _ _ xs) => xs.length ≤ maxLen → k (.int .i64 xs.length)
    | _ => False
  | some (.slice _), .hd _ h => h.len ≤ maxLen → k (.int .i64 h.len)
  | some (.slice _), .val (.slice none 0 0) => k (.int .i64 0)
  | some (.array n _), _ => k (.int .i64 n)
  | some (.slice _), .ev => k (.int .i64 0)
  | _, _ => False

theorem ownsRow_len {e : TypeId} {size n : Nat} {v : Value} {xs : List Value} (h : w.ownsRow 0 e size v n xs) : ∃ A c, v = .slice A n c ∧ n ≤ c ∧ c ≤ maxLen := by
  rcases h.2 with ⟨e1, rfl⟩ | ⟨g, cap, cur, hv, hg, hh, h1, h2, _⟩
  · exact ⟨none, 0, e1, Nat.le_refl _, by decide⟩
  · exact ⟨_, cap, hv, h1, h2⟩

theorem slen_sound (hM : Mem cx S.res ρ I F w) {t : TypeId} {x : SV} {v : Value} {k : SV → Prop} (hx : SV.den ρ I w x v) (h : slen P S t x k) :
    ∃ v' s, SV.den ρ I w s v' ∧ k s ∧ ∀ w' ty, (Builtin.len_ #[t] ty #[v]).run P w' = .ok v' w' := by
  unfold slen at h
  split at h
  · rename_i s hu
    unfold SV.den at hx
    obtain ⟨rfl, hs⟩ := hx
    exact ⟨_, _, by unfold SV.den; rfl, h hs, fun w' ty => by simp [Builtin.len_, run_underlying hu, goInt]⟩
  · rename_i e ty xs hu
    unfold SV.den at hx
    obtain ⟨A, c, he, hlc, hcm, hel⟩ := hx
    simp only [List.cons.injEq, and_true] at he
    subst he
    exact ⟨_, _, by unfold SV.den; rfl, h (Nat.le_trans hlc hcm), fun w' ty => by simp [Builtin.len_, run_underlying hu, goInt]⟩
  · rename_i e i hu
    split at h
    · rename_i e' ty xs hr
      obtain ⟨v', cells, h1, h2, _⟩ := hM.holds _ _ hr
      unfold SV.den at hx
      rw [hx.1] at h1
      cases h1
      obtain ⟨A, c, rfl, hlc, hcm⟩ := ownsRow_len h2
      exact ⟨_, _, by unfold SV.den; rfl, h (Nat.le_trans hlc hcm), fun w' ty => by simp [Builtin.len_, run_underlying hu, goInt]⟩
    · exact h.elim
  · rename_i e e' hh hu
    unfold SV.den at hx
    obtain ⟨rfl, hok⟩ := hx
    exact ⟨_, _, by unfold SV.den; rfl, h (Nat.le_trans hok.1 hok.2.1), fun w' ty => by simp [Builtin.len_, run_underlying hu, goInt, hdV]⟩
  · rename_i e hu
    unfold SV.den at hx
    obtain rfl := hx
    exact ⟨_, _, by unfold SV.den; rfl, h, fun w' ty => by simp [Builtin.len_, run_underlying hu, goInt]⟩
  · rename_i n e hu
    exact ⟨_, _, by unfold SV.den; rfl, h, fun w' ty => by simp [Builtin.len_, run_underlying hu, goInt]⟩
  · rename_i e hu
    unfold SV.den at hx
    obtain ⟨A, rfl⟩ := hx
    exact ⟨_, _, by unfold SV.den; rfl, h, fun w' ty => by simp [Builtin.len_, run_underlying hu, goInt]⟩
  · exact h.elim

/-- A map's length, too. -/
def slenM (P : Program) (S : St) (t : TypeId) (x : SV) (k : SV → Prop) : Prop :=
  match x with
  | .mp i => match P.underlying t, S.res[i]? with
    | some (.map _ _), some (.mapr _ _ _ es _) => k (.int .i64 es.length)
    | _, _ => False
  | x => slen P S t x k

theorem EntsOk.len {kk : IntKind} {ag : Bool} {vt : Ty} : {ents : List MapEntry} → {es : List (Int × vt.den)} → EntsOk I w kk ag vt ents es → ents.length = es.length
  | [], _, h => by simp only [EntsOk] at h; rw [h]; rfl
  | _ :: _, _, h => by
    obtain ⟨x, es', rfl, _, _, h⟩ := h
    simp [h.len]

theorem slenM_sound (hM : Mem cx S.res ρ I F w) {t : TypeId} {x : SV} {v : Value} {k : SV → Prop} (hx : SV.den ρ I w x v) (h : slenM P S t x k) :
    ∃ v' s, SV.den ρ I w s v' ∧ k s ∧ ∀ w' ty, Same w w' → (Builtin.len_ #[t] ty #[v]).run P w' = .ok v' w' := by
  unfold slenM at h
  split at h
  · rename_i i
    split at h
    · rename_i kt et kk ag vt es it hu hr
      unfold SV.den at hx
      obtain ⟨b, hb, rfl⟩ := hx
      obtain ⟨b', ents, clock, ro, g1, g2, _, _⟩ := hM.holds _ _ hr
      rw [hb] at g1
      cases g1
      refine ⟨.int .i64 es.length, _, by unfold SV.den; rfl, h, fun w' ty hw => ?_⟩
      have h1 : w'.heap[b]? = some (.map ents.toArray clock) := (hw b (Array.getElem?_eq_some_iff.1 g2.heap).1).trans g2.heap
      simp [Builtin.len_, run_underlying hu, getObj_map h1, goInt, g2.rd.len]
    · exact h.elim
  · obtain ⟨v', s, h1, h2, h3⟩ := slen_sound hM hx h
    exact ⟨v', s, h1, h2, fun w' ty _ => h3 w' ty⟩

/-- The greatest, or the least, of some numbers. -/
def sfold (f : Int → Int → Int) (kk : IntKind) (acc : Int) (k : SV → Prop) : List SV → Prop
  | [] => k (.int kk acc)
  | .int _ y :: rest => sfold f kk (f acc y) k rest
  | _ :: _ => False

def maxI (x y : Int) : Int := if y > x then y else x
def minI (x y : Int) : Int := if y < x then y else x

theorem sfold_max_sound {kk : IntKind} {k : SV → Prop} : ∀ (l : List SV) (vs : List Value) (acc : Int), SV.denL ρ I w l vs → sfold maxI kk acc k l →
    ∃ v' s, SV.den ρ I w s v' ∧ k s ∧ ∀ w', (vs.foldlM Builtin.max2 (.int kk acc)).run P w' = .ok v' w'
  | [], vs, acc, hd, h => by
    unfold SV.denL at hd; subst hd
    exact ⟨_, _, by unfold SV.den; rfl, h, fun w' => by simp⟩
  | s :: l, vs, acc, hd, h => by
    unfold SV.denL at hd
    obtain ⟨v, vs', rfl, h1, h2⟩ := hd
    cases s <;> simp only [sfold] at h <;> try exact h.elim
    rename_i k2 y
    unfold SV.den at h1
    subst h1
    obtain ⟨v', s', g1, g2, g3⟩ := sfold_max_sound l vs' (maxI acc y) h2 h
    exact ⟨v', s', g1, g2, fun w' => by simp only [List.foldlM_cons, Sem.run_bind, Builtin.max2, Sem.run_pure, Result.andThen_ok]; exact g3 w'⟩

theorem sfold_min_sound {kk : IntKind} {k : SV → Prop} : ∀ (l : List SV) (vs : List Value) (acc : Int), SV.denL ρ I w l vs → sfold minI kk acc k l →
    ∃ v' s, SV.den ρ I w s v' ∧ k s ∧ ∀ w', (vs.foldlM Builtin.min2 (.int kk acc)).run P w' = .ok v' w'
  | [], vs, acc, hd, h => by
    unfold SV.denL at hd; subst hd
    exact ⟨_, _, by unfold SV.den; rfl, h, fun w' => by simp⟩
  | s :: l, vs, acc, hd, h => by
    unfold SV.denL at hd
    obtain ⟨v, vs', rfl, h1, h2⟩ := hd
    cases s <;> simp only [sfold] at h <;> try exact h.elim
    rename_i k2 y
    unfold SV.den at h1
    subst h1
    obtain ⟨v', s', g1, g2, g3⟩ := sfold_min_sound l vs' (minI acc y) h2 h
    exact ⟨v', s', g1, g2, fun w' => by simp only [List.foldlM_cons, Sem.run_bind, Builtin.min2, Sem.run_pure, Result.andThen_ok]; exact g3 w'⟩

def smaxmin (f : Int → Int → Int) (k : SV → Prop) : List SV → Prop
  | .int kk x :: rest => sfold f kk x k rest
  | _ => False

/-- A part of a slice, of an own row too. -/
def ssliceS (P : Program) (S : St) (t : TypeId) (x : SV) (lo hi : Option SV) (k : SV → Prop) : Prop :=
  match x with
  | .row i => match S.res[i]?, oint lo, oint hi, P.underlying t with
    | some (.row _ ty xs), some l, some h, some (.slice e) => match P.info? e with
      | some inf => match Nat.beq inf.size ty.sz with
        | true => (0 ≤ h.getD xs.length ∧ h.getD xs.length ≤ xs.length ∧ 0 ≤ l.getD 0 ∧ l.getD 0 ≤ h.getD xs.length) ∧ k (.win i (l.getD 0).toNat (h.getD xs.length).toNat ty.sz)
        | false => False
      | none => False
    | _, _, _, _ => False
  | x => sslice P t x lo hi k

theorem ssliceS_sound (hM : Mem cx S.res ρ I F w) {t : TypeId} {x : SV} {v : Value} {lo hi : Option SV} {vl vh : Option Value} {k : SV → Prop} (hx : SV.den ρ I w x v)
    (hlo : ODen ρ I w lo vl) (hhi : ODen ρ I w hi vh) (h : ssliceS P S t x lo hi k) :
    ∃ v' s, SV.den ρ I w s v' ∧ k s ∧ ∀ w', (Instr.sliceAt t v vl vh none).run P w' = .ok v' w' := by
  unfold ssliceS at h
  split at h
  · rename_i i
    split at h
    · rename_i e ty xs l hb e1 hr e2 e3 hu
      split at h
      · rename_i inf hi
        split at h
        · rename_i hsz
          have hsz' : inf.size = ty.sz := Nat.eq_of_beq_eq_true hsz
          have hl := oint_den e2 hlo
          have hh := oint_den e3 hhi
          obtain ⟨⟨g0, g1, g2, g3⟩, hk⟩ := h
          obtain ⟨v0, cells, h1, h2, h3, _⟩ := hM.holds _ _ hr
          unfold SV.den at hx
          rw [hx.1] at h1
          cases h1
          obtain ⟨A, c, rfl, hlc, hcm⟩ := ownsRow_len h2
          refine ⟨.slice (if c = (l.getD 0).toNat then A else A.map (·.add ((l.getD 0).toNat * inf.size))) ((hb.getD xs.length).toNat - (l.getD 0).toNat) (c - (l.getD 0).toNat), _, ?_, hk, fun w' => ?_⟩
          · unfold SV.den
            exact ⟨A, xs.length, c, hx.1, hlc, hcm, by omega, by omega, by rw [hsz']⟩
          · have hb' := run_sliceBounds (P := P) true xs.length c hlc hl hh g0 g1 g2 g3 w'
            simp [Instr.sliceAt, run_underlying hu, Instr.slice, hb', run_sizeOf' hi]
        · exact h.elim
      · exact h.elim
    · exact h.elim
  · exact sslice_sound hx hlo hhi h

theorem gx_equal_nil (w : World) (t e : TypeId) (a : Option Addr) (l c : Nat) (h : P.underlying t = some (.slice e)) : (Op.equal t (.slice a l c) (.slice none 0 0)).run P w = .ok a.isNone w := by
  have : ∀ d, (Op.equalIn (d + 1) t (.slice a l c) (.slice none 0 0)).run P w = .ok a.isNone w := fun d => by
    cases a <;> simp [Op.equalIn, run_underlying h]
  exact this 9999
theorem gx_eql_nil (w : World) (t e : TypeId) (a : Option Addr) (l c : Nat) (h : P.underlying t = some (.slice e)) : (binOp .eql t (.slice a l c) (.slice none 0 0)).run P w = .ok (.bool a.isNone) w := by
  simp [binOp, gx_equal_nil w t e a l c h]
theorem gx_neq_nil (w : World) (t e : TypeId) (a : Option Addr) (l c : Nat) (h : P.underlying t = some (.slice e)) : (binOp .neq t (.slice a l c) (.slice none 0 0)).run P w = .ok (.bool (!a.isNone)) w := by
  simp [binOp, gx_equal_nil w t e a l c h]

/-- A slice is asked whether it is nil. -/
def sbinN (P : Program) (S : St) (op : BinOp) (t : TypeId) (x y : SV) (k : SV → Prop) : Prop :=
  match x, y with
  | .rs ty xs, .val (.slice none 0 0) => match P.underlying t, op with
    | some (.slice _), .eql => ∀ b : Bool, (b = true → xs = []) → k (.bool b)
    | some (.slice _), .neq => ∀ b : Bool, (b = false → xs = []) → k (.bool b)
    | _, _ => False
  | .row i, .val (.slice none 0 0) => match S.res[i]?, P.underlying t, op with
    | some (.row _ ty xs), some (.slice _), .eql => ∀ b : Bool, (b = true → xs = []) → k (.bool b)
    | some (.row _ ty xs), some (.slice _), .neq => ∀ b : Bool, (b = false → xs = []) → k (.bool b)
    | _, _, _ => False
  | x, y => sbin P op t x y k

theorem eqGuard_slice {op : BinOp} {t : TypeId} {x y : Operand} {A : Option Addr} {n c : Nat} {u : Value} (w' : World) : (eqGuard op t x y (.slice A n c) u).run P w' = .ok () w' := by
  cases op <;> rfl

theorem sbinN_sound (hM : Mem cx S.res ρ I F w) {op : BinOp} {t : TypeId} {x y : SV} {ox oy : Operand} {v u : Value} {k : SV → Prop} (hx : SV.den ρ I w x v) (hy : SV.den ρ I w y u) (h : sbinN P S op t x y k) :
    ∃ v' s, SV.den ρ I w s v' ∧ k s ∧ ∀ w', (do eqGuard op t ox oy v u; binOp op t v u : Sem Value).run P w' = .ok v' w' := by
  have key : ∀ (A : Option Addr) (n c : Nat) (l : Nat), (A = none → l = 0) → (∃ e, P.underlying t = some (.slice e)) →
      (op = .eql → (∀ b : Bool, (b = true → l = 0) → k (.bool b)) → ∃ v' s, SV.den ρ I w s v' ∧ k s ∧ ∀ w', (do eqGuard op t ox oy (.slice A n c) (.slice none 0 0); binOp op t (.slice A n c) (.slice none 0 0) : Sem Value).run P w' = .ok v' w') ∧
      (op = .neq → (∀ b : Bool, (b = false → l = 0) → k (.bool b)) → ∃ v' s, SV.den ρ I w s v' ∧ k s ∧ ∀ w', (do eqGuard op t ox oy (.slice A n c) (.slice none 0 0); binOp op t (.slice A n c) (.slice none 0 0) : Sem Value).run P w' = .ok v' w') := by
    rintro A n c l hl ⟨e, he⟩
    refine ⟨?_, ?_⟩
    · rintro rfl hk
      refine ⟨.bool A.isNone, _, by unfold SV.den; rfl, hk A.isNone (fun h => hl (by simpa using h)), fun w' => ?_⟩
      rw [Sem.run_bind, eqGuard_slice, Result.andThen_ok]
      exact gx_eql_nil w' t e A n c he
    · rintro rfl hk
      refine ⟨.bool (!A.isNone), _, by unfold SV.den; rfl, hk (!A.isNone) (fun h => hl (by simpa using h)), fun w' => ?_⟩
      rw [Sem.run_bind, eqGuard_slice, Result.andThen_ok]
      exact gx_neq_nil w' t e A n c he
  have hnil : ∀ {ty : Ty} {xs : List ty.den}, xs.length = 0 → xs = [] := fun h => List.eq_nil_of_length_eq_zero h
  unfold sbinN at h
  split at h
  · rename_i ty xs
    unfold SV.den at hx hy
    subst hy
    obtain ⟨A, c, e, h1, h2, h3⟩ := hx
    simp only [List.cons.injEq, and_true] at e
    subst e
    have hl : A = none → xs.length = 0 := fun hA => by
      rcases Nat.eq_zero_or_pos xs.length with h0 | h0
      · exact h0
      · obtain ⟨ad, _, ha, _⟩ := h3 0 xs[0] (by simp [h0])
        rw [hA] at ha; cases ha
    split at h
    · rename_i e hT
      exact (key A _ c _ hl ⟨e, hT⟩).1 rfl (fun b hb => h b (fun hbt => hnil (hb hbt)))
    · rename_i e hT
      exact (key A _ c _ hl ⟨e, hT⟩).2 rfl (fun b hb => h b (fun hbt => hnil (hb hbt)))
    · exact h.elim
  · rename_i i
    split at h
    · rename_i e' ty xs e hr hT
      unfold SV.den at hx hy
      subst hy
      obtain ⟨v', cells, h1, ⟨h2, h3⟩, _⟩ := hM.holds _ _ hr
      rw [hx.1] at h1
      cases h1
      rcases h3 with ⟨rfl, h0⟩ | ⟨g, cap, cur, rfl, _⟩
      · exact (key none _ _ _ (fun _ => h0) ⟨_, hT⟩).1 rfl (fun b hb => h b (fun hbt => hnil (hb hbt)))
      · exact (key (some _) _ _ _ (fun h => by cases h) ⟨_, hT⟩).1 rfl (fun b hb => h b (fun hbt => hnil (hb hbt)))
    · rename_i e' ty xs e hr hT
      unfold SV.den at hx hy
      subst hy
      obtain ⟨v', cells, h1, ⟨h2, h3⟩, _⟩ := hM.holds _ _ hr
      rw [hx.1] at h1
      cases h1
      rcases h3 with ⟨rfl, h0⟩ | ⟨g, cap, cur, rfl, _⟩
      · exact (key none _ _ _ (fun _ => h0) ⟨_, hT⟩).2 rfl (fun b hb => h b (fun hbt => hnil (hb hbt)))
      · exact (key (some _) _ _ _ (fun h => by cases h) ⟨_, hT⟩).2 rfl (fun b hb => h b (fun hbt => hnil (hb hbt)))
    · exact h.elim
  · exact sbin_sound hx hy h

/-! ### Bytes as a string -/
def bytesTo (P : Program) (src dst : TypeId) : Bool :=
  match P.underlying src with
  | some (.slice e) => match P.underlying e, P.underlying dst with
    | some (.int .u8), some .string => true
    | _, _ => false
  | _ => false

def sconvS (P : Program) (S : St) (src dst : TypeId) (x : SV) (k : SV → Prop) : Prop :=
  match x with
  | .rs (.int .u8) xs => match bytesTo P src dst with
    | true => k (.str (strOfNums xs))
    | false => False
  | .row i => match S.res[i]? with
    | some (.row _ (.int .u8) xs) => match bytesTo P src dst with
      | true => k (.str (strOfNums xs))
      | false => False
    | _ => False
  | x => sconv P src dst x k

theorem bytesTo_run {src dst : TypeId} (h : bytesTo P src dst = true) {xs : List Int} {A : Option Addr} {c : Nat} (hA : ∀ ad, A = some ad → ∀ (j : Nat) n, xs[j]? = some n → w.cell? (ad.add j) = some (.int .u8 n)) (hn : A = none → xs = []) :
    (convert src dst (.slice A xs.length c)).run P w = .ok (.string (strOfNums xs)) w := by
  unfold bytesTo at h
  split at h <;> try cases h
  rename_i e hs
  split at h <;> cases h
  rename_i he hd
  rw [run_convert_bytes_string w src dst e _ _ _ hs he hd]
  cases A with
  | none =>
    rw [hn rfl]
    simp [Conv.bytesToString]
    rfl
  | some ad =>
    have hl := run_loadCells_list (P := P) w ad (xs.map (Value.int .u8)) (fun j v hj => by
      rw [List.getElem?_map] at hj
      cases hx : xs[j]? with
      | none => rw [hx] at hj; cases hj
      | some n => rw [hx] at hj; simp only [Option.map_some, Option.some.injEq] at hj; subst hj; exact hA ad rfl j n hx)
    rw [List.length_map] at hl
    rw [run_bytesToString w ad _ _ xs hl, foldl_push_bytes]
    simp [strOfNums, ByteArray.empty, ByteArray.emptyWithCapacity]
    rfl

theorem sconvS_sound (hM : Mem cx S.res ρ I F w) {src dst : TypeId} {x : SV} {v : Value} {k : SV → Prop} (hx : SV.den ρ I w x v) (h : sconvS P S src dst x k) :
    ∃ v' s, SV.den ρ I w s v' ∧ k s ∧ ∀ w', Same w w' → (convert src dst v).run P w' = .ok v' w' := by
  unfold sconvS at h
  split at h
  · rename_i xs
    split at h
    · rename_i hb
      unfold SV.den at hx
      obtain ⟨A, c, e, hlc, hcm, hel⟩ := hx
      cases e
      refine ⟨.string (strOfNums xs), _, by unfold SV.den; exact ⟨rfl, by rw [strOfNums_size]; omega⟩, h, fun w' hw => ?_⟩
      refine bytesTo_run hb (fun ad hA j n hn => ?_) (fun hA => ?_)
      · obtain ⟨ad', cells, e1, hi, hr, hc⟩ := hel j n hn
        rw [hA] at e1; cases e1
        have hr' : cells = [.int .u8 n] := hr
        subst hr'
        have := hc 0 (.int .u8 n) rfl
        simp only [Ty.sz, Nat.mul_one, Nat.add_zero] at this
        exact hw.cell this
      · cases xs with
        | nil => rfl
        | cons n xs => obtain ⟨ad', _, e1, _⟩ := hel 0 n rfl; rw [hA] at e1; cases e1
    · exact h.elim
  · rename_i i
    split at h
    · rename_i e xs hr
      split at h
      · rename_i hb
        unfold SV.den at hx
        obtain ⟨v', cells, h1, h2, h3, h4⟩ := hM.holds i _ hr
        rw [hx.1] at h1
        cases h1
        obtain ⟨A, c, rfl, hlc, hcm⟩ := ownsRow_len h2
        refine ⟨.string (strOfNums xs), _, by unfold SV.den; exact ⟨rfl, by rw [strOfNums_size]; exact Nat.le_trans hlc hcm⟩, h, fun w' hw => ?_⟩
        have hcells : ∀ (j : Nat) n, xs[j]? = some n → cells[j]? = some (.int .u8 n) := by
          intro j n hn
          obtain ⟨cs, g1, g2⟩ := RdL.get (.int .u8) xs h3 j n hn
          have g1' : cs = [.int .u8 n] := g1
          subst g1'
          have := g2 0 (.int .u8 n) rfl
          simpa [Ty.sz] using this
        refine bytesTo_run hb (fun ad hA j n hn => ?_) (fun hA => ?_)
        · rcases h2.2 with ⟨e1, e2⟩ | ⟨g, cap, cur, hv', _, hh, hnc, hcm', hcs, htk⟩
          · rw [List.eq_nil_of_length_eq_zero e2] at hn; simp at hn
          · simp only [Value.slice.injEq, true_and] at hv'
            obtain ⟨hv', _⟩ := hv'
            rw [hA] at hv'; cases hv'
            have hk := hcells j n hn
            rw [← htk, List.getElem?_take] at hk
            split at hk
            · refine hw.cell ?_
              rw [plain_add, cell_of_row w g _ _ _ _ hh]
              simpa using hk
            · cases hk
        · rcases h2.2 with ⟨e1, e2⟩ | ⟨g, cap, cur, hv', _⟩
          · exact List.eq_nil_of_length_eq_zero e2
          · simp only [Value.slice.injEq] at hv'
            rw [hA] at hv'; cases hv'.1
      · exact h.elim
    · exact h.elim
  · obtain ⟨v', s, h1, h2, h3⟩ := sconv_sound hx h
    exact ⟨v', s, h1, h2, fun w' _ => h3 w'⟩

def spure (P : Program) (S : St) (o : Oper) (k : SV → Prop) : Prop :=
  match o.op with
  | .move x => k (S.fr.ev x)
  | .assign x => k (S.fr.ev x)
  | .pick c a b => spick (S.fr.ev c) (S.fr.ev a) (S.fr.ev b) k
  | .load t x => sload P S t (S.fr.ev x) k
  | .nilCheck x => snil (S.fr.ev x) k
  | .fieldAddr t x f => sfieldAddr P t (S.fr.ev x) f k
  | .field t x f => sfield P t (S.fr.ev x) f k
  | .indexAddr t x i => sindexAddr P S t (S.fr.ev x) (S.fr.ev i) k
  | .index t x i => sindex P t (S.fr.ev x) (S.fr.ev i) k
  | .binOp op t x y _ => sbinN P S op t (S.fr.ev x) (S.fr.ev y) k
  | .unOp op _ x => sun op (S.fr.ev x) k
  | .convert s d x => sconvS P S s d (S.fr.ev x) k
  | .makeFunc (.func f) first caps => match first.toList with
    | [] => k (.fn f (caps.toList.map S.fr.ev))
    | _ => False
  | .slice t x lo hi none => ssliceS P S t (S.fr.ev x) (lo.map S.fr.ev) (hi.map S.fr.ev) k
  | .extract x i => sextract (S.fr.ev x) i k
  | .lookup t x i ok => slookup P S t (S.fr.ev x) (S.fr.ev i) ok k
  | .entry x => sentry S (S.fr.ev x) k
  | .build t parts => sbuild P t (parts.toList.map fun p => (p.1, S.fr.ev p.2)) k
  | .call c => match c.callee, c.args.toList, c.argTypes.toList with
    | .builtin .len, [x], [t] => slenM P S t (S.fr.ev x) k
    | .builtin .max, xs, _ => smaxmin maxI k (xs.map S.fr.ev)
    | .builtin .min, xs, _ => smaxmin minI k (xs.map S.fr.ev)
    | _, _, _ => False
  | _ => False

def valued (s : Sem Value) : Sem Next := do pure (.value (← s))

theorem run_valued {s : Sem Value} {v : Value} {w' : World} (h : s.run P w' = .ok v w') : (valued s).run P w' = .ok (.value v) w' := by
  simp only [valued, Sem.run_bind, h, Result.andThen_ok, Sem.run_pure]

theorem odn {fr : Fr} {a : Act} (hf : FrOk ρ I w fr a) (o : Option Operand) : ODen ρ I w (o.map fr.ev) (o.map a.eval) := by
  cases o with
  | none => trivial
  | some x => exact Fr.ev_den hf x

theorem spure_sound (hM : Mem cx S.res ρ I F w) {a : Act} (hf : FrOk ρ I w S.fr a) {o : Oper} {k : SV → Prop} (h : spure P S o k) :
    ∃ v s, SV.den ρ I w s v ∧ k s ∧ ∀ w', Same w w' → (execOp a.eval o).run P w' = .ok (.value v) w' := by
  have E : ∀ x, SV.den ρ I w (S.fr.ev x) (a.eval x) := fun x => Fr.ev_den hf x
  unfold spure at h
  split at h
  · rename_i x ho
    exact ⟨_, _, E x, h, fun w' _ => by simp only [execOp, ho, Sem.run_pure]⟩
  · rename_i x ho
    exact ⟨_, _, E x, h, fun w' _ => by simp only [execOp, ho, Sem.run_pure]⟩
  · rename_i c x y ho
    unfold spick at h
    split at h
    · rename_i hc
      have := E c; rw [hc] at this; unfold SV.den at this
      exact ⟨_, _, E x, h, fun w' _ => by simp [execOp, ho, this, asBool]⟩
    · rename_i hc
      have := E c; rw [hc] at this; unfold SV.den at this
      exact ⟨_, _, E y, h, fun w' _ => by simp [execOp, ho, this, asBool]⟩
    · rename_i b hc
      have := E c; rw [hc] at this; unfold SV.den at this
      cases b with
      | true => exact ⟨_, _, E x, h.1 rfl, fun w' _ => by simp [execOp, ho, this, asBool]⟩
      | false => exact ⟨_, _, E y, h.2 rfl, fun w' _ => by simp [execOp, ho, this, asBool]⟩
    · exact h.elim
  · rename_i t x ho
    obtain ⟨v, s, h1, h2, h3⟩ := sload_sound hM (E x) h
    exact ⟨v, s, h1, h2, fun w' hw => by simp only [execOp, ho]; exact run_valued (h3 w' hw)⟩
  · rename_i x ho
    unfold snil at h
    split at h
    · rename_i hc
      have hx := E x; rw [hc] at hx
      have hx' := hx
      unfold SV.den at hx'
      obtain ⟨b, _, e⟩ := hx'
      exact ⟨_, _, hx, h, fun w' _ => by simp [execOp, ho, e]⟩
    · rename_i hc
      have hx := E x; rw [hc] at hx
      have hx' := hx
      unfold SV.den at hx'
      obtain ⟨ad, cells, e, _⟩ := hx'
      exact ⟨_, _, hx, h, fun w' _ => by simp [execOp, ho, e]⟩
    · rename_i hc
      have hx := E x; rw [hc] at hx
      have hx' := hx
      unfold SV.den at hx'
      obtain ⟨vs, e, _⟩ := hx'
      exact ⟨_, _, hx, h, fun w' _ => by simp [execOp, ho, e]⟩
    · rename_i hc
      have hx := E x; rw [hc] at hx
      have hx' := hx
      unfold SV.den at hx'
      obtain ⟨g, n, c, _, e⟩ := hx'
      exact ⟨_, _, hx, h, fun w' _ => by simp [execOp, ho, e]⟩
    · rename_i hc
      have hx := E x; rw [hc] at hx
      have hx' := hx
      unfold SV.den at hx'
      exact ⟨_, _, hx, h, fun w' _ => by simp [execOp, ho, hx']⟩
    · rename_i T y hc
      have hx := E x; rw [hc] at hx
      have hx' := hx
      unfold SV.den at hx'
      obtain ⟨hs, h⟩ := h
      obtain ⟨b, rfl⟩ := Option.isSome_iff_exists.1 hs
      exact ⟨_, _, hx, h, fun w' _ => by simp [execOp, ho, hx', padr]⟩
    · rename_i hc
      have hx := E x; rw [hc] at hx
      have hx' := hx
      unfold SV.den at hx'
      exact ⟨_, _, hx, h, fun w' _ => by simp [execOp, ho, hx']⟩
    · exact h.elim
  · rename_i t x f ho
    obtain ⟨v, s, h1, h2, h3⟩ := sfieldAddr_sound (E x) h
    exact ⟨v, s, h1, h2, fun w' hw => by simp only [execOp, ho]; exact run_valued (h3 w')⟩
  · rename_i t x f ho
    obtain ⟨v, s, h1, h2, h3⟩ := sfield_sound (E x) h
    exact ⟨v, s, h1, h2, fun w' hw => by simp only [execOp, ho]; exact run_valued (h3 w')⟩
  · rename_i t x i ho
    obtain ⟨v, s, h1, h2, h3⟩ := sindexAddr_sound hM (E x) (E i) h
    exact ⟨v, s, h1, h2, fun w' hw => by simp only [execOp, ho]; exact run_valued (h3 w')⟩
  · rename_i t x i ho
    obtain ⟨v, s, h1, h2, h3⟩ := sindex_sound (E x) (E i) h
    exact ⟨v, s, h1, h2, fun w' hw => by simp only [execOp, ho]; exact run_valued (h3 w')⟩
  · rename_i op t x y _ ho
    obtain ⟨v, s, h1, h2, h3⟩ := sbinN_sound hM (ox := x) (oy := y) (E x) (E y) h
    exact ⟨v, s, h1, h2, fun w' hw => by simp only [execOp, ho]; exact run_valued (h3 w')⟩
  · rename_i op t x ho
    obtain ⟨v, s, h1, h2, h3⟩ := sun_sound (E x) h
    exact ⟨v, s, h1, h2, fun w' hw => by simp only [execOp, ho]; exact run_valued (h3 w')⟩
  · rename_i s d x ho
    obtain ⟨v, s, h1, h2, h3⟩ := sconvS_sound hM (E x) h
    exact ⟨v, s, h1, h2, fun w' hw => by simp only [execOp, ho]; exact run_valued (h3 w' hw)⟩
  · rename_i f first caps ho
    split at h
    · rename_i hf0
      have hfe : first = #[] := by apply Array.ext'; simpa using hf0
      refine ⟨.func (.func f) #[] (caps.map a.eval), _, ?_, h, fun w' hw => ?_⟩
      · unfold SV.den
        exact ⟨caps.toList.map a.eval, by rw [← Array.toList_map], Fr.evs_den hf _⟩
      · subst hfe
        simp only [execOp, ho]
        exact run_valued (by simp [Instr.makeFunc])
    · exact h.elim
  · rename_i t x lo hi ho
    obtain ⟨v, s, h1, h2, h3⟩ := ssliceS_sound hM (E x) (odn hf lo) (odn hf hi) h
    exact ⟨v, s, h1, h2, fun w' hw => by simp only [execOp, ho]; exact run_valued (h3 w')⟩
  · rename_i x i ho
    obtain ⟨v, s, h1, h2, h3⟩ := sextract_sound (E x) h
    exact ⟨v, s, h1, h2, fun w' hw => by simp only [execOp, ho]; exact run_valued (h3 w')⟩
  · rename_i t x i ok ho
    obtain ⟨v, s, h1, h2, h3⟩ := slookup_sound hM (E x) (E i) h
    exact ⟨v, s, h1, h2, fun w' hw => by simp only [execOp, ho]; exact run_valued (h3 w' hw)⟩
  · rename_i x ho
    obtain ⟨v, s, h1, h2, h3⟩ := sentry_sound hM (E x) h
    exact ⟨v, s, h1, h2, fun w' hw => by simp only [execOp, ho]; exact run_valued (h3 w' hw)⟩
  · rename_i t parts ho
    have hmap : ∀ l : List (Nat × Operand), SV.denL ρ I w ((l.map fun p => (p.1, S.fr.ev p.2)).map (·.2)) ((l.map fun p => (p.1, a.eval p.2)).map (·.2)) := by
      intro l
      have := Fr.evs_den hf (l.map (·.2))
      simpa [List.map_map, Function.comp_def] using this
    obtain ⟨v, s, h1, h2, h3⟩   := sbuild_sound hM.ones (vparts := parts.toList.map fun p => (p.1, a.eval p.2)) (by simp [List.map_map, Function.comp_def]) (hmap _) h
    refine ⟨v, s, h1, h2, fun w' hw => ?_⟩
    simp only [execOp, ho]
    refine run_valued ?_
    have := h3 w'
    rw [← List.map_toArray] at this
    simpa using this
  · rename_i c ho
    split at h
    · rename_i x t hcal hargs htys
      obtain ⟨v, s, h1, h2, h3⟩ := slenM_sound hM (E x) h
      refine ⟨v, s, h1, h2, fun w' hw => ?_⟩
      have h3 := fun ty => h3 w' ty hw
      have ha : c.args = #[x] := by apply Array.ext'; simpa using hargs
      have ht : c.argTypes = #[t] := by apply Array.ext'; simpa using htys
      simp only [execOp, ho, resolve, hcal, invoke, builtin, Sem.run_bind, Sem.run_pure, Result.andThen_ok, ha, ht, List.map_toArray, List.map_cons, List.map_nil, h3]
    · rename_i hcal
      unfold smaxmin at h
      split at h
      · rename_i kk x rest hl
        have hd := Fr.evs_den hf c.args.toList
        rw [hl] at hd
        unfold SV.denL at hd
        obtain ⟨v0, vs', he, g1, g2⟩ := hd
        unfold SV.den at g1
        subst g1
        obtain ⟨v, s, h1, h2, h3⟩ := sfold_max_sound (P := P) rest vs' x g2 h
        refine ⟨v, s, h1, h2, fun w' hw => ?_⟩
        simp only [execOp, ho, resolve, hcal, invoke, builtin, Sem.run_bind, Sem.run_pure, Result.andThen_ok, Builtin.max_, Array.toList_map, he, h3]
      · exact h.elim
    · rename_i hcal
      unfold smaxmin at h
      split at h
      · rename_i kk x rest hl
        have hd := Fr.evs_den hf c.args.toList
        rw [hl] at hd
        unfold SV.denL at hd
        obtain ⟨v0, vs', he, g1, g2⟩ := hd
        unfold SV.den at g1
        subst g1
        obtain ⟨v, s, h1, h2, h3⟩ := sfold_min_sound (P := P) rest vs' x g2 h
        refine ⟨v, s, h1, h2, fun w' hw => ?_⟩
        simp only [execOp, ho, resolve, hcal, invoke, builtin, Sem.run_bind, Sem.run_pure, Result.andThen_ok, Builtin.min_, Array.toList_map, he, h3]
      · exact h.elim
    · exact h.elim
  · exact h.elim
end
end Go.Proofs.Ytfdcmbaoekjkgaa.Gx
namespace Go.Proofs.Ytfdcmbaoekjkgaa.Gx
open Go.RowKit
set_option linter.unusedSimpArgs false
set_option linter.unusedVariables false

mutual
def SV.sub (i : Nat) (r : SV) : SV → SV
  | .row j => bif j == i then r else .row j
  | .elt j n sz off => bif j == i then .any else .elt j n sz off
  | .win j lo hi sz => bif j == i then .any else .win j lo hi sz
  | .yld j => .yld j
  | .fn f caps => .fn f (SV.subL i r caps)
  | .agg cs => .agg (SV.subL i r cs)
  | .tup cs => .tup (SV.subL i r cs)
  | .any => .any
  | .undef => .undef
  | .int k n => .int k n
  | .bool b => .bool b
  | .lit b => .lit b
  | .str s => .str s
  | .rs t xs => .rs t xs
  | .pto t x off => .pto t x off
  | .ptr j off => .ptr j off
  | .val v => .val v
  | .mp j => .mp j
  | .adr T x => .adr T x
  | .hd e h => .hd e h
  | .fp T b j sz off => .fp T b j sz off
  | .ev => .ev
def SV.subL (i : Nat) (r : SV) : List SV → List SV
  | [] => []
  | s :: ss => SV.sub i r s :: SV.subL i r ss
end

/-- No slice. -/
def NoSl (u : Value) : Prop := ∀ A n c, u ≠ .slice A n c
theorem nsP {a : Option Addr} : NoSl (.pointer a) := fun _ _ _ h => by cases h
theorem nsB {b : Bool} : NoSl (.bool b) := fun _ _ _ h => by cases h
theorem nsM {a : Option Nat} : NoSl (.map a) := fun _ _ _ h => by cases h

section
variable {ρ ρ' : List Value} {I I' : Nat → Prop} {w w' : World} {i : Nat} {r : SV}

mutual
theorem SV.den_sub (hρ : ∀ (j : Nat) v, j ≠ i → ρ[j]? = some v → ρ'[j]? = some v) (hp : ∀ (j : Nat) u, NoSl u → ρ[j]? = some u → ρ'[j]? = some u) (hI : ∀ k, I k → I' k) (hw : ∀ k, I k → w'.heap[k]? = w.heap[k]?)
    (hr : ∀ v, ρ[i]? = some v → SV.den ρ' I' w' r v) : (s : SV) → {v : Value} → SV.den ρ I w s v → SV.den ρ' I' w' (SV.sub i r s) v
  | .any, _, _ => by simp [SV.sub, SV.den]
  | .undef, _, h => by simpa [SV.sub, SV.den] using h
  | .int _ _, _, h => by simpa [SV.sub, SV.den] using h
  | .bool _, _, h => by simpa [SV.sub, SV.den] using h
  | .lit _, _, h => by simpa [SV.sub, SV.den] using h
  | .str _, _, h => by simpa [SV.sub, SV.den] using h
  | .rs t xs, _, h => by simp only [SV.sub]; unfold SV.den at h ⊢; exact Rd.keep hI hw _ h
  | .pto t x off, _, h => by
    simp only [SV.sub]
    unfold SV.den at h ⊢
    obtain ⟨ad, cells, e, hi, hr, hc⟩ := h
    refine ⟨ad, cells, e, hI _ hi, Rd.keep hI hw _ hr, fun j u hj => ?_⟩
    rw [World.cell?_of_block (w := w) (by rw [add_block]; exact hw _ hi)]
    exact hc j u hj
  | .ptr j off, _, h => by
    simp only [SV.sub]
    unfold SV.den at h ⊢
    obtain ⟨b, h1, h2⟩ := h
    exact ⟨b, hp _ _ nsP h1, h2⟩
  | .row j, _, h => by
    unfold SV.den at h
    simp only [SV.sub]
    by_cases e : j = i
    · subst e; simpa using hr _ h.1
    · have e' : (j == i) = false := by simpa using e
      rw [e']; simp only [cond_false]; unfold SV.den; exact ⟨hρ _ _ e h.1, h.2⟩
  | .elt j n sz off, _, h => by
    simp only [SV.sub]
    by_cases e : j = i
    · subst e; simp [SV.den]
    · have e' : (j == i) = false := by simpa using e
      rw [e']; simp only [cond_false]
      unfold SV.den at h ⊢
      obtain ⟨g, n, c, h1, h2⟩ := h
      exact ⟨g, n, c, hρ _ _ e h1, h2⟩
  | .win j lo hi sz, _, h => by
    simp only [SV.sub]
    by_cases e : j = i
    · subst e; simp [SV.den]
    · have e' : (j == i) = false := by simpa using e
      rw [e']; simp only [cond_false]
      unfold SV.den at h ⊢
      obtain ⟨A, n, c, h1, h2⟩ := h
      exact ⟨A, n, c, hρ _ _ e h1, h2⟩
  | .yld j, _, h => by
    simp only [SV.sub]
    unfold SV.den at h ⊢
    obtain ⟨l, h1, h2⟩ := h
    exact ⟨l, hp _ _ nsP h1, h2⟩
  | .fn f caps, _, h => by
    simp only [SV.sub]; unfold SV.den at h ⊢
    obtain ⟨vs, h1, h2⟩ := h
    exact ⟨vs, h1, SV.denL_sub hρ hp hI hw hr caps h2⟩
  | .agg cs, _, h => by
    simp only [SV.sub]; unfold SV.den at h ⊢
    obtain ⟨vs, h1, h2⟩ := h
    exact ⟨vs, h1, SV.denL_sub hρ hp hI hw hr cs h2⟩
  | .tup cs, _, h => by
    simp only [SV.sub]; unfold SV.den at h ⊢
    obtain ⟨vs, h1, h2⟩ := h
    exact ⟨vs, h1, SV.denL_sub hρ hp hI hw hr cs h2⟩
  | .val _, _, h => by simpa [SV.sub, SV.den] using h
  | .adr _ _, _, h => by simpa [SV.sub, SV.den] using h
  | .hd _ _, _, h => by simp only [SV.sub]; unfold SV.den at h ⊢; exact h
  | .fp _ _ _ _ _, _, h => by simp only [SV.sub]; unfold SV.den at h ⊢; exact h
  | .ev, _, h => by simp only [SV.sub]; unfold SV.den at h ⊢; exact h
  | .mp j, _, h => by
    simp only [SV.sub]
    unfold SV.den at h ⊢
    obtain ⟨b, h1, h2⟩ := h
    exact ⟨b, hp _ _ nsM h1, h2⟩
theorem SV.denL_sub (hρ : ∀ (j : Nat) v, j ≠ i → ρ[j]? = some v → ρ'[j]? = some v) (hp : ∀ (j : Nat) u, NoSl u → ρ[j]? = some u → ρ'[j]? = some u) (hI : ∀ k, I k → I' k) (hw : ∀ k, I k → w'.heap[k]? = w.heap[k]?)
    (hr : ∀ v, ρ[i]? = some v → SV.den ρ' I' w' r v) : (ss : List SV) → {vs : List Value} → SV.denL ρ I w ss vs → SV.denL ρ' I' w' (SV.subL i r ss) vs
  | [], _, h => by simpa [SV.subL, SV.denL] using h
  | s :: ss, _, h => by
    simp only [SV.subL]
    unfold SV.denL at h ⊢
    obtain ⟨v, vs', e, h1, h2⟩ := h
    exact ⟨v, vs', e, SV.den_sub hρ hp hI hw hr s h1, SV.denL_sub hρ hp hI hw hr ss h2⟩
end

def subT (i : Nat) (r : SV) (l : List (Nat × SV)) : List (Nat × SV) := l.map fun p => (p.1, SV.sub i r p.2)

theorem getT_sub : (l : List (Nat × SV)) → (t : Nat) → getT (subT i r l) t = SV.sub i r (getT l t)
  | [], _ => by simp [subT, getT, SV.sub]
  | (j, v) :: l, t => by
    have := getT_sub l t
    simp only [subT, List.map_cons, getT] at this ⊢
    by_cases h : (j == t) = true
    · simp [h]
    · have h' : (j == t) = false := by simpa using h
      simp [h', this]

def Fr.sub (i : Nat) (r : SV) (fr : Fr) : Fr := { n := fr.n, tm := subT i r fr.tm, dfr := fr.dfr, cs := fr.cs }


def Res.sub (i : Nat) (r : SV) : Res → Res
  | .blk ty cs => .blk ty (SV.subL i r cs)
  | .ro ty cs => .ro ty (SV.subL i r cs)
  | .loop fr ps st pend => .loop (fr.sub i r) ps st pend
  | .mv j e t xs => bif j == i then .junk else .mv j e t xs
  | x => x

def St.sub (S : St) (i : Nat) (r : SV) : St := { fr := S.fr.sub i r, stk := S.stk.map (Fr.sub i r), res := S.res.map (Res.sub i r) }

theorem DV.noSl {Ds : List Nat} {v : Value} (h : DV Ds v) : NoSl v := by
  rcases h with ⟨D, _, rfl⟩ | rfl
  · exact nsP
  · intro A n c; simp [bunV]
theorem DfrOk.sub (hp : ∀ (j : Nat) u, NoSl u → ρ[j]? = some u → ρ'[j]? = some u) : (l : List Nat) → {ds : List Deferred} → DfrOk ρ l ds → DfrOk ρ' l ds
  | [], _, h => h
  | i :: l, _, h => by
    obtain ⟨D, ds', v, e, h1, h2⟩ := h
    exact ⟨D, ds', v, e, ⟨hp _ _ h1.2.noSl h1.1, h1.2⟩, DfrOk.sub hp l h2⟩

theorem FrOk.sub (hρ : ∀ (j : Nat) v, j ≠ i → ρ[j]? = some v → ρ'[j]? = some v) (hp : ∀ (j : Nat) u, NoSl u → ρ[j]? = some u → ρ'[j]? = some u) (hI : ∀ k, I k → I' k) (hw : ∀ k, I k → w'.heap[k]? = w.heap[k]?)
    (hr : ∀ v, ρ[i]? = some v → SV.den ρ' I' w' r v) {fr : Fr} {a : Act} (h : FrOk ρ I w fr a) : FrOk ρ' I' w' (fr.sub i r) a :=
  ⟨h.1, fun t => by simp only [Fr.sub, getT_sub]; exact SV.den_sub hρ hp hI hw hr _ (h.2.1 t), DfrOk.sub hp _ h.2.2⟩

theorem StkOk.sub (hρ : ∀ (j : Nat) v, j ≠ i → ρ[j]? = some v → ρ'[j]? = some v) (hp : ∀ (j : Nat) u, NoSl u → ρ[j]? = some u → ρ'[j]? = some u) (hI : ∀ k, I k → I' k) (hw : ∀ k, I k → w'.heap[k]? = w.heap[k]?)
    (hr : ∀ v, ρ[i]? = some v → SV.den ρ' I' w' r v) : (l : List Fr) → {sv : List Act} → StkOk ρ I w l sv → StkOk ρ' I' w' (l.map (Fr.sub i r)) sv
  | [], _, h => h
  | fr :: l, _, h => by
    obtain ⟨tm, sv', e, h1, h2⟩ := h
    exact ⟨tm, sv', e, h1.sub hρ hp hI hw hr, StkOk.sub hρ hp hI hw hr l h2⟩

/-- Another resource than i, behind a change at i. -/
theorem Res.keepS {lp : Lp} {j : Nat} {F : Nat → Prop} (hji : j ≠ i) (hρ : ∀ (j : Nat) v, j ≠ i → ρ[j]? = some v → ρ'[j]? = some v) (hp : ∀ (j : Nat) u, NoSl u → ρ[j]? = some u → ρ'[j]? = some u) (hI : ∀ k, I k → I' k) (hw : ∀ k, I k → w'.heap[k]? = w.heap[k]?)
    (hr : ∀ v, ρ[i]? = some v → SV.den ρ' I' w' r v) (hF : ∀ k, F k → w'.heap[k]? = w.heap[k]?) : (x : Res) → x.holds lp ρ I w j F → (x.sub i r).holds lp ρ' I' w' j F
  | .blk ty cs, h => by
    obtain ⟨b, vs, h1, h2, h3, h4⟩ := h
    exact ⟨b, vs, hp _ _ nsP h1, (hF b ((h4 b).2 rfl)).trans h2, SV.denL_sub hρ hp hI hw hr cs h3, h4⟩
  | .row e t xs, h => by
    obtain ⟨v, cells, h1, h2, h3, h4⟩ := h
    exact ⟨v, cells, hρ _ _ hji h1, ownsRow_move h2 (fun k hk => hF k ((h4 k).2 hk)), RdL.keep hI hw t xs h3, h4⟩
  | .cust t R x, h => by
    obtain ⟨v, h1, h0, h2⟩ := h
    exact ⟨v, hρ _ _ hji h1, h0, R.keep h2 hF hI hw⟩
  | .dfr, h => by
    obtain ⟨b, h1, h2, h3⟩ := h
    exact ⟨b, hp _ _ nsP h1, (hF b ((h3 b).2 rfl)).trans h2, h3⟩
  | .dfrs, h => by
    obtain ⟨Ds, h1, h2, h3, h4⟩ := h
    exact ⟨Ds, hρ _ _ hji h1, fun D hD => (hF D ((h4 D).2 hD)).trans (h2 D hD), h3, h4⟩
  | .loop fr ps st pend, h => by
    obtain ⟨l, r, h1, h2, h3, h4, h5, h6, h7, h8⟩ := h
    exact ⟨l, r, hp _ _ nsP h1, (hF l ((h8 l).2 rfl)).trans h2, h3, h4, h5, h6, ⟨h7.1, fun t => by simp only [Fr.sub, getT_sub]; exact SV.den_sub hρ hp hI hw hr _ (h7.2 t)⟩, h8⟩
  | .rsv, h => ⟨hρ _ _ hji h.1, h.2⟩
  | .mv j' e t xs, h => by
    simp only [Res.sub]
    by_cases ej : j' = i
    · subst ej; simp only [beq_self_eq_true, cond_true]; exact trivial
    · have e' : (j' == i) = false := by simpa using ej
      rw [e']; simp only [cond_false]
      obtain ⟨h0, v, cells, h1, h2, h3, h4⟩ := h
      exact ⟨hρ _ _ hji h0, v, cells, hρ _ _ ej h1, ownsRow_move h2 (fun k hk => hF k ((h4 k).2 hk)), RdL.keep hI hw t xs h3, h4⟩
  | .was, h => by
    obtain ⟨⟨A, n, c, h1⟩, h2⟩ := h
    exact ⟨⟨A, n, c, hρ _ _ hji h1⟩, h2⟩
  | .ro ty cs, h => by
    obtain ⟨b, vs, h1, h2, h3, h4, h5⟩ := h
    exact ⟨b, vs, hp _ _ nsP h1, (hw b h4).trans h2, SV.denL_sub hρ hp hI hw hr cs h3, hI b h4, h5⟩
  | .gone, h => h
  | .junk, h => h
  | .fam T t os, h => ⟨hp _ _ nsB h.1, h.2.keep hI hw hF⟩
  | .mit _, h => by
    obtain ⟨⟨r, h1⟩, h2⟩ := h
    exact ⟨⟨r, hp _ _ nsP h1⟩, h2⟩
  | .mapr kk ag vt es it, h => by
    obtain ⟨b, ents, clock, ro, h1, h2, h3, h4⟩ := h
    refine ⟨b, ents, clock, ro, hp _ _ nsM h1, h2.keep hI hw (hF b ((h3 b).2 (.inl rfl))), h3, ?_⟩
    cases it with
    | none => exact h4
    | some p =>
      obtain ⟨r, e, g1, g2, g3⟩ := h4
      exact ⟨r, e, hp _ _ nsP g1, g2, g3.keep (hF r ((h3 r).2 (.inr e)))⟩
end

section
variable {cx : Cx} {res : List Res} {ρ : List Value} {I : Nat → Prop} {F : Nat → Nat → Prop} {w : World}

/-- An own row reads as data, once its block counts as immutable. -/
theorem row_reads {I' : Nat → Prop} (hI : ∀ k, I k → I' k) {e : TypeId} {t : Ty} {xs : List t.den} {v : Value} {cells : List Value} (h : w.ownsRow 0 e t.sz v xs.length cells) (hr : RdL I w t xs cells)
    (hv : ∀ k, v.ownBlock = some k → I' k) : Rd I' w (.slice t) xs [v] := by
  obtain ⟨A, c, rfl, hlc, hcm⟩ := ownsRow_len h
  refine ⟨A, c, rfl, hlc, hcm, fun i x hx => ?_⟩
  have hlt : i < xs.length := (List.getElem?_eq_some_iff.1 hx).1
  rcases h.2 with ⟨e1, e2⟩ | ⟨g, cap, cur, hv', _, hh, hnc, hcm', hcs, htk⟩
  · omega
  · simp only [Value.slice.injEq, true_and] at hv'
    obtain ⟨rfl, rfl⟩ := hv'
    obtain ⟨cs, g1, g2⟩ := RdL.get t xs hr i x hx
    refine ⟨⟨g, 0, none⟩, cs, rfl, hv g rfl, Rd.keep hI (fun _ _ => rfl) t g1, fun j u hj => ?_⟩
    have hk := g2 j u hj
    rw [← htk, List.getElem?_take] at hk
    split at hk
    · rw [plain_add, cell_of_row w g _ _ _ _ hh]; simpa using hk
    · cases hk

theorem Mem.freeze (h : Mem cx res ρ I F w) {i : Nat} {e : TypeId} {t : Ty} {xs : List t.den} (hi : res[i]? = some (.row e t xs)) :
    Mem cx ((res.set i .gone).map (Res.sub i (.rs t xs))) ρ (fun k => I k ∨ F i k) (fun j k => j ≠ i ∧ F j k) w ∧ (∀ v, ρ[i]? = some v → SV.den ρ (fun k => I k ∨ F i k) w (.rs t xs) v) := by
  have hil := (List.getElem?_eq_some_iff.1 hi).1
  have hr : ∀ v, ρ[i]? = some v → SV.den ρ (fun k => I k ∨ F i k) w (.rs t xs) v := by
    intro v hv
    obtain ⟨v', cells, h1, h2, h3, h4⟩ := h.holds i _ hi
    rw [hv] at h1
    cases h1
    unfold SV.den
    exact row_reads (fun _ h => .inl h) h2 h3 (fun k hk => .inr ((h4 k).2 hk))
  refine ⟨⟨by simp [h.len], h.ones, ?_, ?_, ?_, ?_, ?_, fun k hk => .inl (h.I0 k hk), ?_, ?_, h.size, h.os, h.tape, h.output, h.frame⟩, hr⟩
  · intro j r hj
    rw [List.getElem?_map] at hj
    by_cases e : j = i
    · subst e
      rw [List.getElem?_set_self hil] at hj
      simp only [Option.map_some, Option.some.injEq] at hj
      subst hj
      intro k hk
      exact hk.1 rfl
    · rw [List.getElem?_set_ne (by omega)] at hj
      simp only [Option.map_eq_some_iff] at hj
      obtain ⟨r', hr', rfl⟩ := hj
      have := Res.keepS (I' := fun k => I k ∨ F i k) e (fun _ _ _ h => h) (fun _ _ _ h => h) (fun _ h => .inl h) (fun _ _ => rfl) hr (fun _ _ => rfl) r' (h.holds j r' hr')
      have hF : (fun k => j ≠ i ∧ F j k) = F j := by funext k; simp [e]
      rw [hF]; exact this
  · intro j j' k hj hj' hne h1 h2
    simp at hj hj'
    exact h.apart j j' k hj hj' hne h1.2 h2.2
  · intro j k hj h1; simp at hj; exact h.lt j k hj h1.2
  · intro j k hj h1 h2
    simp at hj
    rcases h2 with h2 | h2
    · exact h.notI j k hj h1.2 h2
    · exact h.apart j i k hj hil h1.1 h1.2 h2
  · intro j k hj h1; simp at hj; exact h.new j k hj h1.2
  · intro k hk
    rcases hk with hk | hk
    · exact h.Ilt k hk
    · exact h.lt i k hil hk
  · intro k hk
    rcases hk with hk | hk
    · exact h.Inew k hk
    · exact .inr (h.new i k hil hk)
end
mutual
def SV.rowIn : SV → Option Nat
  | .row i => some i
  | .agg cs => SV.rowInL cs
  | .tup cs => SV.rowInL cs
  | _ => none
def SV.rowInL : List SV → Option Nat
  | [] => none
  | s :: ss => match SV.rowIn s with
    | some i => some i
    | none => SV.rowInL ss
end

def St.frz (S : St) (i : Nat) (t : Ty) (xs : List t.den) : St := { S.sub i (.rs t xs) with res := (S.res.set i .gone).map (Res.sub i (.rs t xs)) }


section
variable {cx : Cx} {S : St} {w : World} {a : Act} {sv : List Act}

theorem Ok.frz {ss : List SV} {vs : List Value} (h : Ok cx S a w sv ss vs) {i : Nat} {e : TypeId} {t : Ty} {xs : List t.den} (hi : S.res[i]? = some (.row e t xs)) :
    Ok cx (S.frz i t xs) a w sv (SV.subL i (.rs t xs) ss) vs := by
  obtain ⟨ρ, I, F, hM, hf, hs, hd⟩ := h
  obtain ⟨hM', hr⟩ := hM.freeze hi
  exact ⟨ρ, _, _, hM', hf.sub (fun _ _ _ h => h) (fun _ _ _ h => h) (fun _ h => .inl h) (fun _ _ => rfl) hr, StkOk.sub (fun _ _ _ h => h) (fun _ _ _ h => h) (fun _ h => .inl h) (fun _ _ => rfl) hr _ hs,
    SV.denL_sub (fun _ _ _ h => h) (fun _ _ _ h => h) (fun _ h => .inl h) (fun _ _ => rfl) hr _ hd⟩


/-- Own rows among what is looked at are let go. -/
def fzOps (os : List Operand) : Nat → St → St
  | 0, S => S
  | n + 1, S => match SV.rowInL (os.map S.fr.ev) with
    | none => S
    | some i => match S.res[i]? with
      | some (.row _ t xs) => fzOps os n (S.frz i t xs)
      | _ => S

theorem fzOps_ok (os : List Operand) : (n : Nat) → {S : St} → Ok cx S a w sv [] [] → Ok cx (fzOps os n S) a w sv [] []
  | 0, _, h => h
  | n + 1, S, h => by
    unfold fzOps
    split
    · exact h
    · split
      · rename_i e t xs hr
        exact fzOps_ok os n (by simpa [SV.subL] using h.frz hr)
      · exact h
end
end Go.Proofs.Ytfdcmbaoekjkgaa.Gx
namespace Go.Proofs.Ytfdcmbaoekjkgaa.Gx
open Go.RowKit
set_option linter.unusedSimpArgs false
set_option linter.unusedVariables false

section
variable {cx : Cx} {res : List Res} {ρ ρ' : List Value} {I : Nat → Prop} {F : Nat → Nat → Prop} {w w' : World}

/-- Resource i changes (into r', with new blocks perhaps), the others stay. -/
theorem Mem.change (h : Mem cx res ρ I F w) {i : Nat} (hi : i < res.length) (r' : Res) (Fi : Nat → Prop) (g : Res → Res) (hlen : ρ'.length = ρ.length)
    (hon : ∀ (j : Nat) v, ρ'[j]? = some v → v.oneCell' = true) (hsame : ∀ k, k < w.heap.size → ¬ F i k → w'.heap[k]? = w.heap[k]?) (hsz : w.heap.size ≤ w'.heap.size)
    (hos : w'.os = w.os) (htape : w'.tape = w.tape) (hout : w'.output = w.output) (hFi : ∀ k, Fi k → (F i k ∨ w.heap.size ≤ k) ∧ k < w'.heap.size)
    (hg : ∀ (j : Nat) (x : Res), j ≠ i → res[j]? = some x → x.holds cx.lp ρ I w j (F j) → (g x).holds cx.lp ρ' I w' j (F j)) (hr' : r'.holds cx.lp ρ' I w' i Fi) :
    Mem cx ((res.map g).set i r') ρ' I (fun j => if j = i then Fi else F j) w' := by
  refine ⟨by simp [hlen, h.len], hon, ?_, ?_, ?_, ?_, ?_, h.I0, ?_, h.Inew, Nat.le_trans h.size hsz, hos.trans h.os, htape.trans h.tape, hout.trans h.output, ?_⟩
  · intro j x hj
    by_cases e : j = i
    · subst e
      rw [List.getElem?_set_self (by simpa using hi)] at hj
      cases hj
      simpa using hr'
    · rw [List.getElem?_set_ne (by omega), List.getElem?_map, Option.map_eq_some_iff] at hj
      obtain ⟨y, hy, rfl⟩ := hj
      simp only [e, if_false]
      exact hg j y e hy (h.holds j y hy)
  · intro j j' k hj hj' hne h1 h2
    simp at hj hj'
    by_cases e : j = i
    · rw [if_pos e] at h1
      rw [if_neg (by omega)] at h2
      rcases (hFi k h1).1 with h3 | h3
      · exact h.apart i j' k hi hj' (by omega) h3 h2
      · have := h.lt j' k hj' h2; omega
    · rw [if_neg e] at h1
      by_cases e' : j' = i
      · rw [if_pos e'] at h2
        rcases (hFi k h2).1 with h3 | h3
        · exact h.apart j i k hj hi (by omega) h1 h3
        · have := h.lt j k hj h1; omega
      · rw [if_neg e'] at h2
        exact h.apart j j' k hj hj' hne h1 h2
  · intro j k hj h1
    simp at hj
    by_cases e : j = i
    · rw [if_pos e] at h1; exact (hFi k h1).2
    · rw [if_neg e] at h1; exact Nat.lt_of_lt_of_le (h.lt j k hj h1) hsz
  · intro j k hj h1 h2
    simp at hj
    by_cases e : j = i
    · rw [if_pos e] at h1
      rcases (hFi k h1).1 with h3 | h3
      · exact h.notI i k hi h3 h2
      · have := h.Ilt k h2; omega
    · rw [if_neg e] at h1; exact h.notI j k hj h1 h2
  · intro j k hj h1
    simp at hj
    by_cases e : j = i
    · rw [if_pos e] at h1
      rcases (hFi k h1).1 with h3 | h3
      · exact h.new i k hi h3
      · right; have := h.size; omega
    · rw [if_neg e] at h1; exact h.new j k hj h1
  · intro k hk; exact Nat.lt_of_lt_of_le (h.Ilt k hk) hsz
  · intro k hk hm
    rw [hsame k (by have := h.size; omega) (fun hf => by
      rcases h.new i k hi hf with h3 | h3
      · exact hm h3
      · omega)]
    exact h.frame k hk hm
end

def St.push (S : St) (r : Res) : St := { S with res := S.res ++ [r] }

def SV.one : SV → Bool
  | .any | .undef | .agg _ | .tup _ => false
  | .val v => v.oneCell'
  | _ => true

section
variable {P : Program} {cx : Cx} {S : St} {ρ : List Value} {I : Nat → Prop} {F : Nat → Nat → Prop} {w : World} {a : Act} {sv : List Act}

theorem SV.one_den (hon : ∀ (i : Nat) v, ρ[i]? = some v → v.oneCell' = true) {s : SV} {v : Value} (h1 : s.one = true) (hd : SV.den ρ I w s v) : v.oneCell' = true := by
  cases s with
  | any => simp [SV.one] at h1
  | undef => simp [SV.one] at h1
  | agg _ => simp [SV.one] at h1
  | tup _ => simp [SV.one] at h1
  | int _ _ => unfold SV.den at hd; rw [hd]; rfl
  | bool _ => unfold SV.den at hd; rw [hd]; rfl
  | lit _ => unfold SV.den at hd; rw [hd]; rfl
  | str _ => unfold SV.den at hd; rw [hd.1]; rfl
  | rs t xs =>
    unfold SV.den at hd
    obtain ⟨A, c, e, _⟩ := hd
    simp only [List.cons.injEq, and_true] at e
    rw [e]; rfl
  | pto t x off => unfold SV.den at hd; obtain ⟨ad, cells, e, _⟩ := hd; rw [e]; rfl
  | ptr i off => unfold SV.den at hd; obtain ⟨b, _, e⟩ := hd; rw [e]; rfl
  | row i => unfold SV.den at hd; exact hon _ _ hd.1
  | elt i j sz off => unfold SV.den at hd; obtain ⟨g, n, c, _, e⟩ := hd; rw [e]; rfl
  | win i lo hi sz => unfold SV.den at hd; obtain ⟨A, n, c, _, _, _, _, _, e⟩ := hd; rw [e]; rfl
  | fn f caps => unfold SV.den at hd; obtain ⟨vs, e, _⟩ := hd; rw [e]; rfl
  | yld i => unfold SV.den at hd; obtain ⟨l, _, e⟩ := hd; rw [e]; rfl
  | mp i => unfold SV.den at hd; obtain ⟨l, _, e⟩ := hd; rw [e]; rfl
  | adr T x => unfold SV.den at hd; rw [hd]; rfl
  | hd e h => unfold SV.den at hd; rw [hd.1]; rfl
  | fp T b j sz off => unfold SV.den at hd; rw [hd]; rfl
  | ev => unfold SV.den at hd; obtain ⟨A, e⟩ := hd; rw [e]; rfl
  | val v => unfold SV.den at hd; rw [hd]; exact h1

theorem SV.ones_den (hon : ∀ (i : Nat) v, ρ[i]? = some v → v.oneCell' = true) : (ss : List SV) → {vs : List Value} → ss.all SV.one = true → SV.denL ρ I w ss vs → ∀ v ∈ vs, v.oneCell' = true
  | [], _, _, h => by unfold SV.denL at h; simp [h]
  | s :: ss, _, h1, h => by
    unfold SV.denL at h
    obtain ⟨v, vs', e, h2, h3⟩ := h
    subst e
    simp only [List.all_cons, Bool.and_eq_true] at h1
    intro u hu
    rcases List.mem_cons.1 hu with rfl | hu
    · exact SV.one_den hon h1.1 h2
    · exact SV.ones_den hon ss h1.2 h3 u hu

/-- A new block of cells. -/
theorem Ok.newBlk (h : Ok cx S a w sv [] []) (t : TypeId) (cs : List SV) (vs : List Value) (hd : ∀ ρ I F, Mem cx S.res ρ I F w → FrOk ρ I w S.fr a → SV.denL ρ I w cs vs) :
    Ok cx (S.push (.blk t cs)) a (w.alloc (.cells vs.toArray t)) sv [.ptr S.res.length 0] [.pointer (some ⟨w.heap.size, 0, none⟩)] := by
  obtain ⟨ρ, I, F, hM, hf, hs, _⟩ := h
  have hsame : ∀ k, I k → (w.alloc (.cells vs.toArray t)).heap[k]? = w.heap[k]? := fun k hk => Below.heap_alloc w _ k (hM.Ilt k hk)
  have hdn := hd ρ I F hM hf
  have hnew : (ρ ++ [Value.pointer (some ⟨w.heap.size, 0, none⟩)])[S.res.length]? = some (.pointer (some ⟨w.heap.size, 0, none⟩)) := by rw [getElem?_snoc, if_pos hM.len.symm]
  obtain ⟨F', hM'⟩ := hM.push (.cells vs.toArray t) (.blk t cs) (.pointer (some ⟨w.heap.size, 0, none⟩)) rfl
    ⟨w.heap.size, vs, hnew, heap_alloc_new w _, SV.denL_keep (fun _ _ h => rho_snoc h) (fun _ h => h) hsame cs hdn, fun k => Iff.rfl⟩
  refine ⟨_, I, F', hM', hf.keep (fun _ _ h => rho_snoc h) (fun _ h => h) hsame, StkOk.keep (fun _ _ h => rho_snoc h) (fun _ h => h) hsame _ hs, ?_⟩
  unfold SV.denL SV.den
  exact ⟨_, [], rfl, ⟨w.heap.size, hnew, rfl⟩, by simp [SV.denL]⟩

def EffOk (P : Program) (cx : Cx) (sv : List Act) (a : Act) (w : World) (o : Oper) (k : SV → St → Prop) : Prop :=
  ∃ r v w' s S', (execOp a.eval o).run P w = .ok r w' ∧ (r = .value v ∨ (r = .skip ∧ v = Go.undef)) ∧ Ok cx S' a w' sv [s] [v] ∧ k s S'

def salloc (P : Program) (S : St) (t : TypeId) (k : SV → St → Prop) : Prop :=
  match zcells P t with
  | some cs => k (.ptr S.res.length 0) (S.push (.blk t cs))
  | none => False

theorem salloc_sound (h : Ok cx S a w sv [] []) {o : Oper} {t : TypeId} (ho : o.op = .alloc t) {k : SV → St → Prop} (hk : salloc P S t k) : EffOk P cx sv a w o k := by
  unfold salloc at hk
  split at hk
  · rename_i cs hz
    obtain ⟨z, hzr, rfl⟩ := zcells_run hz
    refine ⟨.value _, _, _, _, _, ?_, .inl rfl, h.newBlk t _ z.cells.toList (fun ρ I F _ _ => cSVs_den ρ I w _), hk⟩
    simp [execOp, ho, Instr.alloc, hzr, newVar, newRow]
  · exact hk.elim

def sbox (S : St) (t : TypeId) (x : SV) (k : SV → St → Prop) : Prop :=
  match x.cells with
  | some cs => k (.ptr S.res.length 0) (S.push (.blk t cs))
  | none => False

theorem sbox_sound (h : Ok cx S a w sv [] []) {o : Oper} {t : TypeId} {x : Operand} (ho : o.op = .box t x) {k : SV → St → Prop} (hk : sbox S t (S.fr.ev x) k) : EffOk P cx sv a w o k := by
  unfold sbox at hk
  split at hk
  · rename_i cs hc
    refine ⟨.value (.pointer (some ⟨w.heap.size, 0, none⟩)), _, w.alloc (.cells (a.eval x).cells.toList.toArray t), _, _, ?_, .inl rfl, h.newBlk t cs (a.eval x).cells.toList (fun ρ I F hM hf => ?_), hk⟩
    · simp [execOp, ho, Instr.box, newVar, newRow]
    · obtain ⟨vs, h1, h2⟩ := SV.cells_den hM.ones hc (Fr.ev_den hf x)
      rw [h1]; exact h2
  · exact hk.elim

def sstore (P : Program) (S : St) (t : TypeId) (p x : SV) (k : SV → St → Prop) : Prop :=
  match p, x.cells, P.info? t with
  | .ptr i off, some vs, some inf => match S.res[i]? with
    | some (.blk ty cs) => match Nat.beq vs.length inf.size, Nat.ble (off + vs.length) cs.length, vs.all SV.one with
      | true, true, true => k .undef { S with res := S.res.set i (.blk ty (cs.take off ++ vs ++ cs.drop (off + vs.length))) }
      | _, _, _ => False
    | _ => False
  | _, _, _ => False

theorem sstore_sound (h : Ok cx S a w sv [] []) {o : Oper} {t : TypeId} {p x : Operand} (ho : o.op = .store t p x) {k : SV → St → Prop} (hk : sstore P S t (S.fr.ev p) (S.fr.ev x) k) : EffOk P cx sv a w o k := by
  obtain ⟨ρ, I, F, hM, hf, hs, _⟩ := h
  unfold sstore at hk
  split at hk
  · rename_i i off vs inf hp hc hi
    split at hk
    · rename_i ty cs hr
      split at hk
      · rename_i b1 b2 b3
        have hsz : vs.length = inf.size := Nat.eq_of_beq_eq_true b1
        have hle : off + vs.length ≤ cs.length := Nat.le_of_ble_eq_true b2
        have hil := (List.getElem?_eq_some_iff.1 hr).1
        obtain ⟨us, hu1, hu2⟩ := SV.cells_den hM.ones hc (Fr.ev_den hf x)
        have hpd := Fr.ev_den hf p
        rw [hp] at hpd
        unfold SV.den at hpd
        obtain ⟨b, hb, hpe⟩ := hpd
        obtain ⟨b', cur, h1, h2, h3, h4⟩ := hM.holds _ _ hr
        rw [hb] at h1
        obtain rfl : b = b' := by simpa using h1
        have hlu := SV.denL_length vs hu2
        have hlc := SV.denL_length cs h3
        have hst := run_storeCells_at (P := P) b off ty us 0 cur.toArray w h2 (by simp; omega) (SV.ones_den hM.ones vs b3 hu2)
        simp only [Nat.add_zero] at hst
        obtain ⟨w', hw'⟩ : ∃ w', w.setRow b (cur.take off ++ us ++ cur.drop (off + us.length)).toArray = w' := ⟨_, rfl⟩
        rw [hw'] at hst
        have hother : ∀ k, k ≠ b → w'.heap[k]? = w.heap[k]? := fun k hk => by rw [← hw']; exact setRow_other w b k _ hk
        have hsame : ∀ k, I k → w'.heap[k]? = w.heap[k]? := fun k hk => hother k (fun e => hM.notI i k hil ((h4 k).2 e) hk)
        have hM' := Mem.change (w' := w') (ρ' := ρ) hM hil (.blk ty (cs.take off ++ vs ++ cs.drop (off + vs.length))) (F i) id rfl hM.ones
          (fun k _ hnf => hother k (fun e => hnf ((h4 k).2 e))) (by rw [← hw']; simp) (by rw [← hw']; rfl) (by rw [← hw']; rfl) (by rw [← hw']; rfl)
          (fun k hk => ⟨.inl hk, by rw [← hw']; simp; exact hM.lt i k hil hk⟩)
          (fun j y hji hy hh => Res.keep (fun _ _ h => h) (fun _ h => h) hsame (fun k hk => hother k (fun e => hM.apart j i k (List.getElem?_eq_some_iff.1 hy).1 hil hji hk ((h4 k).2 e))) y hh)
          ⟨b, cur.take off ++ us ++ cur.drop (off + us.length), hb, by rw [← hw']; exact setRow_heap w b _ _ ty _ h2,
            SV.denL_append _ _ (SV.denL_append _ _ (SV.denL_keep (fun _ _ h => h) (fun _ h => h) hsame _ (SV.denL_take off cs h3)) (SV.denL_keep (fun _ _ h => h) (fun _ h => h) hsame _ hu2))
              (by rw [hlu]; exact SV.denL_keep (fun _ _ h => h) (fun _ h => h) hsame _ (SV.denL_drop _ cs h3)), h4⟩
        rw [List.map_id] at hM'
        refine ⟨.skip, Go.undef, w', .undef, { S with res := S.res.set i (.blk ty (cs.take off ++ vs ++ cs.drop (off + vs.length))) }, ?_, .inr ⟨rfl, rfl⟩, ⟨ρ, I, _, hM', hf.keep (fun _ _ h => h) (fun _ h => h) hsame, StkOk.keep (fun _ _ h => h) (fun _ h => h) hsame _ hs, by simp [SV.denL, SV.den]⟩, hk⟩
        have hsz' : (a.eval x).cells.size = inf.size := by rw [hu1]; simp; omega
        have hlist : (a.eval x).cells.toList = us := by rw [hu1]
        simp [execOp, ho, hpe, Instr.storeAt, Instr.sureAddr, storeVar, run_sizeOf' hi, hsz', hlist, hst]
      · exact hk.elim
    · exact hk.elim
  · exact hk.elim
end

/-! ### Slices made of their elements; appending -/
def implodeL (t : Ty) : Nat → List SV → Option (List t.den)
  | 0, l => match l with
    | [] => some []
    | _ => none
  | n + 1, l => match implode t l with
    | some (x, r) => match implodeL t n r with
      | some xs => some (x :: xs)
      | none => none
    | none => none

theorem implodeL_den {ρ : List Value} {I : Nat → Prop} {w : World} (t : Ty) : (n : Nat) → {l : List SV} → {vs : List Value} → {xs : List t.den} → SV.denL ρ I w l vs → implodeL t n l = some xs →
    xs.length = n ∧ RdL I w t xs vs
  | 0, l, vs, xs, hd, h => by
    simp only [implodeL] at h
    split at h <;> cases h
    unfold SV.denL at hd
    subst hd
    exact ⟨rfl, rfl⟩
  | n + 1, l, vs, xs, hd, h => by
    simp only [implodeL] at h
    split at h
    · rename_i x r h1
      split at h
      · rename_i ys h2
        cases h
        obtain ⟨c1, c2, rfl, g1, g2⟩ := implode_den t hd h1
        obtain ⟨k1, k2⟩ := implodeL_den t n g2 h2
        exact ⟨by simp [k1], c1, c2, rfl, g1, k2⟩
      · cases h
    · cases h

def arrT (t : Ty) : Nat → Option Ty
  | 0 => none
  | n + 1 => match n with
    | 0 => some t
    | _ => match arrT t n with
      | some u => some (.pair t u)
      | none => none

/-- A struct that is a slice of cells. -/
def hdOf (P : Program) : List Field → Option TypeId
  | [f] => match P.underlying f.type with
    | some (.slice e) => match P.underlying e with
      | some (.int _) => some e
      | some .bool => some e
      | some (.pointer _) => some e
      | _ => none
    | _ => none
  | _ => none

def tyOf (P : Program) : Nat → TypeId → Option Ty
  | 0, _ => none
  | n + 1, t => match P.underlying t with
    | some (.int k) => some (.int k)
    | some .bool => some .bool
    | some .string => some .str
    | some (.slice e) => match tyOf P n e with
      | some t => some (.slice t)
      | none => none
    | some (.array m e) => match tyOf P n e with
      | some t => arrT t m
      | none => none
    | some (.pointer e) => some (.adr e)
    | some (.struct fs) => match hdOf P fs.toList with
      | some e => some (.hd e)
      | none => fs.toList.foldr (fun f acc => match tyOf P n f.type with
      | some t => match acc with
        | some (some u) => some (some (.pair t u))
        | some none => some (some t)
        | none => none
      | none => none) (some none) |>.join
    | _ => none

def sbuildSlice (P : Program) (S : St) (t : TypeId) (len : Nat) (parts : List (Nat × SV)) (k : SV → St → Prop) : Prop :=
  match P.underlying t with
  | some (.slice e) => match P.info? e, tyOf P 20 e, zcells P e with
    | some inf, some ty, some z => match Nat.beq inf.size ty.sz, Nat.ble (len * inf.size) 16777216 with
      | true, true => match sfill (fun i => some (i * inf.size, inf.size)) ((List.range (len * inf.size)).map fun j => (z[j % z.length]?).getD .any) parts with
        | some cs => match implodeL ty len cs with
          | some xs => k (.row S.res.length) (S.push (.row e ty xs))
          | none => False
        | none => False
      | _, _ => False
    | _, _, _ => False
  | _ => False

section
variable {P : Program} {cx : Cx} {S : St} {ρ : List Value} {I : Nat → Prop} {F : Nat → Nat → Prop} {w : World} {a : Act} {sv : List Act}

theorem denL_map {α : Type} (f : α → SV) (g : α → Value) (h : ∀ x, SV.den ρ I w (f x) (g x)) : (l : List α) → SV.denL ρ I w (l.map f) (l.map g)
  | [] => by simp [SV.denL]
  | x :: l => by simp only [List.map_cons]; unfold SV.denL; exact ⟨_, _, rfl, h x, denL_map f g h l⟩

/-- A new row. -/
theorem Ok.newRow (h : Ok cx S a w sv [] []) (e : TypeId) (t : Ty) (xs : List t.den) (cells : List Value) (hm : xs.length ≤ maxLen) (hd : ∀ ρ I F, Mem cx S.res ρ I F w → FrOk ρ I w S.fr a → RdL I w t xs cells) :
    Ok cx (S.push (.row e t xs)) a (w.alloc (.cells cells.toArray e)) sv [.row S.res.length] [.slice (some ⟨w.heap.size, 0, none⟩) xs.length xs.length] := by
  obtain ⟨ρ, I, F, hM, hf, hs, _⟩ := h
  have hsame : ∀ k, I k → (w.alloc (.cells cells.toArray e)).heap[k]? = w.heap[k]? := fun k hk => Below.heap_alloc w _ k (hM.Ilt k hk)
  have hdn := hd ρ I F hM hf
  have hl := RdL.length t xs hdn
  have hnew : (ρ ++ [Value.slice (some ⟨w.heap.size, 0, none⟩) xs.length xs.length])[S.res.length]? = some (.slice (some ⟨w.heap.size, 0, none⟩) xs.length xs.length) := by rw [getElem?_snoc, if_pos hM.len.symm]
  obtain ⟨F', hM'⟩ := hM.push (.cells cells.toArray e) (.row e t xs) (.slice (some ⟨w.heap.size, 0, none⟩) xs.length xs.length) rfl
    ⟨_, cells, hnew, ⟨hl, .inr ⟨w.heap.size, xs.length, cells.toArray, rfl, Nat.zero_le _, heap_alloc_new w _, Nat.le_refl _, hm, by simpa using hl, by simp [← hl]⟩⟩,
      RdL.keep (fun _ h => h) hsame t xs hdn, fun k => by simp [Value.ownBlock]; omega⟩
  refine ⟨_, I, F', hM', hf.keep (fun _ _ h => rho_snoc h) (fun _ h => h) hsame, StkOk.keep (fun _ _ h => rho_snoc h) (fun _ h => h) hsame _ hs, ?_⟩
  unfold SV.denL SV.den
  exact ⟨_, [], rfl, ⟨hnew, rfl⟩, by simp [SV.denL]⟩

theorem sbuildSlice_sound (h : Ok cx S a w sv [] []) {o : Oper} {t : TypeId} {len : Nat} {parts : Array (Nat × Operand)} (ho : o.op = .buildSlice t len parts) {k : SV → St → Prop}
    (hk : sbuildSlice P S t len (parts.toList.map fun p => (p.1, S.fr.ev p.2)) k) : EffOk P cx sv a w o k := by
  unfold sbuildSlice at hk
  split at hk
  · rename_i e hu
    split at hk
    · rename_i inf ty z hi hty hz
      split at hk
      · rename_i b1 b2
        split at hk
        · rename_i cs hfl
          split at hk
          · rename_i xs him
            have hsz : inf.size = ty.sz := Nat.eq_of_beq_eq_true b1
            have hle : len * inf.size ≤ 16777216 := Nat.le_of_ble_eq_true b2
            obtain ⟨zv, hzr, rfl⟩ := zcells_run hz
            obtain ⟨ρ, I, F, hM, hf, hs, hnil⟩ := h
            have hparts : SV.denL ρ I w ((parts.toList.map fun p => (p.1, S.fr.ev p.2)).map (·.2)) ((parts.toList.map fun p => (p.1, a.eval p.2)).map (·.2)) := by
              have := Fr.evs_den hf (parts.toList.map (·.2))
              simpa [List.map_map, Function.comp_def] using this
            by_cases h0 : len * inf.size = 0
            · have hlen0 : len = 0 := by have := Ty.sz_pos ty; rcases Nat.mul_eq_zero.1 h0 with h | h <;> omega
              subst hlen0
              obtain ⟨vs', g1, g2⟩ := sfill_den hM.ones (fun i => some (i * inf.size, inf.size)) _ _ cs [] (parts.toList.map fun p => (p.1, a.eval p.2)) hfl (by simp [SV.denL]) ⟨by simp [List.map_map, Function.comp_def], hparts⟩
              obtain ⟨k1, k2⟩ := implodeL_den ty 0 g1 him
              have hx : xs = [] := List.eq_nil_of_length_eq_zero k1
              subst hx
              have hv : vs' = [] := k2
              subst hv
              have hh := Ok.newRow (cx := cx) (S := S) (a := a) (w := w) (sv := sv) ⟨ρ, I, F, hM, hf, hs, hnil⟩ e ty [] [] (by simp) (fun _ _ _ _ _ => rfl)
              refine ⟨.value (.slice (some ⟨w.heap.size, 0, none⟩) 0 0), _, w.alloc (.cells #[] e), _, _, ?_, .inl rfl, hh, hk⟩
              have g2' : Instr.fill (fun i => some (i * inf.size, inf.size)) #[] (parts.toList.map fun p => (p.1, a.eval p.2)) = some #[] := g2
              have hr0 : (Array.range 0) = #[] := rfl
              simp [execOp, ho, Instr.buildSlice, run_underlying hu, run_sizeOf' hi, hr0, g2', Go.newRow]
            · have hzd : SV.denL ρ I w ((List.range (len * inf.size)).map fun (j : Nat) => ((zv.cells.toList.map cSV)[j % (zv.cells.toList.map cSV).length]?).getD SV.any)
                  ((List.range (len * inf.size)).map fun (j : Nat) => (zv.cells[j % zv.cells.size]! : Value)) := by
                refine denL_map _ _ (fun j => ?_) _
                rw [List.length_map, Array.length_toList, List.getElem?_map]
                by_cases hj : j % zv.cells.size < zv.cells.size
                · rw [Array.getElem?_toList, Array.getElem?_eq_getElem hj, getElem!_pos zv.cells (j % zv.cells.size) hj]
                  exact cSV_den ρ I w _
                · rw [Array.getElem?_toList, Array.getElem?_eq_none (by omega)]
                  simp [SV.den]
              obtain ⟨vs', g1, g2⟩ := sfill_den hM.ones (fun i => some (i * inf.size, inf.size)) _ _ cs _ (parts.toList.map fun p => (p.1, a.eval p.2)) hfl hzd ⟨by simp [List.map_map, Function.comp_def], hparts⟩
              obtain ⟨k1, k2⟩ := implodeL_den ty len g1 him
              have hmx : xs.length ≤ maxLen := by
                have : len ≤ len * inf.size := Nat.le_mul_of_pos_right _ (by rcases Nat.eq_zero_or_pos inf.size with h | h; exact absurd (by rw [h]; simp) h0; exact h)
                simp only [maxLen]; omega
              obtain ⟨w', hw'⟩ : ∃ w', w.alloc (.cells vs'.toArray e) = w' := ⟨_, rfl⟩
              have hok : Ok cx (S.push (.row e ty xs)) a (w.alloc (.cells vs'.toArray e)) sv [.row S.res.length] [.slice (some ⟨w.heap.size, 0, none⟩) xs.length xs.length] := by
                have hsame : ∀ k, I k → (w.alloc (.cells vs'.toArray e)).heap[k]? = w.heap[k]? := fun k hk => Below.heap_alloc w _ k (hM.Ilt k hk)
                have hl := RdL.length ty xs k2
                have hnew : (ρ ++ [Value.slice (some ⟨w.heap.size, 0, none⟩) xs.length xs.length])[S.res.length]? = some (.slice (some ⟨w.heap.size, 0, none⟩) xs.length xs.length) := by rw [getElem?_snoc, if_pos hM.len.symm]
                obtain ⟨F', hM'⟩ := hM.push (.cells vs'.toArray e) (.row e ty xs) (.slice (some ⟨w.heap.size, 0, none⟩) xs.length xs.length) rfl
                  ⟨_, vs', hnew, ⟨hl, .inr ⟨w.heap.size, xs.length, vs'.toArray, rfl, Nat.zero_le _, heap_alloc_new w _, Nat.le_refl _, hmx, by simpa using hl, by simp [← hl]⟩⟩,
                    RdL.keep (fun _ h => h) hsame ty xs k2, fun k => by simp [Value.ownBlock]; omega⟩
                refine ⟨_, I, F', hM', hf.keep (fun _ _ h => rho_snoc h) (fun _ h => h) hsame, StkOk.keep (fun _ _ h => rho_snoc h) (fun _ h => h) hsame _ hs, ?_⟩
                unfold SV.denL SV.den
                exact ⟨_, [], rfl, ⟨hnew, rfl⟩, by simp [SV.denL]⟩
              refine ⟨.value (.slice (some ⟨w.heap.size, 0, none⟩) xs.length xs.length), _, _, _, _, ?_, .inl rfl, hok, hk⟩
              have hgt : ¬ (16777216 < len * inf.size) := by omega
              have hnz : ¬ (len = 0 ∨ inf.size = 0) := by rw [← Nat.mul_eq_zero]; exact h0
              have hmap : (Array.range (len * inf.size)).map (fun x => zv.cells[x % zv.cells.size]!) = ((List.range (len * inf.size)).map fun j => zv.cells[j % zv.cells.size]!).toArray := by
                apply Array.ext'; simp
              have g2' := g2
              rw [← hmap] at g2'
              simp [execOp, ho, Instr.buildSlice, run_underlying hu, run_sizeOf' hi, hgt, h0, hnz, hzr, g2', Go.newRow, k1]
          · exact hk.elim
        · exact hk.elim
      · exact hk.elim
    · exact hk.elim
  · exact hk.elim
end
end Go.Proofs.Ytfdcmbaoekjkgaa.Gx
