/- Memory as symbolic states, conditions for code, and that what they ask is enough; no condition. -/
import Derived.Test.YthoaelmomocohaaGcHk
import Derived.KernelRfl
import Derived.ProofKit
import Derived.OpenShut
import Derived.ChangeOld
import Derived.Handed
import Derived.Deep.Draws
namespace Go.Proofs.Ythoaelmomocohaa.Gx
open Go.RowKit
set_option linter.unusedSimpArgs false
set_option linter.unusedVariables false

def dsts : Code → List Nat
  | .region _ ops _ => ops.toList.filterMap (·.dst)
  | .seq a b => dsts a ++ dsts b
  | .cond _ a b => dsts a ++ dsts b
  | .block _ c => dsts c
  | .loop c => dsts c
  | .rangeFunc _ ps a b => ps.toList ++ dsts a ++ dsts b
  | .scope c => dsts c
  | _ => []

/-- The number of the first region: a loop's name. -/
def loopKey : Code → Option Nat
  | .region id _ _ => some id
  | .seq a b => match loopKey a with
    | some k => some k
    | none => loopKey b
  | .cond _ a b => match loopKey a with
    | some k => some k
    | none => loopKey b
  | .block _ c => loopKey c
  | .loop c => loopKey c
  | _ => none

structure LoopSpec where
  α : Type
  inv : α → Prop
  ov : α → List (Nat × SV)
  rov : α → List (Nat × Res)
  meas : α → Nat
  nil : List (Pt × TypeId × Ty) := []
  fz : List Pt := []
  mv : List (Pt × Nat) := []
  ct : List Nat := []
  hd : List (Nat × TypeId) := []
  fm : List (TypeId × Ty) := []
  df : Bool := false

/-- An empty row that is known by its head from now on. -/
def hdPt (S : St) (d : Nat) (e : TypeId) : St :=
  match getT S.fr.tm d with
  | .val (.slice none 0 0) => { S with fr := { S.fr with tm := (d, .hd e nilHd) :: S.fr.tm } }
  | _ => S
def hdS : List (Nat × TypeId) → St → St
  | [], S => S
  | (d, e) :: l, S => hdS l (hdPt S d e)
theorem hdPt_ok {cx : Cx} {S : St} {w : World} {a : Act} {sv : List Act} {ss : List SV} {vs : List Value} (h : Ok cx S a w sv ss vs) (d : Nat) (e : TypeId) : Ok cx (hdPt S d e) a w sv ss vs := by
  unfold hdPt
  split
  · rename_i hp
    obtain ⟨ρ, I, F, hM, hf, hs, hd⟩ := h
    refine ⟨ρ, I, F, hM, ⟨hf.1, fun t => ?_, hf.2.2⟩, hs, hd⟩
    simp only [getT]
    by_cases e' : d = t
    · subst e'
      simp only [beq_self_eq_true, cond_true]
      have := hf.2.1 d
      rw [hp] at this
      unfold SV.den at this
      rw [this]
      unfold SV.den
      exact ⟨rfl, by simp [Hd.ok, nilHd]⟩
    · have e2 : (d == t) = false := by simpa using e'
      simp only [e2, cond_false]
      exact hf.2.1 t
  · exact h
theorem hdS_ok {cx : Cx} {w : World} {a : Act} {sv : List Act} {ss : List SV} {vs : List Value} : (l : List (Nat × TypeId)) → {S : St} → Ok cx S a w sv ss vs → Ok cx (hdS l S) a w sv ss vs
  | [], _, h => h
  | (d, e) :: l, _, h => hdS_ok l (hdPt_ok h d e)

def LoopSpec.pre (L : LoopSpec) (S : St) : St := dfS L.df (frzS L.fz (nilS L.nil (hdS L.hd (pushFams L.fm S))))
def LoopSpec.back (L : LoopSpec) (S : St) : St := (bif L.df then mgS (cutS L.ct (mvS L.mv (frzS L.fz S))) else cutS L.ct (mvS L.mv (frzS L.fz S)))

def subRows : List (Nat × Res) → St → St
  | [], S => S
  | (i, .row e _ _) :: l, S => match Nat.beq e 0 with
    | true => subRows l (S.sub i .any)
    | false => subRows l S
  | (_, _) :: l, S => subRows l S

def setRes : List (Nat × Res) → List Res → List Res
  | [], l => l
  | (i, r) :: rest, l => setRes rest (l.set i (match l[i]?, r with
    | some (.blk ty _), .blk _ cs => .blk ty cs
    | some (.row e _ _), .row _ t xs => .row e t xs
    | _, r => r))

def headSt (c : Code) (S : St) (ov : List (Nat × SV)) (rov : List (Nat × Res)) : St :=
  let S1 := subRows rov S
  { fr := { S1.fr with tm := cleanT [] (ov ++ (dsts c).map (fun d => (d, .any)) ++ S1.fr.tm) }, stk := S1.stk, res := setRes rov S1.res }

/-- y: what a call of one's own yield comes to; it: functions that are given a yield. -/
structure Env where
  π : PSpecs
  σ : Specs
  L : Nat → Option (St → Option LoopSpec)
  y : Option (Nat → Spec) := none
  it : FuncId → Option ((Nat → Spec) → Spec) := fun _ => none
  κ : Kaps := fun _ => none
  live : List Nat := []
  un : Nat := 0
  cs : List Nat := []

/-- Is it a slot whose value is known wherever it is asked? -/
def isC (l : List Nat) : Operand → Bool
  | .tmp t => hasN l t
  | _ => false

/-- A loop of no more than so many rounds, round by round. -/
def unr (b : St → (X → St → Prop) → Prop) (K : X → St → Prop) : Nat → St → Prop
  | 0, _ => False
  | n + 1, S => S.force fun S1 => b S1 fun e S' => match e with
    | .normal => unr b K n S'
    | e => K e S'

def Env.specs (E : Env) : Specs := fun f => match E.π f with
  | some q => some (pspec q)
  | none => E.σ f

structure Env.ok (P : Program) (E : Env) : Prop where
  pure : E.π.ok P
  eff : E.σ.ok P
  read : E.κ.ok P
  over : ∀ g T, E.it g = some T → hasBody P g = true ∧ ∀ φ Y, YOk P φ Y → SpecOkAt P φ g (T Y)

/-- rd: in a round. -/
def vc (P : Program) (E : Env) : Code → Bool → St → (X → St → Prop) → Prop
  | .skip, _, S, K => K .normal S
  | .region _ ops dr, _, S, K => vreg P E.specs E.y E.π E.κ E.live ops dr S (K .normal)
  | .seq a b, rd, S, K => vc P E a rd S fun e S' => match e with
    | .normal => vc P E b rd S' K
    | e => K e S'
  | .cond c x y, rd, S, K => match S.fr.ev c with
    | .lit true => vc P E x rd S K
    | .lit false => vc P E y rd S K
    | .bool b => match isC E.cs c with
      | true => match b with
        | true => vc P E x rd (S.know c true) K
        | false => vc P E y rd (S.know c false) K
      | false => (b = true → vc P E x rd (S.know c true) K) ∧ (b = false → vc P E y rd (S.know c false) K)
    | _ => False
  | .block id c, rd, S, K => vc P E c rd S fun e S' => match e with
    | .exit i => bif Nat.beq i id then K .normal S' else K (.exit i) S'
    | e => K e S'
  | .loop c, rd, S, K => match loopKey c with
    | some key => match E.L key with
      | some f => match f S with
       | some L => ∃ x0, L.inv x0 ∧ vLe (L.pre S) (headSt c (L.pre S) (L.ov x0) (L.rov x0)) ∧
          ∀ x, L.inv x → (headSt c (L.pre S) (L.ov x) (L.rov x)).force fun S1 => vc P E c rd S1 fun e S' => match e with
            | .normal => ∃ x', L.inv x' ∧ L.meas x' < L.meas x ∧ vLe (L.back S') (headSt c (L.pre S) (L.ov x') (L.rov x'))
            | e => K e S'
       | none => False
      | none => unr (vc P E c rd) K E.un S
    | none => False
  | .rangeFunc g ps asg body, rd, S, K => match rd, E.y with
    | false, none => match S.fr.ev g with
      | .fn f caps => match E.it f with
        | some T => T (rnd (S.res.length + 1) (vc P E asg true) (vc P E body true)) (.yld (S.res.length + 1) :: caps)
            { fr := { S.fr with dfr := S.res.length :: S.fr.dfr }, stk := S.stk, res := S.res ++ [.dfr] ++ [.loop S.fr ps.toList .ready none] }
            fun _ S' => match S'.res[S.res.length + 1]? with
              | some (.loop _ _ .ready none) => K .normal { S' with res := S'.res.set (S.res.length + 1) .gone }
              | some (.loop _ _ .done (some e)) => match e with
                | .normal => False
                | e => K e { S' with res := S'.res.set (S.res.length + 1) .gone }
              | _ => False
        | none => False
      | _ => False
    | _, _ => False
  | .exit id, _, S, K => K (.exit id) S
  | .ret, _, S, K => K .ret S
  | _, _, _, _ => False

theorem exists_min (p : Nat → Prop) : ∀ n, p n → ∃ m, p m ∧ ∀ m', p m' → m ≤ m' := by
  intro n
  induction n using Nat.strongRecOn with
  | _ n ih =>
    intro hn
    by_cases h : ∃ m, m < n ∧ p m
    · obtain ⟨m, h1, h2⟩ := h; exact ih m h1 h2
    · exact ⟨n, hn, fun m' hm' => by rcases Nat.lt_or_ge m' n with h1 | h1; exact absurd ⟨m', h1, hm'⟩ h; exact h1⟩

theorem wpIn_loop_ghost {α : Type} {F : Fence} {n : Nat} {P : Program} {Q : Exit → Act → World → Prop} {a : Act} {w : World} {c : Code} (I : α → Act → World → Prop) (μ : α → Nat) (x0 : α) (h0 : I x0 a w)
    (round : ∀ x a w, I x a w → c.wpIn F n P (Exit.then (fun a' w' => ∃ x', I x' a' w' ∧ μ x' < μ x) Q) a w) : (Code.loop c).wpIn F n P Q a w := by
  have hmin : ∀ a w, (∃ x, I x a w) → ∃ m, (∃ x, I x a w ∧ μ x = m) ∧ ∀ m', (∃ x, I x a w ∧ μ x = m') → m ≤ m' := fun a w ⟨x, hx⟩ => exists_min (fun m => ∃ x, I x a w ∧ μ x = m) (μ x) ⟨x, hx, rfl⟩
  classical
  refine wpIn_loop (fun a w => ∃ x, I x a w) (fun a w => if h : ∃ x, I x a w then (hmin a w h).choose else 0) ⟨x0, h0⟩ ?_
  intro a w hI
  obtain ⟨⟨x, hx, hm⟩, hle⟩ := (hmin a w hI).choose_spec
  refine wpIn_mono (round x a w hx) ?_
  rintro e a' w' hq
  cases e with
  | normal =>
    obtain ⟨x', hx', hlt⟩ := hq
    refine ⟨⟨x', hx'⟩, ?_⟩
    rw [dif_pos ⟨x', hx'⟩, dif_pos hI]
    have h1 := (hmin a' w' ⟨x', hx'⟩).choose_spec.2 (μ x') ⟨x', hx', rfl⟩
    omega
  | _ => exact hq

section
variable {P : Program} {E : Env} {cx : Cx} {sv : List Act}

theorem Env.specs_ok (h : E.ok P) : E.specs.ok P := by
  intro f sp hf
  unfold Env.specs at hf
  split at hf
  · rename_i q hq
    cases hf
    exact ⟨(h.pure f q hq).1, pspec_ok (h.pure f q hq).2⟩
  · exact h.eff f sp hf

theorem know_ok {S : St} {a : Act} {w : World} {c : Operand} {b : Bool} (h : Ok cx S a w sv [] []) (hc : S.fr.ev c = .bool b) : Ok cx (S.know c b) a w sv [] [] ∧ a.eval c = .bool b := by
  obtain ⟨ρ, I, F, hM, hf, hs, hd⟩ := h
  have hev := Fr.ev_den hf c
  rw [hc] at hev
  unfold SV.den at hev
  refine ⟨?_, hev⟩
  unfold St.know
  split
  · rename_i t
    refine ⟨ρ, I, F, hM, ⟨hf.1, fun u => ?_, hf.2.2⟩, hs, hd⟩
    simp only [getT]
    by_cases e : t = u
    · subst e
      simp only [beq_self_eq_true, cond_true]
      unfold SV.den
      exact hev
    · have e' : (t == u) = false := by simpa using e
      simp only [e', cond_false]
      exact hf.2.1 u
  · exact ⟨ρ, I, F, hM, hf, hs, hd⟩

/-- The statement 'for .. := range f'. -/
theorem rangeFunc_ok {S : St} {a : Act} {w : World} {n : Nat} {g : Operand} {ps : Array Tmp} {asg body : Code} {f : FuncId} {caps : List SV} {K : X → St → Prop} {Q : Exit → Act → World → Prop} {sp : Spec}
    (h : Ok cx S a w sv [] []) (hg : S.fr.ev g = .fn f caps) (hbody : hasBody P f = true) (hsp : SpecOkAt P (fun cx => ∃ l, cx.lp (S.res.length + 1) = some (asg, body, l)) f sp)
    (hv : sp (.yld (S.res.length + 1) :: caps) { fr := { S.fr with dfr := S.res.length :: S.fr.dfr }, stk := S.stk, res := S.res ++ [.dfr] ++ [.loop S.fr ps.toList .ready none] } fun _ S' => match S'.res[S.res.length + 1]? with
              | some (.loop _ _ .ready none) => K .normal { S' with res := S'.res.set (S.res.length + 1) .gone }
              | some (.loop _ _ .done (some e)) => match e with
                | .normal => False
                | e => K e { S' with res := S'.res.set (S.res.length + 1) .gone }
              | _ => False)
    (hq : ∀ e S' a' w', Ok cx S' a' w' sv [] [] → K e S' → Q e.out a' w') : (Code.rangeFunc g ps asg body).wpIn (Wf none) n P Q a w := by
  obtain ⟨ρ, I, F, hM, hf, hs, _⟩ := h
  refine wpIn_rangeFunc (fun fnid _ => ?_)
  have hgd := Fr.ev_den hf g
  rw [hg] at hgd
  unfold SV.den at hgd
  obtain ⟨cv, hge, hcv⟩ := hgd
  let j := S.res.length + 1
  let R : Loop := { state := .ready, pending := none, fn := fnid, tmps := a.tmps, params := ps, assign := asg, body, defers := w.heap.size }
  let w1 := w.alloc (.deferred (some []))
  let w2 := w1.alloc (.loop R)
  let lp' : Lp := fun i => if i = j then some (asg, body, w.heap.size + 1) else cx.lp i
  let cx' : Cx := { cx with lp := lp' }
  have hlp : lp' j = some (asg, body, w.heap.size + 1) := by simp [lp']
  have hM0 : Mem cx' S.res ρ I F w := hM.lpc (fun i fr ps st pd hi => by
    have := (List.getElem?_eq_some_iff.1 hi).1
    simp only [lp']
    rw [if_neg (by show i ≠ S.res.length + 1; omega)])
  obtain ⟨F1, hM1⟩ := Mem.push hM0 (.deferred (some [])) .dfr (.pointer (some ⟨w.heap.size, 0, none⟩)) rfl
    ⟨w.heap.size, by rw [← hM.len]; simp, World.alloc_heap_new _ _, fun k => Iff.rfl⟩
  have hsz1 : w1.heap.size = w.heap.size + 1 := World.size_alloc _ _
  have hk1 : ∀ k, I k → w1.heap[k]? = w.heap[k]? := fun k hk => Below.heap_alloc w _ k (hM.Ilt k hk)
  have hk2 : ∀ k, I k → w2.heap[k]? = w.heap[k]? := fun k hk => (Below.heap_alloc w1 _ k (by rw [hsz1]; have := hM.Ilt k hk; omega)).trans (hk1 k hk)
  have hρ1 : ∀ (i : Nat) v, ρ[i]? = some v → (ρ ++ [Value.pointer (some ⟨w.heap.size, 0, none⟩)])[i]? = some v := fun i v h => rho_snoc h
  have hρ2 : ∀ (i : Nat) v, ρ[i]? = some v → (ρ ++ [Value.pointer (some ⟨w.heap.size, 0, none⟩)] ++ [Value.pointer (some ⟨w1.heap.size, 0, none⟩)])[i]? = some v := fun i v h => rho_snoc (hρ1 i v h)
  have hlen1 : (S.res ++ [Res.dfr]).length = j := by simp [j]
  have hrj : (ρ ++ [Value.pointer (some ⟨w.heap.size, 0, none⟩)] ++ [Value.pointer (some ⟨w1.heap.size, 0, none⟩)])[j]? = some (.pointer (some ⟨w1.heap.size, 0, none⟩)) := by
    have : j = (ρ ++ [Value.pointer (some ⟨w.heap.size, 0, none⟩)]).length := by simp [j, hM.len]
    rw [this]; simp
  obtain ⟨F2, hM2⟩ := Mem.push hM1 (.loop R) (.loop S.fr ps.toList .ready none) (.pointer (some ⟨w1.heap.size, 0, none⟩)) rfl
    ⟨w1.heap.size, R, by rw [hlen1]; exact hrj, World.alloc_heap_new _ _, by rw [hlen1, hsz1]; exact hlp, rfl, rfl, rfl, ⟨hf.1, fun t => SV.den_keep hρ2 (fun _ h => h) hk2 _ (hf.2.1 t)⟩, fun k => Iff.rfl⟩
  refine ⟨w.heap.size + 1, [{ target := .collected w.heap.size, args := #[] }], w2, { target := .fn (.func f) cv.toArray, args := #[.func (.yield (w.heap.size + 1)) #[] #[]] }, w2, f, (.func (.yield (w.heap.size + 1)) #[] #[] :: cv).toArray, w2, run_enterLoop_outer _ _ _ _ _, ?_, fun f' hf' => trivial, ?_, fun hd => by simp [Wf, Fence.wide] at hd, ?_⟩
  · simp only [resolve, rangeCall, hge, Deferred.ofValue]
    simp [Act.eval]
  · simp only [invoke]
    rw [hasBody_call hbody]
    simp
  · rw [callsIn_Wf]
    have h2 : Ok cx' { fr := { S.fr with dfr := S.res.length :: S.fr.dfr }, stk := S.stk, res := S.res ++ [.dfr] ++ [.loop S.fr ps.toList .ready none] } { a with defers := [{ target := .collected w.heap.size, args := #[] }] ++ a.defers } w2 sv
        (.yld j :: caps) (.func (.yield (w.heap.size + 1)) #[] #[] :: cv) := by
      refine ⟨_, I, F2, hM2, ⟨hf.1, fun t => SV.den_keep hρ2 (fun _ h => h) hk2 _ (hf.2.1 t), ⟨[w.heap.size], a.defers, _, rfl, ⟨?_, .inl ⟨_, rfl, rfl⟩⟩, DfrOk.keep hρ2 _ hf.2.2⟩⟩, StkOk.keep hρ2 (fun _ h => h) hk2 _ hs, ?_⟩
      · exact rho_snoc (by rw [← hM.len]; simp)
      · unfold SV.denL
        refine ⟨_, _, rfl, ?_, SV.denL_keep hρ2 (fun _ h => h) hk2 _ hcv⟩
        unfold SV.den
        exact ⟨w.heap.size + 1, by rw [hrj, hsz1], rfl⟩
    refine (hsp cx' _ _ _ _ _ _ _ ⟨_, hlp⟩ h2 hv).mono ?_
    rintro e w3 ⟨v, s, S', rfl, h3, hk⟩
    have back : ∀ (fr : Fr) (ps : List Tmp) (st : LoopState) (pd : Option X), S'.res[j]? = some (.loop fr ps st pd) → st ≠ .busy → ∃ w4 : World, (∃ jump, (Instr.endLoop (w.heap.size + 1)).run P w3 = .ok jump w4 ∧ jump = pd.map X.code) ∧
        Ok cx { S' with res := S'.res.set j .gone } { a with defers := [{ target := .collected w.heap.size, args := #[] }] ++ a.defers } w4 sv [] [] := by
      intro fr ps st pd hr hst
      obtain ⟨l, r, _, g2, g3, g4, g5, g6, _, _, hgone⟩ := h3.record hr
      rw [show cx'.lp j = some (asg, body, w.heap.size + 1) from hlp] at g5
      simp only [Option.some.injEq, Prod.mk.injEq] at g5
      obtain ⟨_, _, rfl⟩ := g5
      refine ⟨_, ⟨_, run_endLoop g2 (by rw [g3]; exact hst), g4⟩, ?_⟩
      obtain ⟨ρ4, I4, F4, hM4, hf4, hs4, _⟩ := hgone { r with state := .exhausted }
      refine ⟨ρ4, I4, F4, ?_, hf4, hs4, by simp [SV.denL]⟩
      exact hM4.lpc (cx := cx') (lp' := cx.lp) (fun i fr ps st pd hi => by
        by_cases e : i = j
        · subst e
          rw [List.getElem?_set_self (by exact (List.getElem?_eq_some_iff.1 hr).1)] at hi
          cases hi
        · show cx.lp i = lp' i
          simp only [lp']
          rw [if_neg e])
    unfold rangePost
    split at hk
    · rename_i fr ps' hr
      obtain ⟨w4, ⟨jump, h4, h5⟩, h6⟩ := back _ _ _ _ hr (by simp)
      subst h5
      exact ⟨_, w4, h4, hq .normal _ _ _ h6 hk⟩
    · rename_i fr ps' e hr
      obtain ⟨w4, ⟨jump, h4, h5⟩, h6⟩ := back _ _ _ _ hr (by simp)
      subst h5
      refine ⟨_, w4, h4, ?_⟩
      cases e with
      | normal => exact hk.elim
      | ret => exact wpIn_ret (hq .ret _ _ _ h6 hk)
      | exit id => exact wpIn_exit (hq (.exit id) _ _ _ h6 hk)
    · exact hk.elim

theorem loop_ok {S : St} {a : Act} {w : World} {r : Option Nat} {n : Nat} {c : Code} {L : LoopSpec} {K : X → St → Prop} {Q : Exit → Act → World → Prop} {vcc : St → (X → St → Prop) → Prop}
    (h : Ok cx S a w sv [] [])
    (hv : ∃ x0, L.inv x0 ∧ vLe (L.pre S) (headSt c (L.pre S) (L.ov x0) (L.rov x0)) ∧
          ∀ x, L.inv x → vcc (headSt c (L.pre S) (L.ov x) (L.rov x)) fun e S' => match e with
            | .normal => ∃ x', L.inv x' ∧ L.meas x' < L.meas x ∧ vLe (L.back S') (headSt c (L.pre S) (L.ov x') (L.rov x'))
            | e => K e S')
    (hc : ∀ (x : L.α) (a1 : Act) (w1 : World) (K : X → St → Prop) (Q : Exit → Act → World → Prop), Ok cx (headSt c (L.pre S) (L.ov x) (L.rov x)) a1 w1 sv [] [] → vcc (headSt c (L.pre S) (L.ov x) (L.rov x)) K →
      (∀ e S' a' w', Ok cx S' a' w' sv [] [] → K e S' → Q e.out a' w') → c.wpIn (Wf r) n P Q a1 w1)
    (hq : ∀ e S' a' w', Ok cx S' a' w' sv [] [] → K e S' → Q e.out a' w') : (Code.loop c).wpIn (Wf r) n P Q a w := by
  obtain ⟨x0, h0, hle, hround⟩ := hv
  refine wpIn_loop_ghost (fun x a w => L.inv x ∧ Ok cx (headSt c (L.pre S) (L.ov x) (L.rov x)) a w sv [] []) L.meas x0 ⟨h0, (dfS_ok (frzS_ok L.fz (nilS_ok L.nil (hdS_ok L.hd (pushFams_ok L.fm h))))).weaken (vLe_st hle)⟩ ?_
  rintro x a1 w1 ⟨hx, h1⟩
  refine hc x a1 w1 _ _ h1 (hround x hx) (fun e S' a' w' h' hk => ?_)
  cases e with
  | normal =>
    obtain ⟨x', g1, g2, g3⟩ := hk
    refine ⟨x', ⟨g1, Ok.weaken (S := L.back _) ?_ (vLe_st g3)⟩, g2⟩
    unfold LoopSpec.back
    cases L.df with
    | true => exact mgS_ok (cutS_ok L.ct (mvS_ok L.mv (frzS_ok L.fz h')))
    | false => exact cutS_ok L.ct (mvS_ok L.mv (frzS_ok L.fz h'))
  | exit id => exact hq _ S' a' w' h' hk
  | ret => exact hq _ S' a' w' h' hk

theorem unr_ok {a : Act} {w : World} {r : Option Nat} {c : Code} {K : X → St → Prop} {Q : Exit → Act → World → Prop} {b : St → (X → St → Prop) → Prop} {m : Nat}
    (hb : ∀ (S : St) (a1 : Act) (w1 : World) (K : X → St → Prop) (Q : Exit → Act → World → Prop), Ok cx S a1 w1 sv [] [] → b S K → (∀ e S' a' w', Ok cx S' a' w' sv [] [] → K e S' → Q e.out a' w') → c.wpIn (Wf r) m P Q a1 w1)
    (hq : ∀ e S' a' w', Ok cx S' a' w' sv [] [] → K e S' → Q e.out a' w') {n : Nat} {S : St} (h : Ok cx S a w sv [] []) (hv : unr b K n S) : (Code.loop c).wpIn (Wf r) m P Q a w := by
  refine wpIn_loop_ghost (fun n a w => ∃ S, Ok cx S a w sv [] [] ∧ unr b K n S) id n ⟨S, h, hv⟩ ?_
  rintro n a1 w1 ⟨S, h1, h2⟩
  cases n with
  | zero => exact h2.elim
  | succ n =>
    simp only [unr, St.force_eq] at h2
    refine hb S a1 w1 _ _ h1 h2 (fun e S' a' w' h' hk => ?_)
    cases e with
    | normal => exact ⟨n, ⟨S', h', hk⟩, Nat.lt_succ_self n⟩
    | exit id => exact hq _ S' a' w' h' hk
    | ret => exact hq _ S' a' w' h' hk

theorem vc_sound (hE : E.ok P) (hmix : P.follows .mixedOrders = true) : (c : Code) → ∀ (cx : Cx) (sv : List Act) (φ : Cx → Prop) (_ : φ cx) (_ : ∀ Y', E.y = some Y' → YOk P φ Y') (r : Option Nat) (n : Nat) (rd : Bool) (_ : rd = false → r = none)
    (S : St) (a : Act) (w : World) (K : X → St → Prop) (Q : Exit → Act → World → Prop),
    Ok cx S a w sv [] [] → vc P E c rd S K → (∀ e S' a' w', Ok cx S' a' w' sv [] [] → K e S' → Q e.out a' w') → c.wpIn (Wf r) n P Q a w
  | .skip, cx, sv, φ, hφ, hy, r, n, rd, hrd, S, a, w, K, Q, h, hv, hq => wpIn_skip (hq .normal S a w h hv)
  | .region _ ops dr, cx, sv, φ, hφ, hy, r, n, rd, hrd, S, a, w, K, Q, h, hv, hq => vreg_sound (Env.specs_ok hE) hE.pure hE.read hφ hy hmix h hv (hq .normal)
  | .seq x y, cx, sv, φ, hφ, hy, r, n, rd, hrd, S, a, w, K, Q, h, hv, hq => by
    unfold vc at hv
    refine wpIn_seq (vc_sound hE hmix x cx sv φ hφ hy r n rd hrd S a w _ _ h hv (fun e S' a' w' h' hk => ?_))
    cases e with
    | normal => exact vc_sound hE hmix y cx sv φ hφ hy r n rd hrd S' a' w' K Q h' hk hq
    | exit id => exact hq _ S' a' w' h' hk
    | ret => exact hq _ S' a' w' h' hk
  | .cond c x y, cx, sv, φ, hφ, hy, r, n, rd, hrd, S, a, w, K, Q, h, hv, hq => by
    unfold vc at hv
    split at hv
    · rename_i hc
      obtain ⟨ρ, I, F, hM, hf, hs, hd⟩ := h
      have hev := Fr.ev_den hf c
      rw [hc] at hev
      unfold SV.den at hev
      exact wpIn_cond_true hev (vc_sound hE hmix x cx sv φ hφ hy r n rd hrd S a w K Q ⟨ρ, I, F, hM, hf, hs, hd⟩ hv hq)
    · rename_i hc
      obtain ⟨ρ, I, F, hM, hf, hs, hd⟩ := h
      have hev := Fr.ev_den hf c
      rw [hc] at hev
      unfold SV.den at hev
      exact wpIn_cond_false hev (vc_sound hE hmix y cx sv φ hφ hy r n rd hrd S a w K Q ⟨ρ, I, F, hM, hf, hs, hd⟩ hv hq)
    · rename_i b hc
      obtain ⟨h1, h2⟩ := know_ok h hc
      split at hv
      · cases b with
        | true => exact wpIn_cond_true h2 (vc_sound hE hmix x cx sv φ hφ hy r n rd hrd _ a w K Q h1 hv hq)
        | false => exact wpIn_cond_false h2 (vc_sound hE hmix y cx sv φ hφ hy r n rd hrd _ a w K Q h1 hv hq)
      · cases b with
        | true => exact wpIn_cond_true h2 (vc_sound hE hmix x cx sv φ hφ hy r n rd hrd _ a w K Q h1 (hv.1 rfl) hq)
        | false => exact wpIn_cond_false h2 (vc_sound hE hmix y cx sv φ hφ hy r n rd hrd _ a w K Q h1 (hv.2 rfl) hq)
    · exact hv.elim
  | .block id c, cx, sv, φ, hφ, hy, r, n, rd, hrd, S, a, w, K, Q, h, hv, hq => by
    unfold vc at hv
    refine wpIn_block (vc_sound hE hmix c cx sv φ hφ hy r n rd hrd S a w _ _ h hv (fun e S' a' w' h' hk => ?_))
    cases e with
    | normal => exact hq .normal S' a' w' h' hk
    | exit i =>
      simp only [X.out, Exit.inBlock]
      by_cases e : i = id
      · subst e
        rw [if_pos rfl]
        simp only [Nat.beq_refl, cond_true] at hk
        exact hq .normal S' a' w' h' hk
      · rw [if_neg e]
        have e' : Nat.beq i id = false := by
          cases hb : Nat.beq i id with
          | true => exact absurd (Nat.eq_of_beq_eq_true hb) e
          | false => rfl
        simp only [e', cond_false] at hk
        exact hq (.exit i) S' a' w' h' hk
    | ret => exact hq .ret S' a' w' h' hk
  | .loop c, cx, sv, φ, hφ, hy, r, n, rd, hrd, S, a, w, K, Q, h, hv, hq => by
    unfold vc at hv
    split at hv
    · rename_i key hkey
      split at hv
      · split at hv
        · rename_i f hf L hL
          exact loop_ok (vcc := fun S K => S.force fun S1 => vc P E c rd S1 K) h hv (fun x a1 w1 K Q h1 hk hq => vc_sound hE hmix c cx sv φ hφ hy r n rd hrd _ a1 w1 K Q h1 (by rw [St.force_eq] at hk; exact hk) hq) hq
        · exact hv.elim
      · exact unr_ok (fun S1 a1 w1 K Q h1 hk hq => vc_sound hE hmix c cx sv φ hφ hy r n rd hrd S1 a1 w1 K Q h1 hk hq) hq h hv
    · exact hv.elim
  | .rangeFunc g ps asg body, cx, sv, φ, hφ, hy, r, n, rd, hrd, S, a, w, K, Q, h, hv, hq => by
    unfold vc at hv
    split at hv
    · rename_i hEy
      split at hv
      · rename_i f caps hg
        split at hv
        · rename_i T hT
          obtain rfl := hrd rfl
          obtain ⟨hbody, hspec⟩ := hE.over f T hT
          have hround : ∀ (c : Code), (∀ (cx : Cx) (sv : List Act) (φ : Cx → Prop) (_ : φ cx) (_ : ∀ Y', E.y = some Y' → YOk P φ Y') (r : Option Nat) (n : Nat) (rd : Bool) (_ : rd = false → r = none)
              (S : St) (a : Act) (w : World) (K : X → St → Prop) (Q : Exit → Act → World → Prop), Ok cx S a w sv [] [] → vc P E c rd S K → (∀ e S' a' w', Ok cx S' a' w' sv [] [] → K e S' → Q e.out a' w') → c.wpIn (Wf r) n P Q a w) →
              ∀ (cx : Cx) (sv : List Act) (l : Nat) (n : Nat) (S : St) (a : Act) (w : World) (K : X → St → Prop) (Q : Exit → Act → World → Prop), Ok cx S a w sv [] [] → vc P E c true S K → (∀ e S' a' w', Ok cx S' a' w' sv [] [] → K e S' → Q e.out a' w') → c.wpIn (Wf (some l)) n P Q a w :=
            fun c hc cx sv l n S a w K Q h hv hq => hc cx sv (fun _ => True) trivial (fun Y' e => by rw [hEy] at e; cases e) (some l) n true (fun e => by cases e) S a w K Q h hv hq
          have hY := rnd_ok (P := P) (j := S.res.length + 1) (hround asg (vc_sound hE hmix asg)) (hround body (vc_sound hE hmix body))
          refine rangeFunc_ok h hg hbody (hspec _ _ hY) hv (fun e S' a' w' h' hk => hq e S' a' w' h' hk)
        · exact hv.elim
      · exact hv.elim
    · exact hv.elim
  | .exit id, cx, sv, φ, hφ, hy, r, n, rd, hrd, S, a, w, K, Q, h, hv, hq => wpIn_exit (hq (.exit id) S a w h hv)
  | .ret, cx, sv, φ, hφ, hy, r, n, rd, hrd, S, a, w, K, Q, h, hv, hq => wpIn_ret (hq .ret S a w h hv)
  | .scope _, cx, sv, φ, hφ, hy, r, n, rd, hrd, S, a, w, K, Q, h, hv, hq => by unfold vc at hv; exact hv.elim
  | .label _, cx, sv, φ, hφ, hy, r, n, rd, hrd, S, a, w, K, Q, h, hv, hq => by unfold vc at hv; exact hv.elim
  | .goto _, cx, sv, φ, hφ, hy, r, n, rd, hrd, S, a, w, K, Q, h, hv, hq => by unfold vc at hv; exact hv.elim
  | .refuse _, cx, sv, φ, hφ, hy, r, n, rd, hrd, S, a, w, K, Q, h, hv, hq => by unfold vc at hv; exact hv.elim
end

/-! ### Results, and contracts -/
def retS (P : Program) (S : St) : List ResultVar → (List SV → Prop) → Prop
  | [], k => k []
  | .tmp t :: l, k => retS P S l fun ss => k (getT S.fr.tm t :: ss)
  | .cell p ty :: l, k => sload P S ty (getT S.fr.tm p) fun s => retS P S l fun ss => k (s :: ss)

def resSV : List SV → SV
  | [s] => s
  | ss => .tup ss

section
variable {P : Program} {E : Env} {cx : Cx} {sv : List Act} {S : St} {ρ : List Value} {I : Nat → Prop} {F : Nat → Nat → Prop} {w : World} {a : Act}

theorem load_ptr {t : TypeId} {v v' : Value} {w' : World} (h : (Instr.loadAt t v).run P w' = .ok v' w') : (do loadVar t (← asAddr v) : Sem Value).run P w' = .ok v' w' := by
  cases v with
  | pointer ad =>
    cases ad with
    | some ad => simpa [Instr.loadAt, Instr.sureAddr, asAddr] using h
    | none => simp [Instr.loadAt, Instr.sureAddr] at h
  | _ => simp [Instr.loadAt, Instr.sureAddr] at h

def resOne (tmps : Array Value) : ResultVar → Sem Value
  | .tmp t => pure (tmps.getD t Go.undef)
  | .cell p t => do loadVar t (← asAddr (tmps.getD p Go.undef))

theorem results_eq (fn : Func) (tmps : Array Value) : results fn tmps = (do let vs ← fn.results.mapM (resOne tmps); pure (if h : vs.size = 1 then vs[0] else .tuple vs)) := by
  unfold results
  have : (fun (x : ResultVar) => (match x with | .tmp t => pure (tmps.getD t Go.undef) | .cell p t => do loadVar t (← asAddr (tmps.getD p Go.undef)) : Sem Value)) = resOne tmps := by
    funext x; cases x <;> rfl
  rw [← this]
  rfl

theorem retS_sound (hM : Mem cx S.res ρ I F w) (hf : FrOk ρ I w S.fr a) : (l : List ResultVar) → (k : List SV → Prop) → retS P S l k →
    ∃ vs ss, SV.denL ρ I w ss vs ∧ k ss ∧ (l.mapM (resOne a.tmps)).run P w = .ok vs w
  | [], k, h => ⟨[], [], by simp [SV.denL], h, by simp⟩
  | .tmp t :: l, k, h => by
    simp only [retS] at h
    obtain ⟨vs, ss, h1, h2, h3⟩ := retS_sound hM hf l _ h
    refine ⟨a.tmps.getD t Go.undef :: vs, _, ?_, h2, ?_⟩
    · unfold SV.denL; exact ⟨_, _, rfl, hf.2.1 t, h1⟩
    · simp only [List.mapM_cons, resOne, Sem.run_bind, Sem.run_pure, Result.andThen_ok, h3]
  | .cell p ty :: l, k, h => by
    simp only [retS] at h
    obtain ⟨v', s, g1, g2, g3⟩ := sload_sound hM (hf.2.1 p) h
    obtain ⟨vs, ss, h1, h2, h3⟩ := retS_sound hM hf l _ g2
    refine ⟨v' :: vs, _, ?_, h2, ?_⟩
    · unfold SV.denL; exact ⟨_, _, rfl, g1, h1⟩
    · have := load_ptr (P := P) (g3 w (Same.refl w))
      simp only [List.mapM_cons, resOne]
      rw [Sem.run_bind, this]
      simp only [Result.andThen_ok, Sem.run_bind, h3, Sem.run_pure]

theorem results_of (fn : Func) {vs : List Value} (h : (fn.results.toList.mapM (resOne a.tmps)).run P w = .ok vs w) :
    (results fn a.tmps).run P w = .ok (if h : vs.toArray.size = 1 then vs.toArray[0] else .tuple vs.toArray) w := by
  rw [results_eq, Array.mapM_eq_mapM_toList]
  simp only [Sem.run_bind, Sem.run_map]
  rw [h]
  simp

theorem resSV_den {ss : List SV} {vs : List Value} (h : SV.denL ρ I w ss vs) : SV.den ρ I w (resSV ss) (if h : vs.toArray.size = 1 then vs.toArray[0] else .tuple vs.toArray) := by
  have hl := SV.denL_length ss h
  match ss, vs, h, hl with
  | [], [], h, _ => simp only [resSV]; unfold SV.den; exact ⟨[], by simp, by simp [SV.denL]⟩
  | [s], [v], h, _ =>
    unfold SV.denL at h
    obtain ⟨v', vs', e, h1, _⟩ := h
    simp only [List.cons.injEq] at e
    obtain ⟨rfl, _⟩ := e
    simpa [resSV] using h1
  | s :: s' :: ss, v :: v' :: vs, h, _ =>
    simp only [resSV]
    unfold SV.den
    refine ⟨v :: v' :: vs, by simp, h⟩

/-- The block of a loop over a function is shut as the function leaves. -/
def popD : Nat → St → (St → Prop) → Prop
  | 0, _, _ => False
  | n + 1, S, k => match S.fr.dfr with
    | [] => k S
    | i :: l => match S.res[i]? with
      | some .dfr => popD n { S with fr := { S.fr with dfr := l }, res := S.res.set i .gone } k
      | some .dfrs => popD n { S with fr := { S.fr with dfr := l }, res := S.res.set i .gone } k
      | _ => False

theorem popD_sound {fn : Func} {n : Nat} {R : Ending → World → Prop} (k : St → Prop) : (m : Nat) → (S : St) → (w : World) → (ds : List Deferred) → (a : Act) → a.defers = ds → Ok cx S a w sv [] [] → popD m S k →
    (∀ S' w', Ok cx S' { a with defers := [] } w' sv [] [] → k S' → ∃ v, (results fn a.tmps).run P w' = .ok v w' ∧ R (.returned v) w') → LeavesInM (Wf none) n P fn a.tmps R ds .returning w
  | 0, S, w, ds, a, hds, h, hk, hq => by simp [popD] at hk
  | m + 1, S, w, ds, a, hds, h, hk, hq => by
    simp only [popD] at hk
    obtain ⟨ρ, I, F, hM, hf, hs, hd⟩ := h
    split at hk
    · rename_i e
      have hdf := hf.2.2
      rw [e, hds] at hdf
      have hde : ds = [] := hdf
      subst hde
      unfold LeavesInM LeavesIn
      exact hq S w ⟨ρ, I, F, hM, ⟨hf.1, hf.2.1, by rw [e]; rfl⟩, hs, hd⟩ hk
    · rename_i i l e
      split at hk
      · rename_i hr
        have hdf := hf.2.2
        rw [e, hds] at hdf
        obtain ⟨Ds, ds', v, e2, ⟨hv, hDV⟩, hrest⟩ := hdf
        have hil := (List.getElem?_eq_some_iff.1 hr).1
        obtain ⟨D, h1, h2, h3⟩ := hM.holds _ _ hr
        rw [hv] at h1
        cases h1
        obtain rfl := hDV.ptr
        rw [e2]
        show LeavesInM (Wf none) n P fn a.tmps R ({ target := .collected D, args := #[] } :: ds') .returning w
        unfold LeavesInM
        refine ⟨by simp, .inl ⟨D, w.putObj D (.deferred none), rfl, run_takeDeferred h2, ?_⟩⟩
        have hother : ∀ k, k ≠ D → (w.putObj D (.deferred none)).heap[k]? = w.heap[k]? := fun k hk => World.putObj_heap_other hk
        have hsame : ∀ k, I k → (w.putObj D (.deferred none)).heap[k]? = w.heap[k]? := fun k hk => hother k (fun e => hM.notI i k hil ((h3 k).2 e) hk)
        have hM' := Mem.change (w' := w.putObj D (.deferred none)) (ρ' := ρ) hM hil .gone (fun _ => False) id rfl hM.ones (fun k _ hnf => hother k (fun e => hnf ((h3 k).2 e))) (by simp [World.putObj]) rfl rfl rfl (fun k hk => hk.elim)
          (fun j y hji hy hh => Res.keep (fun _ _ h => h) (fun _ h => h) hsame (fun k hk => hother k (fun e => hM.apart j i k (List.getElem?_eq_some_iff.1 hy).1 hil hji hk ((h3 k).2 e))) y hh) (fun k hk => hk)
        rw [List.map_id] at hM'
        have hok : Ok cx { S with fr := { S.fr with dfr := l }, res := S.res.set i .gone } { a with defers := ds' } (w.putObj D (.deferred none)) sv [] [] :=
          ⟨ρ, I, _, hM', ⟨hf.1, fun t => SV.den_keep (fun _ _ h => h) (fun _ h => h) hsame _ (hf.2.1 t), hrest⟩, StkOk.keep (fun _ _ h => h) (fun _ h => h) hsame _ hs, by simp [SV.denL]⟩
        exact popD_sound k m _ _ ds' { a with defers := ds' } rfl hok hk hq
      · rename_i hr
        have hdf := hf.2.2
        rw [e, hds] at hdf
        obtain ⟨Ds, ds', v, e2, ⟨hv, hDV⟩, hrest⟩ := hdf
        have hil := (List.getElem?_eq_some_iff.1 hr).1
        obtain ⟨Es, h1, h2, h3, h4⟩ := hM.holds _ _ hr
        rw [hv] at h1
        cases h1
        obtain rfl := hDV.bun
        rw [e2]
        have hMj : Mem cx (S.res.set i .junk) ρ I F w := hM.reholds (fun _ => trivial)
        refine leave_bun (S := { fr := { S.fr with dfr := l }, stk := S.stk, res := S.res.set i .junk }) (a := { a with defers := ds' }) (i := i) (by simpa using hil) (List.getElem?_set_self hil) (fun w2 h5 => ?_) Ds w h3 hMj ⟨hf.1, hf.2.1, hrest⟩ hs (fun D hD => ⟨(h4 D).2 hD, h2 D hD⟩)
        simp only [List.set_set] at h5
        exact popD_sound k m _ w2 ds' { a with defers := ds' } rfl h5 hk hq
      · exact hk.elim

def argT : Nat → List SV → List (Nat × SV)
  | _, [] => []
  | i, s :: ss => (i, s) :: argT (i + 1) ss

theorem argT_den : (i : Nat) → (ss : List SV) → (vs : List Value) → SV.denL ρ I w ss vs → ∀ t, SV.den ρ I w (getT (argT i ss) t) (if i ≤ t then (vs[t - i]?).getD Go.undef else Go.undef)
  | i, [], vs, h, t => by simp [argT, getT, SV.den]
  | i, s :: ss, vs, h, t => by
    unfold SV.denL at h
    obtain ⟨v, vs', rfl, h1, h2⟩ := h
    simp only [argT, getT]
    by_cases e : i = t
    · subst e; simp; exact h1
    · have e' : (i == t) = false := by simpa using e
      rw [e']; simp only [cond_false]
      have := argT_den (i + 1) ss vs' h2 t
      by_cases hlt : i ≤ t
      · rw [if_pos hlt]
        rw [if_pos (by omega)] at this
        have h3 : t - i = (t - (i + 1)) + 1 := by omega
        rw [h3]; simpa using this
      · rw [if_neg hlt]
        rw [if_neg (by omega)] at this
        exact this

/-- The callee's state as it begins. -/
def enterS (n : Nat) (ss : List SV) (S : St) : St := { fr := { n := n, tm := argT 0 ss }, stk := S.fr :: S.stk, res := S.res }

def St.withC (S : St) (cs : List Nat) : St := { S with fr := { S.fr with cs := cs } }
/-- What is left to be shown of a function's call. -/
def fvc (P : Program) (E : Env) (fn : Func) (c : Code) (ss : List SV) (S : St) (K : SV → St → Prop) : Prop :=
  ((enterS fn.ntmps ss S).withC E.cs).force fun S0 => vc P { E with live := liveF fn c } c false S0 fun e S' => match e with
    | .exit _ => False
    | _ => popD 9 S' fun S2 => retS P S2 fn.results.toList fun rs => leaveS S2 fun S3 => K (resSV rs) S3

theorem fvc_sound (hE : E.ok P) (hmix : P.follows .mixedOrders = true) {φ : Cx → Prop} (hφ : φ cx) (hy : ∀ Y', E.y = some Y' → YOk P φ Y') {f : FuncId} {fn : Func} {c : Code} (hf : P.funcs[f]? = some fn) (hb : fn.body = some c) {ss : List SV} {vs : List Value} {K : SV → St → Prop}
    (h : Ok cx S a w sv ss vs) (hlen : ss.length ≤ fn.ntmps) (hv : fvc P E fn c ss S K) :
    Calls P f vs.toArray w fun e w' => ∃ v s S', e = .returned v ∧ Ok cx S' a w' sv [s] [v] ∧ K s S' := by
  obtain ⟨ρ, I, F, hM, hfr, hs, hd⟩ := h
  have hl := SV.denL_length ss hd
  refine (callsIn_wide (n := 0)).1 (callsIn_of_wp_marks (F := Wf none) (n := 0) hf hb trivial ?_ rfl)
  have hen : Ok cx ((enterS fn.ntmps ss S).withC E.cs) { tmps := vs.toArray ++ Array.replicate (fn.ntmps - vs.toArray.size) Go.undef, defers := [] } w (a :: sv) [] [] := by
    refine ⟨ρ, I, F, hM, ⟨?_, fun t => ?_, rfl⟩, ⟨a, sv, rfl, hfr, hs⟩, by simp [SV.denL]⟩
    · simp [enterS, St.withC]; omega
    · have := argT_den 0 ss vs hd t
      simp only [Nat.zero_le, if_true, Nat.sub_zero] at this
      simp only [enterS, St.withC]
      rw [Array.getD_eq_getD_getElem?, Array.getElem?_append]
      split
      · rename_i hlt
        simpa using this
      · rename_i hge
        simp only [List.size_toArray] at hge
        have e1 : vs[t]? = none := List.getElem?_eq_none (by omega)
        rw [e1] at this
        have e2 : ((Array.replicate (fn.ntmps - vs.toArray.size) Go.undef)[t - vs.toArray.size]?).getD Go.undef = Go.undef := by
          rw [Array.getElem?_replicate]; split <;> rfl
        rw [e2]; simpa using this
  unfold fvc at hv
  rw [St.force_eq] at hv
  refine vc_sound (E := { E with live := liveF fn c }) ⟨hE.pure, hE.eff, hE.read, hE.over⟩ hmix c cx (a :: sv) φ hφ hy none 0 false (fun _ => rfl) ((enterS fn.ntmps ss S).withC E.cs) _ w _ _ hen hv (fun e S' a' w' h' hk => ?_)
  have fin : popD 9 S' (fun S2 => retS P S2 fn.results.toList fun rs => leaveS S2 fun S3 => K (resSV rs) S3) → LeavesInM (Wf none) 0 P fn a'.tmps (fun e w' => ∃ v s S', e = .returned v ∧ Ok cx S' a w' sv [s] [v] ∧ K s S') a'.defers .returning w' := by
    intro hp
    refine popD_sound _ 9 S' w' a'.defers a' rfl h' hp (fun S2 w2 h2 hk2 => ?_)
    obtain ⟨ρ2, I2, F2, hM2, hf2, hs2, _⟩ := h2
    obtain ⟨us, rs, g1, g2, g3⟩ := retS_sound (P := P) hM2 hf2 fn.results.toList _ hk2
    refine ⟨_, results_of fn (a := { a' with defers := [] }) g3, ?_⟩
    unfold leaveS at g2
    split at g2
    · rename_i fr l hstk
      rw [hstk] at hs2
      obtain ⟨a1, sv1, e1, k1, k2⟩ := hs2
      cases e1
      exact ⟨_, resSV rs, { fr := fr, stk := l, res := S2.res }, rfl, ⟨ρ2, I2, F2, hM2, k1, k2, by unfold SV.denL; exact ⟨_, [], rfl, resSV_den g1, by simp [SV.denL]⟩⟩, g2⟩
    · exact g2.elim
  cases e with
  | normal => exact fin hk
  | ret => exact fin hk
  | exit id => exact hk.elim

/-- A function that is gone through anew at each call. -/
def inl (P : Program) (E : Env) (fn : Func) (c : Code) : Spec := fun ss S K => match Nat.ble ss.length fn.ntmps with
  | true => fvc P E fn c ss S K
  | false => False

theorem inl_split {P : Program} {E : Env} {fn : Func} {c : Code} {ss : List SV} {S : St} {K : SV → St → Prop} (h : inl P E fn c ss S K) : ss.length ≤ fn.ntmps ∧ fvc P E fn c ss S K := by
  unfold inl at h
  split at h
  · rename_i hb; exact ⟨Nat.le_of_ble_eq_true hb, h⟩
  · exact h.elim

theorem inl_ok (hE : E.ok P) (hy : E.y = none) (hmix : P.follows .mixedOrders = true) {f : FuncId} {fn : Func} {c : Code} (hf : P.funcs[f]? = some fn) (hb : fn.body = some c) : SpecOk P f (inl P E fn c) :=
  fun cx S a w sv ss vs K h hv => fvc_sound hE hmix (φ := fun _ => True) trivial (fun Y e => by rw [hy] at e; cases e) hf hb h (inl_split hv).1 (inl_split hv).2

/-- The same, where a result that is the head of an own row cuts the row there. -/
def inlS (P : Program) (E : Env) (fn : Func) (c : Code) : Spec := fun ss S K => inl P E fn c ss S fun r S' => cutW r S' K

theorem inlS_ok (hE : E.ok P) (hy : E.y = none) (hmix : P.follows .mixedOrders = true) {f : FuncId} {fn : Func} {c : Code} (hf : P.funcs[f]? = some fn) (hb : fn.body = some c) : SpecOk P f (inlS P E fn c) := by
  intro cx S a w sv ss vs K h hv
  refine (inl_ok hE hy hmix hf hb cx S a w sv ss vs _ h hv).mono ?_
  rintro e w' ⟨v, s, S', rfl, h1, h2⟩
  obtain ⟨s2, S2, h3, h4⟩ := cutW_ok h1 h2
  exact ⟨v, s2, S2, rfl, h3, h4⟩

/-- A function that is given a yield, gone through anew at each loop over it. -/
def inlY (P : Program) (E : Env) (fn : Func) (c : Code) : (Nat → Spec) → Spec := fun Y => inl P { E with y := some Y } fn c

theorem inlY_ok (hE : E.ok P) (hmix : P.follows .mixedOrders = true) {f : FuncId} {fn : Func} {c : Code} (hf : P.funcs[f]? = some fn) (hb : fn.body = some c) :
    ∀ φ Y, YOk P φ Y → SpecOkAt P φ f (inlY P E fn c Y) :=
  fun φ Y hY cx S a w sv ss vs K hφ h hv => fvc_sound (E := { E with y := some Y }) ⟨hE.pure, hE.eff, hE.read, hE.over⟩ hmix hφ (fun Y' e => by cases e; exact hY) hf hb h (inl_split hv).1 (inl_split hv).2

def St0 : St := { fr := { n := 0, tm := [] }, stk := [], res := [] }

/-- A contract out of what is left to be shown. -/
theorem pspec_of (hE : E.ok P) (hy : E.y = none) (hmix : P.follows .mixedOrders = true) {f : FuncId} {fn : Func} {c : Code} (hf : P.funcs[f]? = some fn) (hb : fn.body = some c) {q : PSpec}
    (hq : ∀ ss pre s, q ss = some (pre, s) → SV.wfL 0 ss = true ∧ SV.wf 0 s = true ∧ ss.length ≤ fn.ntmps ∧ (pre → fvc P E fn c ss St0 fun r S' => frzL 4 [r] S' fun rs _ => svLeL rs [s])) : PSpecOk P f q := by
  intro ρ I w hI ss vs pre s hd hqs hp
  obtain ⟨w1, w2, hlen, hv⟩ := hq ss pre s hqs
  have hd0 := SV.denL_takeW (m := 0) ss w1 hd
  rw [List.take_zero] at hd0
  have hM : Mem ⟨fun _ => none, I, fun _ => False, w⟩ [] [] I (fun _ _ => False) w :=
    ⟨rfl, fun i v h => by simp at h, fun i r h => by simp at h, fun i j k hi => by simp at hi, fun i k hi => by simp at hi, fun i k hi => by simp at hi, fun i k hi => by simp at hi, fun k h => h, hI, fun k h => .inl h,
      Nat.le_refl _, rfl, rfl, rfl, fun k _ _ => rfl⟩
  have h0 : Ok ⟨fun _ => none, I, fun _ => False, w⟩ St0 ⟨#[], []⟩ w [] ss vs := ⟨[], I, _, hM, ⟨rfl, fun t => by simp [St0, getT, SV.den], rfl⟩, rfl, hd0⟩
  refine (fvc_sound hE hmix (φ := fun _ => True) trivial (fun Y e => by rw [hy] at e; cases e) hf hb h0 hlen (hv hp)).mono ?_
  rintro e w' ⟨v, r, S', rfl, h1, h2⟩
  obtain ⟨rs, S2, h3, h4⟩ := frzL_ok 4 [r] S' [v] _ h1 h2
  obtain ⟨ρ2, I2, F2, hM2, _, _, hd2⟩ := h3
  have hd3 := svLeL_den h4 hd2
  unfold SV.denL at hd3
  obtain ⟨v', vs', e, hd4, _⟩ := hd3
  simp only [List.cons.injEq] at e
  obtain ⟨rfl, _⟩ := e
  refine ⟨v, rfl, ⟨hM2.os, hM2.tape, hM2.output, hM2.size, fun k hk => hM2.frame k hk (fun h => h)⟩, ?_⟩
  have := SV.den_take (m := 0) s w2 hd4
  rw [List.take_zero] at this
  exact SV.den_keep (fun _ _ h => h) (fun k hk => (hM2.Inew k hk).elim .inl (fun h => h.elim (fun h => h.elim) (fun h => .inr ⟨h, hM2.Ilt k hk⟩))) (fun _ _ => rfl) s this
end
end Go.Proofs.Ythoaelmomocohaa.Gx
namespace Go.Proofs.Ythoaelmomocohaa.Gx
open Go.RowKit
set_option linter.unusedSimpArgs false
set_option linter.unusedVariables false

/-- A proposition behind a shut door: nothing looks into it unasked. -/
structure Holds (p : Prop) : Prop where
  h : p

theorem hold {p q : Prop} (h : p = q) (hq : q) : Holds p := ⟨h.symm ▸ hq⟩

def asTy (t : Ty) (s : SV) : Option t.den :=
  match t with
  | .pair a b => match s with
    | .agg cs => match implode (.pair a b) cs with
      | some (x, []) => some x
      | _ => none
    | _ => none
  | t => match implode t [s] with
    | some (x, []) => some x
    | _ => none

def ofTy (t : Ty) (x : t.den) : SV :=
  match t, x with
  | .int k, n => .int k n
  | .bool, b => .bool b
  | .str, s => .str s
  | .slice t, xs => .rs t xs
  | .pair a b, x => .agg (explode (.pair a b) x)
  | .adr T, x => .adr T x
  | .hd e, h => .hd e h

@[reducible] def Den : List Ty → Type
  | [] => Unit
  | t :: ts => t.den × Den ts

def asArgs : (ts : List Ty) → List SV → Option (Den ts)
  | [], ss => match ss with
    | [] => some ()
    | _ => none
  | t :: ts, ss => match ss with
    | s :: ss => match asTy t s with
      | some x => match asArgs ts ss with
        | some y => some (x, y)
        | none => none
      | none => none
    | [] => none

def ofArgs : (ts : List Ty) → Den ts → List SV
  | [], _ => []
  | t :: ts, x => ofTy t x.1 :: ofArgs ts x.2

/-- A function of the data ts that gives rs, where pre holds. -/
def Q (ts rs : List Ty) (pre : Den ts → Bool) (f : Den ts → Den rs) : PSpec := fun ss => match asArgs ts ss with
  | some x => some (pre x = true, resSV (ofArgs rs (f x)))
  | none => none

section
variable {P : Program} {ρ : List Value} {I : Nat → Prop} {w : World}

mutual
theorem wf_explode (m : Nat) : (t : Ty) → (x : t.den) → SV.wfL m (explode t x) = true
  | .int _, _ => by simp [explode, SV.wfL, SV.wf]
  | .bool, _ => by simp [explode, SV.wfL, SV.wf]
  | .str, _ => by simp [explode, SV.wfL, SV.wf]
  | .slice _, _ => by simp [explode, SV.wfL, SV.wf]
  | .pair a b, x => by
    simp only [explode]
    rw [wfL_append, wf_explode m a, wf_explode m b]; rfl
  | .adr _, _ => by simp [explode, SV.wfL, SV.wf]
  | .hd _, _ => by simp [explode, SV.wfL, SV.wf]
theorem wfL_append (m : Nat) : (l k : List SV) → SV.wfL m (l ++ k) = (SV.wfL m l && SV.wfL m k)
  | [], k => by simp [SV.wfL]
  | s :: l, k => by simp only [List.cons_append, SV.wfL, wfL_append m l k, Bool.and_assoc]
end

theorem wf_ofTy (m : Nat) (t : Ty) (x : t.den) : SV.wf m (ofTy t x) = true := by
  cases t <;> simp only [ofTy, SV.wf]
  exact wf_explode m _ x

theorem wf_ofArgs (m : Nat) : (ts : List Ty) → (x : Den ts) → SV.wfL m (ofArgs ts x) = true
  | [], _ => rfl
  | t :: ts, x => by simp [ofArgs, SV.wfL, wf_ofTy, wf_ofArgs m ts]

theorem wf_res (m : Nat) {l : List SV} (h : SV.wfL m l = true) : SV.wf m (resSV l) = true := by
  unfold resSV
  split
  · simpa [SV.wfL] using h
  · simpa [SV.wf] using h

theorem length_ofArgs : (ts : List Ty) → (x : Den ts) → (ofArgs ts x).length = ts.length
  | [], _ => rfl
  | t :: ts, x => by simp [ofArgs, length_ofArgs ts]

theorem asTy_den {t : Ty} {s : SV} {v : Value} {x : t.den} (h : SV.den ρ I w s v) (hx : asTy t s = some x) : SV.den ρ I w (ofTy t x) v := by
  have base : ∀ (t : Ty) (x : t.den), (match implode t [s] with | some (x, []) => some x | _ => none) = some x → explode t x = [ofTy t x] → SV.den ρ I w (ofTy t x) v := by
    intro t x h2 he
    split at h2
    · rename_i y hy
      cases h2
      obtain ⟨c1, c2, e, h1, h2⟩ := implode_den t (l := [s]) (vs := [v]) (by unfold SV.denL; exact ⟨v, [], rfl, h, by simp [SV.denL]⟩) hy
      unfold SV.denL at h2
      subst h2
      rw [List.append_nil] at e
      subst e
      have := explode_den (ρ := ρ) t h1
      rw [he] at this
      unfold SV.denL at this
      obtain ⟨u, us, e, h3, _⟩ := this
      cases e
      exact h3
    · cases h2
  cases t with
  | pair a b =>
    simp only [asTy] at hx
    split at hx
    · rename_i cs
      split at hx
      · rename_i y hy
        cases hx
        unfold SV.den at h
        obtain ⟨vs, rfl, h1⟩ := h
        obtain ⟨c1, c2, rfl, h2, h3⟩ := implode_den _ h1 hy
        unfold SV.denL at h3
        subst h3
        simp only [ofTy]
        unfold SV.den
        exact ⟨c1, by simp, explode_den _ h2⟩
      · cases hx
    · cases hx
  | int k => exact base _ _ hx rfl
  | bool => exact base _ _ hx rfl
  | str => exact base _ _ hx rfl
  | adr T => exact base _ _ hx rfl
  | hd e => exact base _ _ hx rfl
  | slice t => exact base _ _ hx rfl

theorem asArgs_den : (ts : List Ty) → {ss : List SV} → {vs : List Value} → {x : Den ts} → SV.denL ρ I w ss vs → asArgs ts ss = some x → SV.denL ρ I w (ofArgs ts x) vs
  | [], ss, vs, x, h, hx => by
    simp only [asArgs] at hx
    split at hx
    · exact h
    · cases hx
  | t :: ts, ss, vs, x, h, hx => by
    simp only [asArgs] at hx
    split at hx
    · split at hx
      · rename_i s ss y hy
        split at hx
        · rename_i z hz
          cases hx
          unfold SV.denL at h
          obtain ⟨v, vs', rfl, h1, h2⟩ := h
          simp only [ofArgs]
          unfold SV.denL
          exact ⟨v, vs', rfl, asTy_den h1 hy, asArgs_den ts h2 hz⟩
        · cases hx
      · cases hx
    · cases hx

/-- Lengths within the machine's bounds. -/
def Sane : (t : Ty) → t.den → Prop
  | .int _, _ => True
  | .bool, _ => True
  | .str, s => s.size ≤ maxLen
  | .slice t, xs => xs.length ≤ maxLen ∧ ∀ (i : Nat) (x : t.den), xs[i]? = some x → Sane t x
  | .pair a b, x => Sane a x.1 ∧ Sane b x.2
  | .adr _, _ => True
  | .hd _, _ => True

def SaneL : (ts : List Ty) → Den ts → Prop
  | [], _ => True
  | t :: ts, x => Sane t x.1 ∧ SaneL ts x.2

theorem Rd.sane : (t : Ty) → {x : t.den} → {cs : List Value} → Rd I w t x cs → Sane t x
  | .int _, _, _, _ => trivial
  | .bool, _, _, _ => trivial
  | .str, _, _, h => h.2
  | .slice t, xs, _, h => by
    obtain ⟨A, c, _, h1, h2, h3⟩ := h
    exact ⟨Nat.le_trans h1 h2, fun i x hx => by obtain ⟨ad, cells, _, _, hr, _⟩ := h3 i x hx; exact Rd.sane t hr⟩
  | .pair a b, x, _, h => by
    obtain ⟨c1, c2, _, h1, h2⟩ := h
    exact ⟨Rd.sane a h1, Rd.sane b h2⟩
  | .adr _, _, _, _ => trivial
  | .hd _, _, _, _ => trivial

theorem denL_split : (l k : List SV) → {vs : List Value} → SV.denL ρ I w (l ++ k) vs → ∃ v1 v2, SV.denL ρ I w l v1 ∧ SV.denL ρ I w k v2
  | [], k, vs, h => ⟨[], vs, by simp [SV.denL], h⟩
  | s :: l, k, vs, h => by
    simp only [List.cons_append] at h
    unfold SV.denL at h
    obtain ⟨v, vs', rfl, h1, h2⟩ := h
    obtain ⟨v1, v2, h3, h4⟩ := denL_split l k h2
    refine ⟨v :: v1, v2, ?_, h4⟩
    unfold SV.denL
    exact ⟨v, v1, rfl, h1, h3⟩

theorem explode_sane : (t : Ty) → {x : t.den} → {vs : List Value} → SV.denL ρ I w (explode t x) vs → Sane t x
  | .int _, _, _, _ => trivial
  | .bool, _, _, _ => trivial
  | .str, _, _, h => by
    simp only [explode] at h
    unfold SV.denL at h
    obtain ⟨v, vs', _, h1, _⟩ := h
    unfold SV.den at h1
    exact h1.2
  | .slice t, xs, _, h => by
    simp only [explode] at h
    unfold SV.denL at h
    obtain ⟨v, vs', _, h1, _⟩ := h
    unfold SV.den at h1
    exact Rd.sane (.slice t) h1
  | .pair a b, x, _, h => by
    simp only [explode] at h
    obtain ⟨v1, v2, h1, h2⟩ := denL_split _ _ h
    exact ⟨explode_sane a h1, explode_sane b h2⟩
  | .adr _, _, _, _ => trivial
  | .hd _, _, _, _ => trivial

theorem ofTy_sane {t : Ty} {x : t.den} {v : Value} (h : SV.den ρ I w (ofTy t x) v) : Sane t x := by
  cases t with
  | pair a b =>
    simp only [ofTy] at h
    unfold SV.den at h
    obtain ⟨vs, _, h⟩ := h
    exact explode_sane _ h
  | int k => trivial
  | bool => trivial
  | adr T => trivial
  | hd e => trivial
  | str => simp only [ofTy] at h; unfold SV.den at h; exact h.2
  | slice t => simp only [ofTy] at h; unfold SV.den at h; exact Rd.sane (.slice t) h

theorem ofArgs_sane : (ts : List Ty) → {x : Den ts} → {vs : List Value} → SV.denL ρ I w (ofArgs ts x) vs → SaneL ts x
  | [], _, _, _ => trivial
  | t :: ts, x, vs, h => by
    simp only [ofArgs] at h
    unfold SV.denL at h
    obtain ⟨v, vs', _, h1, h2⟩ := h
    exact ⟨ofTy_sane h1, ofArgs_sane ts h2⟩

/-- Of what a function has shown of it, as it returns. -/
def gives (rs : List Ty) (y : Den rs) : SV → St → Prop := fun r S => frzL 4 [r] S fun us _ => svLeL us [resSV (ofArgs rs y)]

theorem pspec_Q (hmix : P.follows .mixedOrders = true) {f : FuncId} {fn : Func} {c : Code} (hf : P.funcs[f]? = some fn) (hb : fn.body = some c) (ts rs : List Ty) {pre : Den ts → Bool} {g : Den ts → Den rs} (hlen : Nat.ble ts.length fn.ntmps = true)
    (h : ∀ x : Den ts, SaneL ts x → pre x = true → ∃ E : Env, E.ok P ∧ E.y = none ∧ Holds (fvc P E fn c (ofArgs ts x) St0 (gives rs (g x)))) : PSpecOk P f (Q ts rs pre g) := by
  intro ρ I w hI ss vs p s hd hqs hp
  unfold Q at hqs
  split at hqs
  · rename_i x hx
    simp only [Option.some.injEq, Prod.mk.injEq] at hqs
    obtain ⟨rfl, rfl⟩ := hqs
    obtain ⟨E, hE, hy, ⟨hv⟩⟩ := h x (ofArgs_sane ts (asArgs_den ts hd hx)) hp
    classical
    refine pspec_of (q := fun ss => if ss = ofArgs ts x then some (True, resSV (ofArgs rs (g x))) else none) hE hy hmix hf hb (fun ss' pre' s' hq => ?_) ρ I w hI (ofArgs ts x) vs True (resSV (ofArgs rs (g x))) (asArgs_den ts hd hx) (by simp) trivial
    split at hq
    · rename_i e
      subst e
      simp only [Option.some.injEq, Prod.mk.injEq] at hq
      obtain ⟨rfl, rfl⟩ := hq
      exact ⟨wf_ofArgs 0 ts x, wf_res 0 (wf_ofArgs 0 rs _), by rw [length_ofArgs]; exact Nat.le_of_ble_eq_true hlen, fun _ => hv⟩
    · cases hq
  · cases hqs

/-! ### Tables -/
def tab {α : Type _} : List (Nat × α) → Nat → Option α
  | [], _ => none
  | (i, x) :: l, f => match Nat.beq f i with
    | true => some x
    | false => tab l f

/-- A contract that is proved. -/
structure Pv (P : Program) where
  f : FuncId
  q : PSpec
  ok : hasBody P f = true ∧ PSpecOk P f q

structure Sv (P : Program) where
  f : FuncId
  s : Spec
  ok : hasBody P f = true ∧ SpecOk P f s

/-- One that may be gone through where it only reads, too. -/
structure Kv (P : Program) where
  f : FuncId
  k : Kap
  ok : hasBody P f = true ∧ SpecOk P f k.sp
  cl : ∀ N, k.nw = some N → NewOk P f N
  rd : ∀ R, k.rd = some R → ReadsOk P f R

def kiT {P : Program} : List (Kv P) → Kaps
  | [], _ => none
  | p :: l, f => match Nat.beq f p.f with
    | true => some p.k
    | false => kiT l f

theorem kiT_ok {P : Program} : (l : List (Kv P)) → (kiT l).ok P
  | [], f, q, h => by cases h
  | p :: l, f, q, h => by
    simp only [kiT] at h
    split at h
    · rename_i e
      cases h
      rw [Nat.eq_of_beq_eq_true e]; exact ⟨p.ok.1, p.ok.2, p.cl, p.rd⟩
    · exact kiT_ok l f q h

structure Iv (P : Program) where
  f : FuncId
  t : (Nat → Spec) → Spec
  ok : hasBody P f = true ∧ ∀ φ Y, YOk P φ Y → SpecOkAt P φ f (t Y)

def piT {P : Program} : List (Pv P) → PSpecs
  | [], _ => none
  | p :: l, f => match Nat.beq f p.f with
    | true => some p.q
    | false => piT l f

def siT {P : Program} : List (Sv P) → Specs
  | [], _ => none
  | p :: l, f => match Nat.beq f p.f with
    | true => some p.s
    | false => siT l f

def itT {P : Program} : List (Iv P) → FuncId → Option ((Nat → Spec) → Spec)
  | [], _ => none
  | p :: l, f => match Nat.beq f p.f with
    | true => some p.t
    | false => itT l f

theorem piT_ok : (l : List (Pv P)) → (piT l).ok P
  | [], f, q, h => by cases h
  | p :: l, f, q, h => by
    simp only [piT] at h
    split at h
    · rename_i e
      cases h
      rw [Nat.eq_of_beq_eq_true e]; exact p.ok
    · exact piT_ok l f q h

theorem siT_ok : (l : List (Sv P)) → (siT l).ok P
  | [], f, q, h => by cases h
  | p :: l, f, q, h => by
    simp only [siT] at h
    split at h
    · rename_i e
      cases h
      rw [Nat.eq_of_beq_eq_true e]; exact p.ok
    · exact siT_ok l f q h

theorem itT_ok : (l : List (Iv P)) → ∀ f t, itT l f = some t → hasBody P f = true ∧ ∀ φ Y, YOk P φ Y → SpecOkAt P φ f (t Y)
  | [], f, q, h => by cases h
  | p :: l, f, q, h => by
    simp only [itT] at h
    split at h
    · rename_i e
      cases h
      rw [Nat.eq_of_beq_eq_true e]; exact p.ok
    · exact itT_ok l f q h

def env (P : Program) (p : List (Pv P)) (s : List (Sv P)) (i : List (Iv P)) (k : List (Kv P)) (L : List (Nat × (St → Option LoopSpec))) : Env := { π := piT p, σ := siT s, L := tab L, y := none, it := itT i, κ := kiT k }

def envU (P : Program) (p : List (Pv P)) (s : List (Sv P)) (i : List (Iv P)) (k : List (Kv P)) (L : List (Nat × (St → Option LoopSpec))) (n : Nat) : Env := { π := piT p, σ := siT s, L := tab L, y := none, it := itT i, κ := kiT k, un := n }

theorem envU_ok (p : List (Pv P)) (s : List (Sv P)) (i : List (Iv P)) (k : List (Kv P)) (L : List (Nat × (St → Option LoopSpec))) (n : Nat) : (envU P p s i k L n).ok P := ⟨piT_ok p, siT_ok s, kiT_ok k, itT_ok i⟩

/-- The same, with slots whose values are known wherever they are asked. -/
def envC (P : Program) (p : List (Pv P)) (s : List (Sv P)) (i : List (Iv P)) (k : List (Kv P)) (L : List (Nat × (St → Option LoopSpec))) (cs : List Nat) : Env := { π := piT p, σ := siT s, L := tab L, y := none, it := itT i, κ := kiT k, cs := cs }
theorem envC_ok (p : List (Pv P)) (s : List (Sv P)) (i : List (Iv P)) (k : List (Kv P)) (L : List (Nat × (St → Option LoopSpec))) (cs : List Nat) : (envC P p s i k L cs).ok P := ⟨piT_ok p, siT_ok s, kiT_ok k, itT_ok i⟩
theorem env_ok (p : List (Pv P)) (s : List (Sv P)) (i : List (Iv P)) (k : List (Kv P)) (L : List (Nat × (St → Option LoopSpec))) : (env P p s i k L).ok P := ⟨piT_ok p, siT_ok s, kiT_ok k, itT_ok i⟩
end
end Go.Proofs.Ythoaelmomocohaa.Gx
namespace Go.Proofs.Ythoaelmomocohaa.Gx
open Go.RowKit
set_option linter.unusedSimpArgs false
set_option linter.unusedVariables false

/-- A function of the data ts that gives an own row of elements t (in the program: e). -/
def Qo (ts : List Ty) (e : TypeId) (t : Ty) (pre : Den ts → Bool) (g : Den ts → List t.den) : Spec := fun ss S K => frzL 8 ss S fun ss' S' => match asArgs ts ss' with
  | some x => pre x = true ∧ K (.row S'.res.length) (S'.push (.row e t (g x)))
  | none => False

def OwnOk (P : Program) (f : FuncId) (ts : List Ty) (e : TypeId) (t : Ty) (pre : Den ts → Bool) (g : Den ts → List t.den) : Prop :=
  ∀ (ρ : List Value) (I : Nat → Prop) (w : World), (∀ k, I k → k < w.heap.size) → ∀ (x : Den ts) (vs : List Value), SV.denL ρ I w (ofArgs ts x) vs → pre x = true →
    Calls P f vs.toArray w fun ee w' => ∃ v cells, ee = .returned v ∧ Below w.heap.size w w' ∧ w'.ownsRow 0 e t.sz v (g x).length cells ∧ (∀ k, v.ownBlock = some k → w.heap.size ≤ k ∧ k < w'.heap.size) ∧
      RdL (fun k => (I k ∨ (w.heap.size ≤ k ∧ k < w'.heap.size)) ∧ v.ownBlock ≠ some k) w' t (g x) cells

def givesRow (e : TypeId) (t : Ty) (xs : List t.den) : SV → St → Prop := fun r S => match r with
  | .row i => match S.res[i]? with
    | some (.row e' t' ys) => match Nat.beq e' e, decEq t' t with
      | true, .isTrue h => h ▸ ys = xs
      | _, _ => False
    | _ => False
  | .val (.slice none 0 0) => xs = []
  | _ => False

section
variable {P : Program} {cx : Cx} {S : St} {res : List Res} {ρ : List Value} {I : Nat → Prop} {F : Nat → Nat → Prop} {w w' : World} {a : Act} {sv : List Act}

/-- All blocks that there were are as they were; a new one is an own row. -/
theorem Mem.belowPush (h : Mem cx res ρ I F w) (hb : Below w.heap.size w w') {e : TypeId} {t : Ty} {xs : List t.den} {v : Value} {cells : List Value} (ho : w'.ownsRow 0 e t.sz v xs.length cells)
    (hn : ∀ k, v.ownBlock = some k → w.heap.size ≤ k ∧ k < w'.heap.size) (hr : RdL (fun k => (I k ∨ (w.heap.size ≤ k ∧ k < w'.heap.size)) ∧ v.ownBlock ≠ some k) w' t xs cells) :
    Mem cx (res ++ [.row e t xs]) (ρ ++ [v]) (fun k => (I k ∨ (w.heap.size ≤ k ∧ k < w'.heap.size)) ∧ v.ownBlock ≠ some k) (fun i k => if i = res.length then v.ownBlock = some k else F i k) w' := by
  have hI : ∀ k, I k → (I k ∨ (w.heap.size ≤ k ∧ k < w'.heap.size)) ∧ v.ownBlock ≠ some k := fun k hk => ⟨.inl hk, fun e => by have := (hn k e).1; have := h.Ilt k hk; omega⟩
  refine ⟨by simp [h.len], ?_, ?_, ?_, ?_, ?_, ?_, fun k hk => hI k (h.I0 k hk), ?_, ?_, Nat.le_trans h.size hb.size, hb.os.trans h.os, hb.tape.trans h.tape, hb.output.trans h.output, ?_⟩
  · intro i u hu
    rw [getElem?_snoc] at hu
    split at hu
    · cases hu; obtain ⟨A, c, rfl, _⟩ := ownsRow_len ho; rfl
    · exact h.ones i u hu
  · intro i r hr'
    rw [getElem?_snoc] at hr'
    split at hr'
    · rename_i hi
      cases hr'
      simp only [hi, if_true]
      exact ⟨v, cells, by rw [← h.len]; simp, ho, hr, fun k => Iff.rfl⟩
    · rename_i hi
      simp only [hi, if_false]
      exact Res.keep (fun _ _ h => rho_snoc h) hI (fun k hk => hb.block k (h.Ilt k hk)) (fun k hk => hb.block k (h.lt i k (List.getElem?_eq_some_iff.1 hr').1 hk)) r (h.holds i r hr')
  · intro i j k hi hj hne h1 h2
    simp at hi hj
    by_cases ei : i = res.length
    · rw [if_pos ei] at h1
      rw [if_neg (by omega)] at h2
      have := (hn k h1).1
      have := h.lt j k (by omega) h2
      omega
    · rw [if_neg ei] at h1
      by_cases ej : j = res.length
      · rw [if_pos ej] at h2
        have := (hn k h2).1
        have := h.lt i k (by omega) h1
        omega
      · rw [if_neg ej] at h2
        exact h.apart i j k (by omega) (by omega) hne h1 h2
  · intro i k hi h1
    simp at hi
    split at h1
    · exact (hn k h1).2
    · exact Nat.lt_of_lt_of_le (h.lt i k (by omega) h1) hb.size
  · intro i k hi h1 h2
    simp at hi
    split at h1
    · exact h2.2 h1
    · rename_i hne
      have := h.lt i k (by omega) h1
      rcases h2.1 with h3 | h3
      · exact h.notI i k (by omega) h1 h3
      · omega
  · intro i k hi h1
    simp at hi
    split at h1
    · right; have := (hn k h1).1; have := h.size; omega
    · exact h.new i k (by omega) h1
  · intro k hk
    rcases hk.1 with h1 | h1
    · exact Nat.lt_of_lt_of_le (h.Ilt k h1) hb.size
    · exact h1.2
  · intro k hk
    rcases hk.1 with h1 | h1
    · exact h.Inew k h1
    · right; right; have := h.size; omega
  · intro k hk hm
    exact (hb.block k (by have := h.size; omega)).trans (h.frame k hk hm)

theorem spec_Qo {f : FuncId} {ts : List Ty} {e : TypeId} {t : Ty} {pre : Den ts → Bool} {g : Den ts → List t.den} (hq : OwnOk P f ts e t pre g) : SpecOk P f (Qo ts e t pre g) := by
  intro cx S a w sv ss vs K h hk
  obtain ⟨ss', S', h', hk'⟩ := frzL_ok 8 ss S vs _ h hk
  split at hk'
  · rename_i x hx
    obtain ⟨hpre, hk'⟩ := hk'
    obtain ⟨ρ, I, F, hM, hf, hs, hd⟩ := h'
    refine (hq ρ I w hM.Ilt x vs (asArgs_den ts hd hx) hpre).mono ?_
    rintro ee w' ⟨v, cells, rfl, hb, ho, hn, hr⟩
    have hI : ∀ k, I k → (I k ∨ (w.heap.size ≤ k ∧ k < w'.heap.size)) ∧ v.ownBlock ≠ some k := fun k hk => ⟨.inl hk, fun e => by have := (hn k e).1; have := hM.Ilt k hk; omega⟩
    have hsame : ∀ k, I k → w'.heap[k]? = w.heap[k]? := fun k hk => hb.block k (hM.Ilt k hk)
    refine ⟨v, .row S'.res.length, S'.push (.row e t (g x)), rfl, ⟨_, _, _, hM.belowPush hb ho hn hr, hf.keep (fun _ _ h => rho_snoc h) hI hsame, StkOk.keep (fun _ _ h => rho_snoc h) hI hsame _ hs, ?_⟩, hk'⟩
    unfold SV.denL SV.den
    exact ⟨v, [], rfl, ⟨by rw [← hM.len]; simp, own_ne ho⟩, by simp [SV.denL]⟩
  · exact hk'.elim

theorem own_Q (hmix : P.follows .mixedOrders = true) {f : FuncId} {fn : Func} {c : Code} (hf : P.funcs[f]? = some fn) (hb : fn.body = some c) (ts : List Ty) (e : TypeId) (t : Ty) {pre : Den ts → Bool} {g : Den ts → List t.den} (hlen : Nat.ble ts.length fn.ntmps = true)
    (h : ∀ x : Den ts, SaneL ts x → pre x = true → ∃ E : Env, E.ok P ∧ E.y = none ∧ Holds (fvc P E fn c (ofArgs ts x) St0 (givesRow e t (g x)))) : OwnOk P f ts e t pre g := by
  intro ρ I w hI x vs hd hp
  obtain ⟨E, hE, hy, ⟨hv⟩⟩ := h x (ofArgs_sane ts hd) hp
  have hd0 := SV.denL_takeW (m := 0) _ (wf_ofArgs 0 ts x) hd
  rw [List.take_zero] at hd0
  have hM : Mem ⟨fun _ => none, I, fun _ => False, w⟩ [] [] I (fun _ _ => False) w :=
    ⟨rfl, fun i v h => by simp at h, fun i r h => by simp at h, fun i j k hi => by simp at hi, fun i k hi => by simp at hi, fun i k hi => by simp at hi, fun i k hi => by simp at hi, fun k h => h, hI, fun k h => .inl h,
      Nat.le_refl _, rfl, rfl, rfl, fun k _ _ => rfl⟩
  have h0 : Ok ⟨fun _ => none, I, fun _ => False, w⟩ St0 ⟨#[], []⟩ w [] (ofArgs ts x) vs := ⟨[], I, _, hM, ⟨rfl, fun t => by simp [St0, getT, SV.den], rfl⟩, rfl, hd0⟩
  refine (fvc_sound hE hmix (φ := fun _ => True) trivial (fun Y e => by rw [hy] at e; cases e) hf hb h0 (by rw [length_ofArgs]; exact Nat.le_of_ble_eq_true hlen) hv).mono ?_
  rintro ee w' ⟨v, r, S', rfl, h1, h2⟩
  unfold givesRow at h2
  split at h2
  · rename_i i
    split at h2
    · rename_i e' t' ys hr
      split at h2
      · rename_i hdec b1 _
        obtain rfl := Nat.eq_of_beq_eq_true b1
        subst hdec
        simp only at h2
        subst h2
        obtain ⟨ρ2, I2, F2, hM2, _, _, hd2⟩ := h1
        unfold SV.denL SV.den at hd2
        obtain ⟨v', vs', ev, hd2, _⟩ := hd2
        simp only [List.cons.injEq] at ev
        obtain ⟨rfl, _⟩ := ev
        have hil := (List.getElem?_eq_some_iff.1 hr).1
        obtain ⟨u, cells, g1, g2, g3, g4⟩ := hM2.holds i _ hr
        rw [hd2.1] at g1
        cases g1
        obtain ⟨hB, hI2⟩ := Mem.bare_below (cx := ⟨fun _ => none, I, fun _ => False, w⟩) hM2
        refine ⟨v, cells, rfl, hB, g2, fun k hk => ?_, RdL.keep (fun k hk => ⟨hI2 k hk, fun e => hM2.notI i k hil ((g4 k).2 e) hk⟩) (fun _ _ => rfl) _ _ g3⟩
        have hF := (g4 k).2 hk
        refine ⟨?_, hM2.lt i k hil hF⟩
        rcases hM2.new i k hil hF with h | h
        · exact h.elim
        · exact h
      · exact h2.elim
    · exact h2.elim
  · obtain ⟨ρ2, I2, F2, hM2, _, _, hd2⟩ := h1
    unfold SV.denL SV.den at hd2
    obtain ⟨v', vs', ev, rfl, _⟩ := hd2
    simp only [List.cons.injEq] at ev
    obtain ⟨rfl, _⟩ := ev
    obtain ⟨hB, hI2⟩ := Mem.bare_below (cx := ⟨fun _ => none, I, fun _ => False, w⟩) hM2
    rw [h2]
    exact ⟨_, [], rfl, hB, World.ownsRow_nil w' 0 e t.sz, fun k hk => by simp [Value.ownBlock] at hk, rfl⟩
  · exact h2.elim

/-- What gives an own row gives data. -/
theorem pspec_of_own {f : FuncId} {ts : List Ty} {e : TypeId} {t : Ty} {pre : Den ts → Bool} {g : Den ts → List t.den} (h : OwnOk P f ts e t pre g) : PSpecOk P f (Q ts [.slice t] pre (fun x => (g x, ()))) := by
  intro ρ I w hI ss vs p s hd hqs hp
  unfold Q at hqs
  split at hqs
  · rename_i x hx
    simp only [Option.some.injEq, Prod.mk.injEq] at hqs
    obtain ⟨rfl, rfl⟩ := hqs
    refine (h ρ I w hI x vs (asArgs_den ts hd hx) hp).mono ?_
    rintro ee w' ⟨v, cells, rfl, hb, ho, hn, hr⟩
    refine ⟨v, rfl, hb, ?_⟩
    show SV.den [] _ w' (.rs t (g x)) v
    unfold SV.den
    exact row_reads (fun k hk => hk.1) ho hr (fun k hk => .inr (hn k hk))
  · cases hqs
end
end Go.Proofs.Ythoaelmomocohaa.Gx
namespace Go.Proofs.Ythoaelmomocohaa.Gx
open Go.RowKit
set_option linter.unusedSimpArgs false
set_option linter.unusedVariables false

/-! ### Resources by other numbers -/
mutual
def SV.tr (g : Nat → Option Nat) : SV → SV
  | .row j => match g j with
    | some i => .row i
    | none => .any
  | .elt j n sz off => match g j with
    | some i => .elt i n sz off
    | none => .any
  | .win j lo hi sz => match g j with
    | some i => .win i lo hi sz
    | none => .any
  | .yld j => match g j with
    | some i => .yld i
    | none => .any
  | .ptr j off => match g j with
    | some i => .ptr i off
    | none => .any
  | .mp j => match g j with
    | some i => .mp i
    | none => .any
  | .fn f caps => .fn f (SV.trL g caps)
  | .agg cs => .agg (SV.trL g cs)
  | .tup cs => .tup (SV.trL g cs)
  | .any => .any
  | .undef => .undef
  | .int k n => .int k n
  | .bool b => .bool b
  | .lit b => .lit b
  | .str s => .str s
  | .rs t xs => .rs t xs
  | .pto t x off => .pto t x off
  | .val v => .val v
  | .adr T x => .adr T x
  | .hd e h => .hd e h
  | .fp T b j sz off => .fp T b j sz off
  | .ev => .ev
def SV.trL (g : Nat → Option Nat) : List SV → List SV
  | [] => []
  | s :: ss => SV.tr g s :: SV.trL g ss
end

section
variable {ρ ρ' : List Value} {I I' : Nat → Prop} {w w' : World} {g : Nat → Option Nat}

mutual
theorem SV.den_tr (hρ : ∀ (i j : Nat) v, g i = some j → ρ[i]? = some v → ρ'[j]? = some v) (hI : ∀ k, I k → I' k) (hw : ∀ k, I k → w'.heap[k]? = w.heap[k]?) :
    (s : SV) → {v : Value} → SV.den ρ I w s v → SV.den ρ' I' w' (SV.tr g s) v
  | .any, _, _ => by simp [SV.tr, SV.den]
  | .undef, _, h => by simpa [SV.tr, SV.den] using h
  | .int _ _, _, h => by simpa [SV.tr, SV.den] using h
  | .bool _, _, h => by simpa [SV.tr, SV.den] using h
  | .lit _, _, h => by simpa [SV.tr, SV.den] using h
  | .str _, _, h => by simpa [SV.tr, SV.den] using h
  | .rs t xs, _, h => by simp only [SV.tr]; unfold SV.den at h ⊢; exact Rd.keep hI hw _ h
  | .pto t x off, _, h => by
    simp only [SV.tr]
    unfold SV.den at h ⊢
    obtain ⟨ad, cells, e, hi, hr, hc⟩ := h
    refine ⟨ad, cells, e, hI _ hi, Rd.keep hI hw _ hr, fun j u hj => ?_⟩
    rw [World.cell?_of_block (w := w) (by rw [add_block]; exact hw _ hi)]
    exact hc j u hj
  | .ptr j off, _, h => by
    simp only [SV.tr]
    split
    · rename_i i e
      unfold SV.den at h ⊢
      obtain ⟨b, h1, h2⟩ := h
      exact ⟨b, hρ _ _ _ e h1, h2⟩
    · simp [SV.den]
  | .row j, _, h => by
    simp only [SV.tr]
    split
    · rename_i i e
      unfold SV.den at h ⊢
      exact ⟨hρ _ _ _ e h.1, h.2⟩
    · simp [SV.den]
  | .elt j n sz off, _, h => by
    simp only [SV.tr]
    split
    · rename_i i e
      unfold SV.den at h ⊢
      obtain ⟨q, n, c, h1, h2⟩ := h
      exact ⟨q, n, c, hρ _ _ _ e h1, h2⟩
    · simp [SV.den]
  | .win j lo hi sz, _, h => by
    simp only [SV.tr]
    split
    · rename_i i e
      unfold SV.den at h ⊢
      obtain ⟨A, n, c, h1, h2⟩ := h
      exact ⟨A, n, c, hρ _ _ _ e h1, h2⟩
    · simp [SV.den]
  | .yld j, _, h => by
    simp only [SV.tr]
    split
    · rename_i i e
      unfold SV.den at h ⊢
      obtain ⟨l, h1, h2⟩ := h
      exact ⟨l, hρ _ _ _ e h1, h2⟩
    · simp [SV.den]
  | .mp j, _, h => by
    simp only [SV.tr]
    split
    · rename_i i e
      unfold SV.den at h ⊢
      obtain ⟨l, h1, h2⟩ := h
      exact ⟨l, hρ _ _ _ e h1, h2⟩
    · simp [SV.den]
  | .fn f caps, _, h => by
    simp only [SV.tr]; unfold SV.den at h ⊢
    obtain ⟨vs, h1, h2⟩ := h
    exact ⟨vs, h1, SV.denL_tr hρ hI hw caps h2⟩
  | .agg cs, _, h => by
    simp only [SV.tr]; unfold SV.den at h ⊢
    obtain ⟨vs, h1, h2⟩ := h
    exact ⟨vs, h1, SV.denL_tr hρ hI hw cs h2⟩
  | .tup cs, _, h => by
    simp only [SV.tr]; unfold SV.den at h ⊢
    obtain ⟨vs, h1, h2⟩ := h
    exact ⟨vs, h1, SV.denL_tr hρ hI hw cs h2⟩
  | .val _, _, h => by simpa [SV.tr, SV.den] using h
  | .adr _ _, _, h => by simpa [SV.tr, SV.den] using h
  | .hd _ _, _, h => by simp only [SV.tr]; unfold SV.den at h ⊢; exact h
  | .fp _ _ _ _ _, _, h => by simp only [SV.tr]; unfold SV.den at h ⊢; exact h
  | .ev, _, h => by simp only [SV.tr]; unfold SV.den at h ⊢; exact h
theorem SV.denL_tr (hρ : ∀ (i j : Nat) v, g i = some j → ρ[i]? = some v → ρ'[j]? = some v) (hI : ∀ k, I k → I' k) (hw : ∀ k, I k → w'.heap[k]? = w.heap[k]?) :
    (ss : List SV) → {vs : List Value} → SV.denL ρ I w ss vs → SV.denL ρ' I' w' (SV.trL g ss) vs
  | [], _, h => by simpa [SV.trL, SV.denL] using h
  | s :: ss, _, h => by
    simp only [SV.trL]
    unfold SV.denL at h ⊢
    obtain ⟨v, vs', e, h1, h2⟩ := h
    exact ⟨v, vs', e, SV.den_tr hρ hI hw s h1, SV.denL_tr hρ hI hw ss h2⟩
end

/-! Back again. -/
mutual
theorem SV.den_rt {m : Nat} {f : Nat → Nat} (hρ : ∀ (i : Nat) v, i < m → ρ[f i]? = some v → ρ'[i]? = some v) :
    (s : SV) → {v : Value} → SV.wf m s = true → SV.den ρ I w (SV.tr (fun i => some (f i)) s) v → SV.den ρ' I w s v
  | .any, _, _, _ => by simp [SV.den]
  | .undef, _, _, h => by simpa [SV.tr, SV.den] using h
  | .int _ _, _, _, h => by simpa [SV.tr, SV.den] using h
  | .bool _, _, _, h => by simpa [SV.tr, SV.den] using h
  | .lit _, _, _, h => by simpa [SV.tr, SV.den] using h
  | .str _, _, _, h => by simpa [SV.tr, SV.den] using h
  | .rs t xs, _, _, h => by simp only [SV.tr] at h; unfold SV.den at h ⊢; exact h
  | .pto t x off, _, _, h => by simp only [SV.tr] at h; unfold SV.den at h ⊢; exact h
  | .ptr j off, _, hm, h => by
    simp only [SV.wf] at hm
    have hlt : j < m := Nat.lt_of_succ_le (Nat.le_of_ble_eq_true hm)
    simp only [SV.tr] at h
    unfold SV.den at h ⊢
    obtain ⟨b, h1, h2⟩ := h
    exact ⟨b, hρ _ _ hlt h1, h2⟩
  | .row j, _, hm, h => by
    simp only [SV.wf] at hm
    have hlt : j < m := Nat.lt_of_succ_le (Nat.le_of_ble_eq_true hm)
    simp only [SV.tr] at h
    unfold SV.den at h ⊢
    exact ⟨hρ _ _ hlt h.1, h.2⟩
  | .elt j n sz off, _, hm, h => by
    simp only [SV.wf] at hm
    have hlt : j < m := Nat.lt_of_succ_le (Nat.le_of_ble_eq_true hm)
    simp only [SV.tr] at h
    unfold SV.den at h ⊢
    obtain ⟨q, n, c, h1, h2⟩ := h
    exact ⟨q, n, c, hρ _ _ hlt h1, h2⟩
  | .win j lo hi sz, _, hm, h => by
    simp only [SV.wf] at hm
    have hlt : j < m := Nat.lt_of_succ_le (Nat.le_of_ble_eq_true hm)
    simp only [SV.tr] at h
    unfold SV.den at h ⊢
    obtain ⟨A, n, c, h1, h2⟩ := h
    exact ⟨A, n, c, hρ _ _ hlt h1, h2⟩
  | .yld j, _, hm, h => by
    simp only [SV.wf] at hm
    have hlt : j < m := Nat.lt_of_succ_le (Nat.le_of_ble_eq_true hm)
    simp only [SV.tr] at h
    unfold SV.den at h ⊢
    obtain ⟨l, h1, h2⟩ := h
    exact ⟨l, hρ _ _ hlt h1, h2⟩
  | .mp j, _, hm, h => by
    simp only [SV.wf] at hm
    have hlt : j < m := Nat.lt_of_succ_le (Nat.le_of_ble_eq_true hm)
    simp only [SV.tr] at h
    unfold SV.den at h ⊢
    obtain ⟨l, h1, h2⟩ := h
    exact ⟨l, hρ _ _ hlt h1, h2⟩
  | .fn f' caps, _, hm, h => by
    simp only [SV.wf] at hm
    simp only [SV.tr] at h
    unfold SV.den at h ⊢
    obtain ⟨vs, h1, h2⟩ := h
    exact ⟨vs, h1, SV.denL_rt hρ caps hm h2⟩
  | .agg cs, _, hm, h => by
    simp only [SV.wf] at hm
    simp only [SV.tr] at h
    unfold SV.den at h ⊢
    obtain ⟨vs, h1, h2⟩ := h
    exact ⟨vs, h1, SV.denL_rt hρ cs hm h2⟩
  | .tup cs, _, hm, h => by
    simp only [SV.wf] at hm
    simp only [SV.tr] at h
    unfold SV.den at h ⊢
    obtain ⟨vs, h1, h2⟩ := h
    exact ⟨vs, h1, SV.denL_rt hρ cs hm h2⟩
  | .val _, _, _, h => by simpa [SV.tr, SV.den] using h
  | .adr _ _, _, _, h => by simpa [SV.tr, SV.den] using h
  | .hd _ _, _, _, h => by simp only [SV.tr] at h; unfold SV.den at h ⊢; exact h
  | .fp _ _ _ _ _, _, _, h => by simp only [SV.tr] at h; unfold SV.den at h ⊢; exact h
  | .ev, _, _, h => by simp only [SV.tr] at h; unfold SV.den at h ⊢; exact h
theorem SV.denL_rt {m : Nat} {f : Nat → Nat} (hρ : ∀ (i : Nat) v, i < m → ρ[f i]? = some v → ρ'[i]? = some v) :
    (ss : List SV) → {vs : List Value} → SV.wfL m ss = true → SV.denL ρ I w (SV.trL (fun i => some (f i)) ss) vs → SV.denL ρ' I w ss vs
  | [], _, _, h => by simpa [SV.trL, SV.denL] using h
  | s :: ss, _, hm, h => by
    simp only [SV.wfL, Bool.and_eq_true] at hm
    simp only [SV.trL] at h
    unfold SV.denL at h ⊢
    obtain ⟨v, vs', e, h1, h2⟩ := h
    exact ⟨v, vs', e, SV.den_rt hρ s hm.1 h1, SV.denL_rt hρ ss hm.2 h2⟩
end

def trT (g : Nat → Option Nat) (l : List (Nat × SV)) : List (Nat × SV) := l.map fun p => (p.1, SV.tr g p.2)

theorem getT_tr : (l : List (Nat × SV)) → (t : Nat) → getT (trT g l) t = SV.tr g (getT l t)
  | [], _ => by simp [trT, getT, SV.tr]
  | (j, v) :: l, t => by
    have := getT_tr l t
    simp only [trT, List.map_cons, getT] at this ⊢
    by_cases h : (j == t) = true
    · simp [h]
    · have h' : (j == t) = false := by simpa using h
      simp [h', this]

def Fr.tr (g : Nat → Option Nat) (fr : Fr) : Fr := { n := fr.n, tm := trT g fr.tm, dfr := fr.dfr, cs := fr.cs }

def Res.tr (g : Nat → Option Nat) : Res → Res
  | .blk ty cs => .blk ty (SV.trL g cs)
  | .ro ty cs => .ro ty (SV.trL g cs)
  | .loop fr ps st pend => .loop (fr.tr g) ps st pend
  | .mv j e t xs => match g j with
    | some i => .mv i e t xs
    | none => .junk
  | .mapr kk ag vt es it => match it with
    | none => .mapr kk ag vt es none
    | some (j, c, l) => match g j with
      | some i => .mapr kk ag vt es (some (i, c, l))
      | none => .junk
  | .mit i => .mit ((g i).getD 0)
  | x => x

/-- What a contract speaks of. -/
def Res.plain : Res → Bool
  | .blk _ _ => true
  | .ro _ _ => true
  | .row _ _ _ => true
  | .cust _ _ _ => true
  | .mapr _ _ _ _ it => match it with
    | none => true
    | some _ => false
  | .gone => true
  | .junk => true
  | .fam _ _ _ => true
  | _ => false

theorem Res.tr_plain : (r : Res) → r.plain = true → (r.tr g).plain = true
  | .blk _ _, _ => rfl
  | .ro _ _, _ => rfl
  | .row _ _ _, _ => rfl
  | .cust _ _ _, _ => rfl
  | .mapr _ _ _ _ none, _ => rfl
  | .gone, _ => rfl
  | .junk, _ => rfl
  | .fam _ _ _, _ => rfl
  | .mapr _ _ _ _ (some _), h => by simp [Res.plain] at h
  | .dfr, h => by simp [Res.plain] at h
  | .dfrs, h => by simp [Res.plain] at h
  | .loop _ _ _ _, h => by simp [Res.plain] at h
  | .rsv, h => by simp [Res.plain] at h
  | .mv _ _ _ _, h => by simp [Res.plain] at h
  | .was, h => by simp [Res.plain] at h
  | .mit _, h => by simp [Res.plain] at h

/-- A resource elsewhere. -/
theorem Res.holds_tr {lp lp' : Lp} {i j : Nat} {F : Nat → Prop} (hρ : ∀ (i j : Nat) v, g i = some j → ρ[i]? = some v → ρ'[j]? = some v) (hI : ∀ k, I k → I' k) (hw : ∀ k, I k → w'.heap[k]? = w.heap[k]?)
    (hF : ∀ k, F k → w'.heap[k]? = w.heap[k]?) (hij : ∀ v, ρ[i]? = some v → ρ'[j]? = some v) : (r : Res) → (r.plain = true ∨ lp' j = lp i) → r.holds lp ρ I w i F → (r.tr g).holds lp' ρ' I' w' j F
  | .blk ty cs, _, h => by
    obtain ⟨b, vs, h1, h2, h3, h4⟩ := h
    exact ⟨b, vs, hij _ h1, (hF b ((h4 b).2 rfl)).trans h2, SV.denL_tr hρ hI hw cs h3, h4⟩
  | .row e t xs, _, h => by
    obtain ⟨v, cells, h1, h2, h3, h4⟩ := h
    exact ⟨v, cells, hij _ h1, ownsRow_move h2 (fun k hk => hF k ((h4 k).2 hk)), RdL.keep hI hw t xs h3, h4⟩
  | .cust t R x, _, h => by
    obtain ⟨v, h1, h0, h2⟩ := h
    exact ⟨v, hij _ h1, h0, R.keep h2 hF hI hw⟩
  | .ro ty cs, _, h => by
    obtain ⟨b, vs, h1, h2, h3, h4, h5⟩ := h
    exact ⟨b, vs, hij _ h1, (hw b h4).trans h2, SV.denL_tr hρ hI hw cs h3, hI b h4, h5⟩
  | .gone, _, h => h
  | .junk, _, h => h
  | .fam T t os, _, h => ⟨hij _ h.1, h.2.keep hI hw hF⟩
  | .mapr kk ag vt es none, _, h => by
    obtain ⟨b, ents, clock, ro, h1, h2, h3, h4⟩ := h
    exact ⟨b, ents, clock, ro, hij _ h1, h2.keep hI hw (hF b ((h3 b).2 (.inl rfl))), h3, h4⟩
  | .mapr kk ag vt es (some (j0, c, l)), _, h => by
    simp only [Res.tr]
    split
    · rename_i i0 e
      obtain ⟨b, ents, clock, ro, h1, h2, h3, r, e1, g1, g2, g3⟩ := h
      exact ⟨b, ents, clock, ro, hij _ h1, h2.keep hI hw (hF b ((h3 b).2 (.inl rfl))), h3, r, e1, hρ _ _ _ e g1, g2, g3.keep (hF r ((h3 r).2 (.inr e1)))⟩
    · exact trivial
  | .dfr, _, h => by
    obtain ⟨b, h1, h2, h3⟩ := h
    exact ⟨b, hij _ h1, (hF b ((h3 b).2 rfl)).trans h2, h3⟩
  | .dfrs, _, h => by
    obtain ⟨Ds, h1, h2, h3, h4⟩ := h
    exact ⟨Ds, hij _ h1, fun D hD => (hF D ((h4 D).2 hD)).trans (h2 D hD), h3, h4⟩
  | .loop fr ps st pend, hl, h => by
    obtain ⟨l, r, h1, h2, h3, h4, h5, h6, h7, h8⟩ := h
    rcases hl with hl | hl
    · simp [Res.plain] at hl
    · exact ⟨l, r, hij _ h1, (hF l ((h8 l).2 rfl)).trans h2, hl.trans h3, h4, h5, h6, ⟨h7.1, fun t => by simp only [Fr.tr, getT_tr]; exact SV.den_tr hρ hI hw _ (h7.2 t)⟩, h8⟩
  | .rsv, _, h => ⟨hij _ h.1, h.2⟩
  | .mv j0 e t xs, _, h => by
    simp only [Res.tr]
    split
    · rename_i i0 e0
      obtain ⟨h0, v, cells, h1, h2, h3, h4⟩ := h
      exact ⟨hij _ h0, v, cells, hρ _ _ _ e0 h1, ownsRow_move h2 (fun k hk => hF k ((h4 k).2 hk)), RdL.keep hI hw t xs h3, h4⟩
    · exact trivial
  | .was, _, h => by
    obtain ⟨⟨A, n, c, h1⟩, h2⟩ := h
    exact ⟨⟨A, n, c, hij _ h1⟩, h2⟩
  | .mit _, _, h => by
    obtain ⟨⟨r, h1⟩, h2⟩ := h
    exact ⟨⟨r, hij _ h1⟩, h2⟩

theorem Res.holds_rt {lp lp' : Lp} {i j : Nat} {F : Nat → Prop} {m : Nat} {f : Nat → Nat} (hρ : ∀ (i : Nat) v, i < m → ρ[f i]? = some v → ρ'[i]? = some v) (hij : ∀ v, ρ[j]? = some v → ρ'[i]? = some v) :
    (r : Res) → r.plain = true → r.wf m = true → (r.tr fun i => some (f i)).holds lp ρ I w j F → r.holds lp' ρ' I w i F
  | .blk ty cs, _, hm, h => by
    obtain ⟨b, vs, h1, h2, h3, h4⟩ := h
    exact ⟨b, vs, hij _ h1, h2, SV.denL_rt hρ cs hm h3, h4⟩
  | .row e t xs, _, _, h => by
    obtain ⟨v, cells, h1, h2, h3, h4⟩ := h
    exact ⟨v, cells, hij _ h1, h2, h3, h4⟩
  | .cust t R x, _, _, h => by
    obtain ⟨v, h1, h0, h2⟩ := h
    exact ⟨v, hij _ h1, h0, h2⟩
  | .ro ty cs, _, hm, h => by
    obtain ⟨b, vs, h1, h2, h3, h4, h5⟩ := h
    exact ⟨b, vs, hij _ h1, h2, SV.denL_rt hρ cs hm h3, h4, h5⟩
  | .gone, _, _, h => h
  | .junk, _, _, h => h
  | .fam T t os, _, _, h => ⟨hij _ h.1, h.2⟩
  | .mapr kk ag vt es none, _, _, h => by
    obtain ⟨b, ents, clock, ro, h1, h2, h3, h4⟩ := h
    exact ⟨b, ents, clock, ro, hij _ h1, h2, h3, h4⟩
  | .mapr kk ag vt es (some _), hp, _, _ => by simp [Res.plain] at hp
  | .dfr, hp, _, _ => by simp [Res.plain] at hp
  | .dfrs, hp, _, _ => by simp [Res.plain] at hp
  | .loop _ _ _ _, hp, _, _ => by simp [Res.plain] at hp
  | .rsv, hp, _, _ => by simp [Res.plain] at hp
  | .mv _ _ _ _, hp, _, _ => by simp [Res.plain] at hp
  | .was, hp, _, _ => by simp [Res.plain] at hp
  | .mit _, hp, _, _ => by simp [Res.plain] at hp
end
end Go.Proofs.Ythoaelmomocohaa.Gx
namespace Go.Proofs.Ythoaelmomocohaa.Gx
open Go.RowKit
set_option linter.unusedSimpArgs false
set_option linter.unusedVariables false

/-- Resources of a call's own. -/
structure Own (Rs : List Res) (ρ : List Value) (I : Nat → Prop) (F : Nat → Nat → Prop) (w : World) : Prop where
  len : ρ.length = Rs.length
  ones : ∀ (i : Nat) (v : Value), ρ[i]? = some v → v.oneCell' = true
  holds : ∀ (i : Nat) (r : Res), Rs[i]? = some r → r.holds (fun _ => none) ρ I w i (F i)
  apart : ∀ i j k, i < Rs.length → j < Rs.length → i ≠ j → F i k → ¬ F j k
  lt : ∀ i k, i < Rs.length → F i k → k < w.heap.size
  notI : ∀ i k, i < Rs.length → F i k → ¬ I k

/-- One of the ways a function may end. -/
structure Alt (α : Type) where
  β : Type
  post : α → β → Prop
  r : α → β → SV
  res : α → β → List Res
  kp : List Bool

/-- What a function asks and gives. -/
structure HC where
  α : Type
  m : Nat
  ss : α → List SV
  Rs : α → List Res
  pre : α → Prop
  alts : List (Alt α)

/-- What is left as it is. -/
structure Beside (m n : Nat) (I I' : Nat → Prop) (F F' : Nat → Nat → Prop) (w w' : World) : Prop where
  os : w'.os = w.os
  tape : w'.tape = w.tape
  output : w'.output = w.output
  size : w.heap.size ≤ w'.heap.size
  frame : ∀ k, k < w.heap.size → (∀ i, i < m → ¬ F i k) → w'.heap[k]? = w.heap[k]?
  keepI : ∀ k, I k → I' k
  Inew : ∀ k, I' k → I k ∨ (∃ i, i < m ∧ F i k) ∨ w.heap.size ≤ k
  Ilt : ∀ k, I' k → k < w'.heap.size
  new : ∀ i k, i < n → F' i k → (∃ j, j < m ∧ F j k) ∨ w.heap.size ≤ k

structure Alt.Ends {α : Type} (A : Alt α) (m : Nat) (x : α) (y : A.β) (ρ0 : List Value) (I : Nat → Prop) (F : Nat → Nat → Prop) (w : World) (v : Value) (ρ1 : List Value) (I' : Nat → Prop) (F' : Nat → Nat → Prop) (w' : World) : Prop where
  post : A.post x y
  own : Own (A.res x y) ρ1 I' F' w'
  den : SV.den ρ1 I' w' (A.r x y) v
  len : m ≤ (A.res x y).length
  plain : ∀ r ∈ A.res x y, r.plain = true
  kept : ∀ i, i < m → A.kp[i]? = some true → ρ1[i]? = ρ0[i]?
  beside : Beside m (A.res x y).length I I' F F' w w'

def HC.ok (P : Program) (f : FuncId) (H : HC) : Prop :=
  ∀ (x : H.α), H.pre x → ∀ (ρ0 : List Value) (I : Nat → Prop) (F : Nat → Nat → Prop) (w : World) (vs : List Value), Own (H.Rs x) ρ0 I F w → (∀ k, I k → k < w.heap.size) → SV.denL ρ0 I w (H.ss x) vs →
    Calls P f vs.toArray w fun e w' => ∃ v, e = .returned v ∧ ∃ A ∈ H.alts, ∃ y ρ1 I' F', A.Ends H.m x y ρ0 I F w v ρ1 I' F' w'

/-! ### At a call -/
def Res.there : Res → Bool
  | .gone => false
  | .junk => false
  | _ => true

def look (js : List Nat) (i : Nat) : Nat := (js[i]?).getD 0

def resAll (S : St) (f : Nat → Nat) : Nat → List Res → Prop
  | _, [] => True
  | i, r :: l => (match S.res[f i]? with
    | some s => resLe s (r.tr fun k => some (f k))
    | none => False) ∧ resAll S f (i + 1) l

def posOf : List Nat → Nat → Nat → Option Nat
  | [], _, _ => none
  | j :: l, i, k => match Nat.beq j k with
    | true => some i
    | false => posOf l (i + 1) k

def newIx (js : List Nat) (m base i : Nat) : Nat := match Nat.blt i m with
  | true => look js i
  | false => base + (i - m)

def keepG (js : List Nat) (kp : List Bool) (j : Nat) : Option Nat := match posOf js 0 j with
  | some i => match kp[i]? with
    | some true => some j
    | _ => none
  | none => some j

def resH (S : St) (js : List Nat) (m : Nat) (kp : List Bool) (Rs : List Res) : List Res :=
  (List.range (S.res.length + (Rs.length - m))).map fun k => match posOf js 0 k with
    | some i => ((Rs[i]?).getD .gone).tr fun i => some (newIx js m S.res.length i)
    | none => match Nat.blt k S.res.length with
      | true => ((S.res[k]?).getD .gone).tr (keepG js kp)
      | false => ((Rs[k - S.res.length + m]?).getD .gone).tr fun i => some (newIx js m S.res.length i)

def updH (S : St) (js : List Nat) (m : Nat) (kp : List Bool) (Rs : List Res) : St :=
  { fr := S.fr.tr (keepG js kp), stk := S.stk.map (Fr.tr (keepG js kp)), res := resH S js m kp Rs }

def altsK {α : Type} (m : Nat) (x : α) (js : List Nat) (S : St) (K : SV → St → Prop) : List (Alt α) → Prop
  | [] => True
  | A :: l => (∀ y, A.post x y → K ((A.r x y).tr fun i => some (newIx js m S.res.length i)) (updH S js m A.kp (A.res x y))) ∧ altsK m x js S K l

def nodupB : List Nat → Bool
  | [] => true
  | j :: l => !hasN l j && nodupB l

def jsOk (js : List Nat) (m n : Nat) : Bool := Nat.beq js.length m && (nodupB js && js.all (Nat.blt · n))

/-- Rows in one of the arguments are let go. -/
def frzA (i : Nat) : Nat → List SV → St → (List SV → St → Prop) → Prop
  | 0, ss, S, k => k ss S
  | n + 1, ss, S, k => match SV.rowIn ((ss[i]?).getD .any) with
    | none => k ss S
    | some j => match S.res[j]? with
      | some (.row _ t xs) => frzA i n (SV.subL j (.rs t xs) ss) (S.frz j t xs) k
      | _ => False

def frzAs : List Nat → List SV → St → (List SV → St → Prop) → Prop
  | [], ss, S, k => k ss S
  | i :: l, ss, S, k => frzA i 4 ss S fun ss S => frzAs l ss S k

def dfrOut (js : List Nat) (S : St) : Bool := S.fr.dfr.all (fun i => !hasN js i) && S.stk.all (fun f => f.dfr.all fun i => !hasN js i)

/-- rs: which arguments are data (rows among them are let go). -/
def hspec (H : HC) (rs : List Nat) (find : List SV → St → Option (List Nat × H.α)) : Spec := fun ss S K => frzAs rs ss S fun ss S => match find ss S with
  | some (js, x) => match jsOk js H.m S.res.length && dfrOut js S, SV.wfL H.m (H.ss x), (H.Rs x).all (fun r => r.plain && (r.wf H.m && r.there)), Nat.beq (H.Rs x).length H.m with
    | true, true, true, true => H.pre x ∧ (svLeL ss (SV.trL (fun i => some (look js i)) (H.ss x)) ∧ (resAll S (look js) 0 (H.Rs x) ∧ altsK H.m x js S K H.alts))
    | _, _, _, _ => False
  | none => False

section
variable {P : Program} {cx : Cx} {S : St} {ρ : List Value} {I : Nat → Prop} {F : Nat → Nat → Prop} {w : World} {a : Act} {sv : List Act}

theorem frzA_ok (i : Nat) : (n : Nat) → (ss : List SV) → (S : St) → (vs : List Value) → (k : List SV → St → Prop) → Ok cx S a w sv ss vs → frzA i n ss S k → ∃ ss' S', Ok cx S' a w sv ss' vs ∧ k ss' S'
  | 0, ss, S, vs, k, h, hk => ⟨ss, S, h, hk⟩
  | n + 1, ss, S, vs, k, h, hk => by
    unfold frzA at hk
    split at hk
    · exact ⟨ss, S, h, hk⟩
    · split at hk
      · rename_i hr
        exact frzA_ok i n _ _ vs k (h.frz hr) hk
      · exact hk.elim

theorem frzAs_ok : (l : List Nat) → (ss : List SV) → (S : St) → (vs : List Value) → (k : List SV → St → Prop) → Ok cx S a w sv ss vs → frzAs l ss S k → ∃ ss' S', Ok cx S' a w sv ss' vs ∧ k ss' S'
  | [], ss, S, vs, k, h, hk => ⟨ss, S, h, hk⟩
  | i :: l, ss, S, vs, k, h, hk => by
    obtain ⟨ss', S', h1, h2⟩ := frzA_ok i 4 ss S vs _ h hk
    exact frzAs_ok l ss' S' vs k h1 h2

theorem posOf_some : (js : List Nat) → (n k i : Nat) → posOf js n k = some i → n ≤ i ∧ js[i - n]? = some k
  | [], _, _, _, h => by simp [posOf] at h
  | j :: l, n, k, i, h => by
    simp only [posOf] at h
    split at h
    · rename_i e
      cases h
      exact ⟨Nat.le_refl _, by rw [Nat.sub_self]; simp [Nat.eq_of_beq_eq_true e]⟩
    · obtain ⟨h1, h2⟩ := posOf_some l (n + 1) k i h
      refine ⟨by omega, ?_⟩
      rw [show i - n = (i - (n + 1)) + 1 by omega, List.getElem?_cons_succ]; exact h2

theorem posOf_none : (js : List Nat) → (n k : Nat) → posOf js n k = none → k ∉ js
  | [], _, _, _ => by simp
  | j :: l, n, k, h => by
    simp only [posOf] at h
    split at h
    · cases h
    · rename_i e
      have h1 := posOf_none l (n + 1) k h
      have h2 : j ≠ k := fun e' => by rw [e'] at e; simp at e
      simp only [List.mem_cons, not_or]
      exact ⟨fun e => h2 e.symm, h1⟩

theorem nodupB_spec : (l : List Nat) → nodupB l = true → l.Nodup
  | [], _ => by simp
  | j :: l, h => by
    simp only [nodupB, Bool.and_eq_true, Bool.not_eq_true'] at h
    refine List.nodup_cons.2 ⟨fun hm => ?_, nodupB_spec l h.2⟩
    rw [hasN_iff.2 hm] at h; cases h.1

theorem posOf_at {js : List Nat} (hn : js.Nodup) {i k : Nat} (h : js[i]? = some k) : posOf js 0 k = some i := by
  cases hp : posOf js 0 k with
  | none => exact absurd (List.mem_of_getElem? h) (posOf_none js 0 k hp)
  | some i' =>
    obtain ⟨_, h2⟩ := posOf_some js 0 k i' hp
    rw [Nat.sub_zero] at h2
    obtain ⟨l1, e1⟩ := List.getElem?_eq_some_iff.1 h
    obtain ⟨l2, e2⟩ := List.getElem?_eq_some_iff.1 h2
    congr 1
    exact (List.getElem_inj hn).1 (by rw [e2, e1])

/-- A plain resource that says less. -/
theorem resLe_holds {lp : Lp} {i : Nat} {G : Nat → Prop} {s t : Res} (h : resLe s t) (ht : t.plain = true) (hg : t ≠ .gone) (hh : s.holds lp ρ I w i G) : t.holds lp ρ I w i G := by
  unfold resLe at h
  split at h
  · exact absurd rfl hg
  · split at h
    · split at h
      · rename_i e1
        obtain rfl := Nat.eq_of_beq_eq_true e1
        obtain ⟨b, vs, g1, g2, g3, g4⟩ := hh
        exact ⟨b, vs, g1, g2, svLeL_den h g3, g4⟩
      · exact h.elim
    · exact h.elim
  · split at h
    · split at h
      · rename_i e1
        obtain rfl := Nat.eq_of_beq_eq_true e1
        simp only [svLe] at h
        split at h
        · rename_i et _
          subst et
          simp only at h
          subst h
          exact hh
        · exact h.elim
      · exact h.elim
    · exact h.elim
  · simp [Res.plain] at ht
  · simp [Res.plain] at ht
  · simp [Res.plain] at ht
  · simp [Res.plain] at ht
  · split at h
    · split at h
      · rename_i e1
        obtain rfl := Nat.eq_of_beq_eq_true e1
        obtain ⟨b, vs, g1, g2, g3, g4, g5⟩ := hh
        exact ⟨b, vs, g1, g2, svLeL_den h g3, g4, g5⟩
      · exact h.elim
    · exact h.elim
  · exact h.elim
  · exact h.elim
  · exact h.elim
  · split at h
    · split at h
      · rename_i e0 b1 _
        obtain rfl := Nat.eq_of_beq_eq_true b1
        subst e0
        simp only at h
        subst h
        exact hh
      · exact h.elim
    · exact h.elim
  · split at h
    · split at h
      · rename_i e1 _
        subst e1
        obtain ⟨q1, q2⟩ := h
        simp only at q1 q2
        subst q1; subst q2
        exact hh
      · exact h.elim
    · exact h.elim
  · simp [Res.plain] at ht
  · rename_i kk ag vt es it
    cases it with
    | some p => simp [Res.plain] at ht
    | none =>
      split at h
      · rename_i kk' ag' vt' es' it'
        split at h
        · rename_i e1 e2 e3 _ _ _
          subst e1; subst e2; subst e3
          obtain ⟨q1, q2⟩ := h
          simp only at q1 q2
          subst q1
          cases it' with
          | none => exact hh
          | some p' => exact q2.elim
        · exact h.elim
      · exact h.elim

theorem resAll_get {f : Nat → Nat} : (l : List Res) → (n : Nat) → resAll S f n l → ∀ (i : Nat) r, l[i]? = some r → ∃ s, S.res[f (n + i)]? = some s ∧ resLe s (r.tr fun k => some (f k))
  | [], _, _, i, r, h => by simp at h
  | x :: l, n, h, 0, r, hr => by
    simp at hr
    subst hr
    obtain ⟨h1, _⟩ := h
    split at h1
    · rename_i s hs; exact ⟨s, hs, h1⟩
    · exact h1.elim
  | x :: l, n, h, i + 1, r, hr => by
    obtain ⟨s, h1, h2⟩ := resAll_get l (n + 1) h.2 i r (by simpa using hr)
    exact ⟨s, by rw [show n + (i + 1) = n + 1 + i by omega]; exact h1, h2⟩

theorem altsK_get {α : Type} {m : Nat} {x : α} {js : List Nat} {K : SV → St → Prop} : (l : List (Alt α)) → altsK m x js S K l → ∀ A ∈ l, ∀ y, A.post x y → K ((A.r x y).tr fun i => some (newIx js m S.res.length i)) (updH S js m A.kp (A.res x y))
  | [], _, A, h => by simp at h
  | A0 :: l, hk, A, h => by
    rcases List.mem_cons.1 h with rfl | h
    · exact hk.1
    · exact altsK_get l hk.2 A h

theorem there_tr {g : Nat → Option Nat} : (r : Res) → r.plain = true → r.there = true → r.tr g ≠ .gone
  | .blk _ _, _, _ => fun e => by cases e
  | .ro _ _, _, _ => fun e => by cases e
  | .row _ _ _, _, _ => fun e => by cases e
  | .cust _ _ _, _, _ => fun e => by cases e
  | .mapr _ _ _ _ none, _, _ => fun e => by cases e
  | .junk, _, h => by simp [Res.there] at h
  | .fam _ _ _, _, _ => fun e => by cases e
  | .gone, _, h => by simp [Res.there] at h
  | .mapr _ _ _ _ (some _), h, _ => by simp [Res.plain] at h
  | .dfr, h, _ => by simp [Res.plain] at h
  | .dfrs, h, _ => by simp [Res.plain] at h
  | .loop _ _ _ _, h, _ => by simp [Res.plain] at h
  | .rsv, h, _ => by simp [Res.plain] at h
  | .mv _ _ _ _, h, _ => by simp [Res.plain] at h
  | .was, h, _ => by simp [Res.plain] at h
  | .mit _, h, _ => by simp [Res.plain] at h

theorem Mem.frameH {res : List Res} (hM : Mem cx res ρ I F w) {S : St} (hSr : S.res = res) {js : List Nat} {m : Nat} {kp : List Bool} {Rs' : List Res} {ρ1 : List Value} {I' : Nat → Prop} {F1 : Nat → Nat → Prop} {w' : World}
    (hjl : js.length = m) (hjn : js.Nodup) (hjs : ∀ j ∈ js, j < res.length) (hown : Own Rs' ρ1 I' F1 w') (hml : m ≤ Rs'.length) (hpl : ∀ r ∈ Rs', r.plain = true)
    (hkp : ∀ i, i < m → kp[i]? = some true → ρ1[i]? = ρ[look js i]?) (hb : Beside m Rs'.length I I' (fun i => F (look js i)) F1 w w') :
    ∃ ρ' F', Mem cx (resH S js m kp Rs') ρ' I' F' w' ∧ (∀ (i j : Nat) v, keepG js kp i = some j → ρ[i]? = some v → ρ'[j]? = some v) ∧ (∀ (i : Nat) v, ρ1[i]? = some v → ρ'[newIx js m res.length i]? = some v) ∧
      (∀ (i : Nat) v, posOf js 0 i = none → ρ[i]? = some v → ρ'[i]? = some v) := by
  subst hSr
  have hlook : ∀ i, i < m → js[i]? = some (look js i) := fun i hi => by
    have : i < js.length := by omega
    simp [look, List.getElem?_eq_getElem this]
  have hpl0 : ∀ i, i < m → posOf js 0 (look js i) = some i := fun i hi => posOf_at hjn (hlook i hi)
  have hpsome : ∀ k i, posOf js 0 k = some i → i < m ∧ look js i = k := fun k i h => by
    have := (posOf_some js 0 k i h).2
    rw [Nat.sub_zero] at this
    have h2 := (List.getElem?_eq_some_iff.1 this).1
    exact ⟨by omega, by simp [look, this]⟩
  have hjlt : ∀ i, i < m → look js i < S.res.length := fun i hi => hjs _ (List.mem_of_getElem? (hlook i hi))
  obtain ⟨N, hN⟩ : ∃ N, N = S.res.length + (Rs'.length - m) := ⟨_, rfl⟩
  obtain ⟨pick, hpick⟩ : ∃ pick : Nat → Value, pick = fun k => match posOf js 0 k with
    | some i => (ρ1[i]?).getD Go.undef
    | none => match Nat.blt k S.res.length with
      | true => (ρ[k]?).getD Go.undef
      | false => (ρ1[k - S.res.length + m]?).getD Go.undef := ⟨_, rfl⟩
  obtain ⟨ρ', hρ'⟩ : ∃ ρ', ρ' = (List.range N).map pick := ⟨_, rfl⟩
  have hget : ∀ k, ρ'[k]? = if k < N then some (pick k) else none := fun k => by
    rw [hρ', List.getElem?_map]
    split
    · rename_i h; rw [List.getElem?_range h]; rfl
    · rename_i h; rw [List.getElem?_eq_none (by simp; omega)]; rfl
  have hblt : ∀ a b : Nat, Nat.blt a b = true ↔ a < b := fun a b => by simp
  have hbge : ∀ a b : Nat, Nat.blt a b = false ↔ b ≤ a := fun a b => by
    rw [← Bool.not_eq_true, hblt]; omega
  have hr1 : ∀ (i : Nat) v, ρ1[i]? = some v → ρ'[newIx js m S.res.length i]? = some v := fun i v hv => by
    have hil : i < Rs'.length := by rw [← hown.len]; exact (List.getElem?_eq_some_iff.1 hv).1
    rw [hget]
    unfold newIx
    split
    · rename_i hi
      have hi := (hblt _ _).1 hi
      have := hjlt i hi
      rw [if_pos (by omega), hpick]
      simp only [hpl0 i hi, hv, Option.getD_some]
    · rename_i hi
      have hi := (hbge _ _).1 hi
      rw [if_pos (by omega), hpick]
      have hpn : posOf js 0 (S.res.length + (i - m)) = none := by
        cases hp : posOf js 0 (S.res.length + (i - m)) with
        | none => rfl
        | some i' =>
          obtain ⟨h1, h2⟩ := hpsome _ _ hp
          have := hjlt i' h1; omega
      have hnb : Nat.blt (S.res.length + (i - m)) S.res.length = false := (hbge _ _).2 (by omega)
      simp only [hpn, hnb]
      rw [show S.res.length + (i - m) - S.res.length + m = i by omega, hv]; rfl
  have hr0 : ∀ (i : Nat) v, posOf js 0 i = none → ρ[i]? = some v → ρ'[i]? = some v := fun i v hp hv => by
    have hil : i < S.res.length := by rw [← hM.len]; exact (List.getElem?_eq_some_iff.1 hv).1
    rw [hget, if_pos (by omega), hpick]
    simp only [hp, (hblt _ _).2 hil, hv, Option.getD_some]
  have hrk : ∀ (i j : Nat) v, keepG js kp i = some j → ρ[i]? = some v → ρ'[j]? = some v := fun i j v hg hv => by
    unfold keepG at hg
    split at hg
    · rename_i i' hp
      split at hg
      · rename_i hk
        cases hg
        obtain ⟨h1, h2⟩ := hpsome _ _ hp
        have h3 := hkp i' h1 hk
        rw [h2, hv] at h3
        have := hr1 i' v h3
        unfold newIx at this
        rw [(hblt _ _).2 h1] at this
        simp only [h2] at this
        exact this
      · cases hg
    · rename_i hp
      cases hg
      exact hr0 i v hp hv
  obtain ⟨F', hF'⟩ : ∃ F' : Nat → Nat → Prop, F' = fun k b => match posOf js 0 k with
    | some i => F1 i b
    | none => match Nat.blt k S.res.length with
      | true => F k b
      | false => F1 (k - S.res.length + m) b := ⟨_, rfl⟩
  have hlenH : (resH S js m kp Rs').length = N := by simp [resH, hN]
  -- each place is one of the call's, or one of the others
  have hcase : ∀ k, k < N → (∃ i, i < Rs'.length ∧ F' k = F1 i ∧ newIx js m S.res.length i = k ∧ (resH S js m kp Rs')[k]? = (Rs'[i]?).map (Res.tr fun i => some (newIx js m S.res.length i))) ∨
      (k < S.res.length ∧ posOf js 0 k = none ∧ F' k = F k ∧ (resH S js m kp Rs')[k]? = (S.res[k]?).map (Res.tr (keepG js kp))) := by
    intro k hk
    have hk' : k < S.res.length + (Rs'.length - m) := by omega
    cases hp : posOf js 0 k with
    | some i =>
      obtain ⟨h1, h2⟩ := hpsome _ _ hp
      refine .inl ⟨i, by omega, by rw [hF']; simp only [hp], ?_, ?_⟩
      · unfold newIx; rw [(hblt _ _).2 h1]; exact h2
      · simp only [resH, List.getElem?_map, List.getElem?_range hk', Option.map_some, hp]
        rw [List.getElem?_eq_getElem (show i < Rs'.length by omega)]; rfl
    | none =>
      cases hb' : Nat.blt k S.res.length with
      | true =>
        have hkl := (hblt _ _).1 hb'
        refine .inr ⟨hkl, rfl, by rw [hF']; simp only [hp, hb'], ?_⟩
        simp only [resH, List.getElem?_map, List.getElem?_range hk', Option.map_some, hp, hb']
        rw [List.getElem?_eq_getElem hkl]; rfl
      | false =>
        have hkl := (hbge _ _).1 hb'
        refine .inl ⟨k - S.res.length + m, by omega, by rw [hF']; simp only [hp, hb'], ?_, ?_⟩
        · unfold newIx; rw [(hbge _ _).2 (by omega)]; simp only; omega
        · simp only [resH, List.getElem?_map, List.getElem?_range hk', Option.map_some, hp, hb']
          rw [List.getElem?_eq_getElem (show k - S.res.length + m < Rs'.length by omega)]; rfl
  have hinj : ∀ i j, i < Rs'.length → j < Rs'.length → newIx js m S.res.length i = newIx js m S.res.length j → i = j := by
    intro i j hi hj e
    unfold newIx at e
    split at e <;> split at e
    · rename_i _ a _ b
      have a := (hblt _ _).1 a; have b := (hblt _ _).1 b
      have h1 := hpl0 i a; have h2 := hpl0 j b
      rw [e, h2] at h1
      simpa using h1.symm
    · rename_i _ a _ b
      have := hjlt i ((hblt _ _).1 a); omega
    · rename_i _ a _ b
      have := hjlt j ((hblt _ _).1 b); omega
    · rename_i _ a _ b
      have a := (hbge _ _).1 a; have b := (hbge _ _).1 b; omega
  have hnot : ∀ k, posOf js 0 k = none → ∀ i, i < m → k ≠ look js i := fun k hp i hi e => by rw [e, hpl0 i hi] at hp; cases hp
  have hFsame : ∀ k, k < S.res.length → posOf js 0 k = none → ∀ b, F k b → w'.heap[b]? = w.heap[b]? := fun k hk hp b hb' =>
    hb.frame b (hM.lt k b hk hb') (fun i hi hf => hM.apart k (look js i) b hk (hjlt i hi) (hnot k hp i hi) hb' hf)
  have hIsame : ∀ b, I b → w'.heap[b]? = w.heap[b]? := fun b hI => hb.frame b (hM.Ilt b hI) (fun i hi hf => hM.notI _ b (hjlt i hi) hf hI)
  refine ⟨ρ', F', ⟨by rw [hlenH, hρ']; simp, ?_, ?_, ?_, ?_, ?_, ?_, fun k hk => hb.keepI k (hM.I0 k hk), hb.Ilt, ?_, Nat.le_trans hM.size hb.size, hb.os.trans hM.os, hb.tape.trans hM.tape, hb.output.trans hM.output, ?_⟩, hrk, hr1, hr0⟩
  · intro k v hv
    have hk : k < N := by
      rcases Nat.lt_or_ge k N with h | h
      · exact h
      · rw [hget, if_neg (by omega)] at hv; cases hv
    rw [hget, if_pos hk, hpick] at hv
    simp only [Option.some.injEq] at hv
    have hu : Go.undef.oneCell' = true ∨ True := .inr trivial
    split at hv
    · rename_i i hp
      obtain ⟨h1, _⟩ := hpsome _ _ hp
      have hi : i < ρ1.length := by rw [hown.len]; omega
      rw [List.getElem?_eq_getElem hi] at hv
      exact hown.ones i v (by rw [List.getElem?_eq_getElem hi, ← hv]; rfl)
    · split at hv
      · rename_i hk2
        have hi : k < ρ.length := by rw [hM.len]; exact (hblt _ _).1 hk2
        rw [List.getElem?_eq_getElem hi] at hv
        exact hM.ones k v (by rw [List.getElem?_eq_getElem hi, ← hv]; rfl)
      · rename_i hk2
        have hk2 := (hbge _ _).1 hk2
        have hi : k - S.res.length + m < ρ1.length := by rw [hown.len]; omega
        rw [List.getElem?_eq_getElem hi] at hv
        exact hown.ones _ v (by rw [List.getElem?_eq_getElem hi, ← hv]; rfl)
  · intro k r hr
    have hk : k < N := by rw [← hlenH]; exact (List.getElem?_eq_some_iff.1 hr).1
    rcases hcase k hk with ⟨i, hi, hF, hn, hrr⟩ | ⟨hkl, hp, hF, hrr⟩
    · rw [hr, List.getElem?_eq_getElem hi] at hrr
      simp only [Option.map_some, Option.some.injEq] at hrr
      subst hrr
      rw [hF]
      refine Res.holds_tr (fun i j v e hv => ?_) (fun _ h => h) (fun _ _ => rfl) (fun _ _ => rfl) (fun v hv => ?_) _ (.inl (hpl _ (List.getElem_mem hi))) (hown.holds i _ (List.getElem?_eq_getElem hi))
      · cases e; exact hr1 i v hv
      · rw [← hn]; exact hr1 i v hv
    · rw [hr, List.getElem?_eq_getElem hkl] at hrr
      simp only [Option.map_some, Option.some.injEq] at hrr
      subst hrr
      rw [hF]
      exact Res.holds_tr hrk hb.keepI hIsame (hFsame k hkl hp) (fun v hv => hr0 k v hp hv) _ (.inr rfl) (hM.holds k _ (List.getElem?_eq_getElem hkl))
  · intro k k' b hk hk' hne h1 h2
    rw [hlenH] at hk hk'
    rcases hcase k hk with ⟨i, hi, hF, hn, _⟩ | ⟨hkl, hp, hF, _⟩ <;> rcases hcase k' hk' with ⟨i', hi', hF2, hn', _⟩ | ⟨hkl', hp', hF2, _⟩ <;> rw [hF] at h1 <;> rw [hF2] at h2
    · exact hown.apart i i' b hi hi' (fun e => hne (by rw [← hn, ← hn', e])) h1 h2
    · rcases hb.new i b hi h1 with ⟨j, hj, hf⟩ | h3
      · exact hM.apart k' (look js j) b hkl' (hjlt j hj) (hnot k' hp' j hj) h2 hf
      · have := hM.lt k' b hkl' h2; omega
    · rcases hb.new i' b hi' h2 with ⟨j, hj, hf⟩ | h3
      · exact hM.apart k (look js j) b hkl (hjlt j hj) (hnot k hp j hj) h1 hf
      · have := hM.lt k b hkl h1; omega
    · exact hM.apart k k' b hkl hkl' hne h1 h2
  · intro k b hk h1
    rw [hlenH] at hk
    rcases hcase k hk with ⟨i, hi, hF, hn, _⟩ | ⟨hkl, hp, hF, _⟩ <;> rw [hF] at h1
    · exact hown.lt i b hi h1
    · exact Nat.lt_of_lt_of_le (hM.lt k b hkl h1) hb.size
  · intro k b hk h1 hI
    rw [hlenH] at hk
    rcases hcase k hk with ⟨i, hi, hF, hn, _⟩ | ⟨hkl, hp, hF, _⟩ <;> rw [hF] at h1
    · exact hown.notI i b hi h1 hI
    · rcases hb.Inew b hI with h2 | ⟨j, hj, hf⟩ | h2
      · exact hM.notI k b hkl h1 h2
      · exact hM.apart k (look js j) b hkl (hjlt j hj) (hnot k hp j hj) h1 hf
      · have := hM.lt k b hkl h1; omega
  · intro k b hk h1
    rw [hlenH] at hk
    rcases hcase k hk with ⟨i, hi, hF, hn, _⟩ | ⟨hkl, hp, hF, _⟩ <;> rw [hF] at h1
    · rcases hb.new i b hi h1 with ⟨j, hj, hf⟩ | h2
      · exact hM.new _ b (hjlt j hj) hf
      · right; have := hM.size; omega
    · exact hM.new k b hkl h1
  · intro b hI
    rcases hb.Inew b hI with h2 | ⟨j, hj, hf⟩ | h2
    · exact hM.Inew b h2
    · rcases hM.new _ b (hjlt j hj) hf with h3 | h3
      · exact .inr (.inl h3)
      · exact .inr (.inr h3)
    · right; right; have := hM.size; omega
  · intro b hb1 hm
    have hlt : b < w.heap.size := Nat.lt_of_lt_of_le hb1 hM.size
    rw [hb.frame b hlt (fun i hi hf => ?_)]
    · exact hM.frame b hb1 hm
    · rcases hM.new _ b (hjlt i hi) hf with h3 | h3
      · exact hm h3
      · omega

theorem DfrOk.some {ρ' : List Value} : (l : List Nat) → {ds : List Deferred} → (∀ i ∈ l, ∀ v, ρ[i]? = some v → ρ'[i]? = some v) → DfrOk ρ l ds → DfrOk ρ' l ds
  | [], _, _, h => h
  | i :: l, _, hp, h => by
    obtain ⟨D, ds', v, e, h1, h2⟩ := h
    exact ⟨D, ds', v, e, ⟨hp i (by simp) _ h1.1, h1.2⟩, DfrOk.some l (fun j hj => hp j (by simp [hj])) h2⟩

theorem FrOk.tr {ρ' : List Value} {I' : Nat → Prop} {w' : World} {g : Nat → Option Nat} (hρ : ∀ (i j : Nat) v, g i = some j → ρ[i]? = some v → ρ'[j]? = some v) (hI : ∀ k, I k → I' k) (hw : ∀ k, I k → w'.heap[k]? = w.heap[k]?)
    {fr : Fr} {a : Act} (hd : ∀ i ∈ fr.dfr, ∀ v, ρ[i]? = some v → ρ'[i]? = some v) (h : FrOk ρ I w fr a) : FrOk ρ' I' w' (fr.tr g) a :=
  ⟨h.1, fun t => by simp only [Fr.tr, getT_tr]; exact SV.den_tr hρ hI hw _ (h.2.1 t), DfrOk.some _ hd h.2.2⟩

theorem StkOk.tr {ρ' : List Value} {I' : Nat → Prop} {w' : World} {g : Nat → Option Nat} (hρ : ∀ (i j : Nat) v, g i = some j → ρ[i]? = some v → ρ'[j]? = some v) (hI : ∀ k, I k → I' k) (hw : ∀ k, I k → w'.heap[k]? = w.heap[k]?) :
    (l : List Fr) → {sv : List Act} → (∀ fr ∈ l, ∀ i ∈ fr.dfr, ∀ v, ρ[i]? = some v → ρ'[i]? = some v) → StkOk ρ I w l sv → StkOk ρ' I' w' (l.map (Fr.tr g)) sv
  | [], _, _, h => h
  | fr :: l, _, hd, h => by
    obtain ⟨tm, sv', e, h1, h2⟩ := h
    exact ⟨tm, sv', e, h1.tr hρ hI hw (hd fr (by simp)), StkOk.tr hρ hI hw l (fun f hf => hd f (by simp [hf])) h2⟩

theorem posOf_out {js : List Nat} {i : Nat} (h : i ∉ js) : posOf js 0 i = none := by
  cases hp : posOf js 0 i with
  | none => rfl
  | some k =>
    have := (posOf_some js 0 i k hp).2
    exact absurd (List.mem_of_getElem? this) h

theorem hspec_ok {f : FuncId} {H : HC} (hq : H.ok P f) (rs : List Nat) (find : List SV → St → Option (List Nat × H.α)) : SpecOk P f (hspec H rs find) := by
  intro cx S a w sv ss vs K h hk
  obtain ⟨ss1, S1, h1, hk1⟩ := frzAs_ok rs ss S vs _ h hk
  split at hk1
  · rename_i js x hfind
    split at hk1
    · rename_i b1 b2 b3 b4
      obtain ⟨hpre, hss, hres, halts⟩ := hk1
      simp only [Bool.and_eq_true, jsOk, dfrOut, List.all_eq_true, Bool.not_eq_true'] at b1
      obtain ⟨⟨c1, c2, c3⟩, c4, c5⟩ := b1
      have hjl : js.length = H.m := Nat.eq_of_beq_eq_true c1
      have hjn := nodupB_spec js c2
      have hjs : ∀ j ∈ js, j < S1.res.length := fun j hj => by simpa using c3 j hj
      have hRl : (H.Rs x).length = H.m := Nat.eq_of_beq_eq_true b4
      obtain ⟨ρ, I, F, hM, hf, hs, hd⟩ := h1
      have hlook : ∀ i, i < H.m → js[i]? = some (look js i) := fun i hi => by
        have : i < js.length := by omega
        simp [look, List.getElem?_eq_getElem this]
      have hjlt : ∀ i, i < H.m → look js i < S1.res.length := fun i hi => hjs _ (List.mem_of_getElem? (hlook i hi))
      obtain ⟨ρ0, hρ0⟩ : ∃ ρ0, ρ0 = js.map fun j => (ρ[j]?).getD Go.undef := ⟨_, rfl⟩
      have hr0 : ∀ i, i < H.m → ρ0[i]? = ρ[look js i]? := fun i hi => by
        have hl : look js i < ρ.length := by rw [hM.len]; exact hjlt i hi
        rw [hρ0, List.getElem?_map, hlook i hi, List.getElem?_eq_getElem hl]; simp [List.getElem?_eq_getElem hl]
      have hback : ∀ (i : Nat) v, i < H.m → ρ[look js i]? = some v → ρ0[i]? = some v := fun i v hi hv => by rw [hr0 i hi]; exact hv
      have hall := fun r (hr : r ∈ H.Rs x) => (List.all_eq_true.1 b3) r hr
      have hneq : ∀ i j, i < H.m → j < H.m → i ≠ j → look js i ≠ look js j := fun i j hi hj hne e => by
        have h1 := posOf_at hjn (hlook i hi)
        have h2 := posOf_at hjn (hlook j hj)
        rw [e, h2] at h1
        exact hne (by simpa using h1.symm)
      have hown : Own (H.Rs x) ρ0 I (fun i => F (look js i)) w := by
        refine ⟨by rw [hρ0, List.length_map, hjl, hRl], ?_, ?_, ?_, ?_, ?_⟩
        · intro i v hv
          have hi : i < H.m := by rw [← hjl]; have := (List.getElem?_eq_some_iff.1 hv).1; rw [hρ0, List.length_map] at this; exact this
          rw [hr0 i hi] at hv
          exact hM.ones _ v hv
        · intro i r hr
          have hi : i < H.m := by rw [← hRl]; exact (List.getElem?_eq_some_iff.1 hr).1
          obtain ⟨s, g1, g2⟩ := resAll_get (H.Rs x) 0 hres i r hr
          rw [Nat.zero_add] at g1
          have hb := hall r (List.mem_of_getElem? hr)
          simp only [Bool.and_eq_true] at hb
          have g3 := resLe_holds g2 (Res.tr_plain r hb.1) (there_tr r hb.1 hb.2.2) (hM.holds _ s g1)
          exact Res.holds_rt hback (fun v hv => hback i v hi hv) r hb.1 hb.2.1 g3
        · intro i j k hi hj hne; rw [hRl] at hi hj; exact hM.apart _ _ k (hjlt i hi) (hjlt j hj) (hneq i j hi hj hne)
        · intro i k hi; rw [hRl] at hi; exact hM.lt _ k (hjlt i hi)
        · intro i k hi; rw [hRl] at hi; exact hM.notI _ k (hjlt i hi)
      have hd0 : SV.denL ρ0 I w (H.ss x) vs := SV.denL_rt hback (H.ss x) b2 (svLeL_den hss hd)
      refine (hq x hpre ρ0 I _ w vs hown hM.Ilt hd0).mono ?_
      rintro e w' ⟨v, rfl, A, hA, y, ρ1, I', F1, hE⟩
      obtain ⟨ρ', F', hM', hk1, hk2, hk3⟩ := hM.frameH rfl hjl hjn hjs hE.own hE.len hE.plain (fun i hi hkp => (hE.kept i hi hkp).trans (hr0 i hi)) hE.beside
      have hIs : ∀ k, I k → w'.heap[k]? = w.heap[k]? := fun k hI => hE.beside.frame k (hM.Ilt k hI) (fun i hi hf => hM.notI _ k (hjlt i hi) hf hI)
      refine ⟨v, _, _, rfl, ⟨ρ', I', F', hM', hf.tr hk1 hE.beside.keepI hIs (fun i hi v hv => hk3 i v (posOf_out (fun hm => by have := c4 i hi; rw [hasN_iff.2 hm] at this; cases this)) hv),
        StkOk.tr hk1 hE.beside.keepI hIs _ (fun fr hfr i hi v hv => hk3 i v (posOf_out (fun hm => by have := c5 fr hfr i hi; rw [hasN_iff.2 hm] at this; cases this)) hv) hs, ?_⟩, altsK_get H.alts halts A hA y hE.post⟩
      unfold SV.denL
      exact ⟨v, [], rfl, SV.den_tr (fun i j v e hv => by cases e; exact hk2 i v hv) (fun _ h => h) (fun _ _ => rfl) _ hE.den, by simp [SV.denL]⟩
    · exact hk1.elim
  · exact hk1.elim

/-! ### From what is to be shown of a function -/
def rootsT : Nat → List Res → List (Nat × SV)
  | _, [] => []
  | i, _ :: l => (i, .row i) :: rootsT (i + 1) l

def St1 (Rs : List Res) : St := { fr := { n := Rs.length, tm := rootsT 0 Rs }, stk := [], res := Rs }

/-- The places that are as they were. -/
def keptOk (S : St) : Nat → List Bool → Prop
  | _, [] => True
  | i, b :: l => (match b with
    | true => (match getT S.fr.tm i with
      | .row j => match Nat.beq j i with
        | true => True
        | false => False
      | _ => False)
    | false => True) ∧ keptOk S (i + 1) l

/-- One of the ways to end is met. -/
def altOk {α : Type} (m : Nat) (x : α) (A : Alt α) (r : SV) (S : St) : Prop :=
  ∃ y, A.post x y ∧ (svLe r (A.r x y) ∧ (resLeL S.res (A.res x y) ∧ (keptOk S 0 A.kp ∧
    (match SV.wf (A.res x y).length (A.r x y), (A.res x y).all (fun r => r.plain && r.wf (A.res x y).length), Nat.ble m (A.res x y).length, Nat.beq A.kp.length m with
    | true, true, true, true => True
    | _, _, _, _ => False))))

def altsOk {α : Type} (m : Nat) (x : α) (r : SV) (S : St) : List (Alt α) → Prop
  | [] => False
  | A :: l => match l with
    | [] => altOk m x A r S
    | _ => altOk m x A r S ∨ altsOk m x r S l

theorem altsOk_get {α : Type} {m : Nat} {x : α} {r : SV} : (l : List (Alt α)) → altsOk m x r S l → ∃ A ∈ l, altOk m x A r S
  | [], h => h.elim
  | A :: l, h => by
    unfold altsOk at h
    split at h
    · exact ⟨A, by simp, h⟩
    · rcases h with h | h
      · exact ⟨A, by simp, h⟩
      · obtain ⟨B, h1, h2⟩ := altsOk_get l h
        exact ⟨B, by simp [h1], h2⟩

theorem root_ne {lp : Lp} {i : Nat} {G : Nat → Prop} {v : Value} (hv : ρ[i]? = some v) : (r : Res) → r.plain = true → r.there = true → r.holds lp ρ I w i G → Nh v
  | .blk _ _, _, _, h => by obtain ⟨b, vs, h1, _⟩ := h; rw [hv] at h1; cases h1; rfl
  | .ro _ _, _, _, h => by obtain ⟨b, vs, h1, _⟩ := h; rw [hv] at h1; cases h1; rfl
  | .row _ _ _, _, _, h => by obtain ⟨u, cells, h1, h2, _⟩ := h; rw [hv] at h1; cases h1; exact own_ne h2
  | .cust _ _ _, _, _, h => by obtain ⟨u, h1, h2, _⟩ := h; rw [hv] at h1; cases h1; exact h2
  | .mapr _ _ _ _ none, _, _, h => by obtain ⟨b, ents, clock, ro, h1, _⟩ := h; rw [hv] at h1; cases h1; rfl
  | .junk, _, h, _ => by simp [Res.there] at h
  | .fam _ _ _, _, _, h => by have h1 := h.1; rw [hv] at h1; cases h1; rfl
  | .gone, _, h, _ => by simp [Res.there] at h
  | .mapr _ _ _ _ (some _), h, _, _ => by simp [Res.plain] at h
  | .dfr, h, _, _ => by simp [Res.plain] at h
  | .dfrs, h, _, _ => by simp [Res.plain] at h
  | .loop _ _ _ _, h, _, _ => by simp [Res.plain] at h
  | .rsv, h, _, _ => by simp [Res.plain] at h
  | .mv _ _ _ _, h, _, _ => by simp [Res.plain] at h
  | .was, h, _, _ => by simp [Res.plain] at h
  | .mit _, h, _, _ => by simp [Res.plain] at h

theorem rootsT_get : (i : Nat) → (Rs : List Res) → (t : Nat) → getT (rootsT i Rs) t = if i ≤ t ∧ t < i + Rs.length then .row t else .any
  | i, [], t => by simp only [rootsT, getT, List.length_nil]; rw [if_neg (by omega)]
  | i, _ :: l, t => by
    simp only [rootsT, getT]
    by_cases h : i = t
    · subst h; simp
    · have h' : (i == t) = false := by simpa using h
      rw [h', cond_false, rootsT_get (i + 1) l t]
      simp only [List.length_cons]
      by_cases h2 : i + 1 ≤ t ∧ t < i + 1 + l.length
      · rw [if_pos h2, if_pos (by omega)]
      · rw [if_neg h2, if_neg (by omega)]

def keptT : Nat → List Bool → List (Nat × SV)
  | _, [] => []
  | i, b :: l => bif b then (i, .row i) :: keptT (i + 1) l else keptT (i + 1) l

theorem keptT_mem : (n : Nat) → (l : List Bool) → ∀ p ∈ keptT n l, ∃ i, p = (i, .row i) ∧ n ≤ i ∧ i < n + l.length ∧ l[i - n]? = some true
  | n, [], p, h => by simp [keptT] at h
  | n, b :: l, p, h => by
    have hrec := keptT_mem (n + 1) l
    cases b with
    | true =>
      simp only [keptT, cond_true, List.mem_cons] at h
      rcases h with rfl | h
      · exact ⟨n, rfl, Nat.le_refl _, by simp, by simp⟩
      · obtain ⟨i, e, h1, h2, h3⟩ := hrec p h
        refine ⟨i, e, by omega, by simp only [List.length_cons]; omega, ?_⟩
        rw [show i - n = (i - (n + 1)) + 1 by omega]; simpa using h3
    | false =>
      simp only [keptT, cond_false] at h
      obtain ⟨i, e, h1, h2, h3⟩ := hrec p h
      refine ⟨i, e, by omega, by simp only [List.length_cons]; omega, ?_⟩
      rw [show i - n = (i - (n + 1)) + 1 by omega]; simpa using h3

theorem keptT_get : (n : Nat) → (l : List Bool) → (i : Nat) → n ≤ i → l[i - n]? = some true → getT (keptT n l) i = .row i
  | n, [], i, _, h => by simp at h
  | n, b :: l, i, hn, h => by
    by_cases e : i = n
    · subst e
      rw [Nat.sub_self] at h
      simp at h
      subst h
      simp [keptT, getT]
    · have h' : l[i - (n + 1)]? = some true := by
        rw [show i - n = (i - (n + 1)) + 1 by omega] at h; simpa using h
      have := keptT_get (n + 1) l i (by omega) h'
      cases b with
      | true =>
        have e' : (n == i) = false := by simp; omega
        simp only [keptT, cond_true, getT, e', cond_false]; exact this
      | false => simp only [keptT, cond_false]; exact this

theorem keptOk_get {S : St} : (n : Nat) → (l : List Bool) → keptOk S n l → ∀ i, n ≤ i → l[i - n]? = some true → getT S.fr.tm i = .row i
  | n, [], _, i, _, h => by simp at h
  | n, b :: l, hk, i, hn, h => by
    by_cases e : i = n
    · subst e
      rw [Nat.sub_self] at h
      simp at h
      subst h
      have h1 := hk.1
      simp only at h1
      split at h1
      · rename_i j hj
        split at h1
        · rename_i b; rw [hj, Nat.eq_of_beq_eq_true b]
        · exact h1.elim
      · exact h1.elim
    · exact keptOk_get (n + 1) l hk.2 i (by omega) (by rw [show i - n = (i - (n + 1)) + 1 by omega] at h; simpa using h)

/-! ### Resources in another order -/
def permG (js : List Nat) (k : Nat) : Option Nat := posOf js 0 k
def permS (js : List Nat) (S : St) : St := { fr := S.fr.tr (permG js), stk := [], res := js.map fun j => ((S.res[j]?).getD .gone).tr (permG js) }
def permB (js : List Nat) (S : St) : Bool := nodupB js && (js.all (fun j => match S.res[j]? with
  | some r => r.plain
  | none => false) && (S.stk.isEmpty && S.fr.dfr.isEmpty))
/-- The resources that are told, in that order. -/
def permK (js : Option (St → List Nat)) (r : SV) (S : St) (k : SV → St → Prop) : Prop :=
  match js with
  | none => k r S
  | some f => match permB (f S) S with
    | true => k (r.tr (permG (f S))) (permS (f S) S)
    | false => False

theorem Mem.perm {js : List Nat} (hn : js.Nodup) (hget : ∀ j ∈ js, ∃ r, S.res[j]? = some r ∧ r.plain = true) (hM : Mem cx S.res ρ I F w) :
    Mem cx (js.map fun j => ((S.res[j]?).getD .gone).tr (permG js)) (js.map fun j => (ρ[j]?).getD holdV) I (fun i k => ∃ j, js[i]? = some j ∧ F j k) w ∧ ∀ (i j : Nat) v, permG js i = some j → ρ[i]? = some v → (js.map fun j => (ρ[j]?).getD holdV)[j]? = some v := by
  have hlt : ∀ j ∈ js, j < ρ.length := fun j hj => by
    obtain ⟨r, hr, _⟩ := hget j hj
    rw [hM.len]; exact (List.getElem?_eq_some_iff.1 hr).1
  obtain ⟨ρ', hρ'⟩ : ∃ ρ', ρ' = js.map fun j => (ρ[j]?).getD holdV := ⟨_, rfl⟩
  rw [← hρ']
  have hto : ∀ (i j : Nat) v, permG js i = some j → ρ[i]? = some v → ρ'[j]? = some v := by
    intro i j v hg hv
    have := (posOf_some js 0 i j hg).2
    rw [Nat.sub_zero] at this
    rw [hρ', List.getElem?_map, this]
    simp [hv]
  have hat : ∀ (i j : Nat), js[i]? = some j → permG js j = some i := fun i j hi => posOf_at hn hi
  refine ⟨?_, hto⟩
  refine ⟨by simp [hρ'], ?_, ?_, ?_, ?_, ?_, ?_, hM.I0, hM.Ilt, hM.Inew, hM.size, hM.os, hM.tape, hM.output, hM.frame⟩
  · intro i v hv
    rw [hρ', List.getElem?_map, Option.map_eq_some_iff] at hv
    obtain ⟨j, hj, rfl⟩ := hv
    cases hc : ρ[j]? with
    | none => rfl
    | some u => exact hM.ones _ u hc
  · intro i r hr
    simp only [List.getElem?_map, Option.map_eq_some_iff] at hr
    obtain ⟨j, hj, rfl⟩ := hr
    obtain ⟨r, hr, hp⟩ := hget j (List.mem_of_getElem? hj)
    rw [hr, Option.getD_some]
    have hF : (fun k => ∃ j, js[i]? = some j ∧ F j k) = F j := by funext k; simp [hj]
    rw [hF]
    exact Res.holds_tr hto (fun _ h => h) (fun _ _ => rfl) (fun _ _ => rfl) (fun v hv => hto j i v (hat i j hj) hv) r (.inl hp) (hM.holds j r hr)
  · rintro i i' k hi hi' hne ⟨j, hj, hk⟩ ⟨j', hj', hk'⟩
    have hne' : j ≠ j' := fun e => by
      subst e
      have := (hat i j hj).symm.trans (hat i' j hj')
      exact hne (by simpa using this)
    exact hM.apart j j' k (by have := hlt j (List.mem_of_getElem? hj); rw [hM.len] at this; exact this) (by have := hlt j' (List.mem_of_getElem? hj'); rw [hM.len] at this; exact this) hne' hk hk'
  · rintro i k hi ⟨j, hj, hk⟩
    exact hM.lt j k (by have := hlt j (List.mem_of_getElem? hj); rw [hM.len] at this; exact this) hk
  · rintro i k hi ⟨j, hj, hk⟩
    exact hM.notI j k (by have := hlt j (List.mem_of_getElem? hj); rw [hM.len] at this; exact this) hk
  · rintro i k hi ⟨j, hj, hk⟩
    exact hM.new j k (by have := hlt j (List.mem_of_getElem? hj); rw [hM.len] at this; exact this) hk

theorem Ok.perm {js : List Nat} (hb : permB js S = true) {ss : List SV} {vs : List Value} (h : Ok cx S a w sv ss vs) : Ok cx (permS js S) a w sv (SV.trL (permG js) ss) vs := by
  simp only [permB, Bool.and_eq_true, List.isEmpty_iff] at hb
  obtain ⟨h1, h2, h3, h4⟩ := hb
  have hn := nodupB_spec js h1
  obtain ⟨ρ, I, F, hM, hf, hs, hd⟩ := h
  have hget : ∀ j ∈ js, ∃ r, S.res[j]? = some r ∧ r.plain = true := fun j hj => by
    have := List.all_eq_true.1 h2 j hj
    split at this
    · rename_i r hr; exact ⟨r, hr, this⟩
    · cases this
  obtain ⟨hM', hto⟩ := hM.perm hn hget
  refine ⟨_, I, _, hM', hf.tr hto (fun _ h => h) (fun _ _ => rfl) (fun i hi => by rw [h4] at hi; cases hi), ?_, SV.denL_tr hto (fun _ h => h) (fun _ _ => rfl) _ hd⟩
  rw [h3] at hs
  exact hs

theorem permK_ok {js : Option (St → List Nat)} {r : SV} {v : Value} {k : SV → St → Prop} (h : Ok cx S a w sv [r] [v]) (hk : permK js r S k) : ∃ r' S', Ok cx S' a w sv [r'] [v] ∧ k r' S' := by
  unfold permK at hk
  split at hk
  · exact ⟨r, S, h, hk⟩
  · split at hk
    · rename_i hb
      exact ⟨_, _, h.perm hb, hk⟩
    · exact hk.elim

/-- What is done as a function has ended, ahead of what is asked of its end. -/
structure Fin where
  T : SV → St → (SV → St → Prop) → Prop
  ok : ∀ {cx : Cx} {S : St} {w : World} {a : Act} {sv : List Act} {r : SV} {v : Value} {k : SV → St → Prop}, Ok cx S a w sv [r] [v] → T r S k → ∃ r' S', Ok cx S' a w sv [r'] [v] ∧ k r' S'
def Fin.no : Fin := ⟨fun r S k => k r S, fun h hk => ⟨_, _, h, hk⟩⟩
def Fin.perm (f : St → List Nat) : Fin := ⟨permK (some f), permK_ok⟩
/-- Own rows in the result are let go. -/
def Fin.frz : Fin := ⟨fun r S k => frzL 4 [r] S fun rs S' => match rs with
  | [r'] => k r' S'
  | _ => False, fun h hk => by
    obtain ⟨ss', S', h1, h2⟩ := frzL_ok 4 _ _ _ _ h hk
    split at h2
    · exact ⟨_, S', h1, h2⟩
    · exact h2.elim⟩
def Fin.comp (A B : Fin) : Fin := ⟨fun r S k => A.T r S fun r S => B.T r S k, fun h hk => by
  obtain ⟨r1, S1, h1, h2⟩ := A.ok h hk
  exact B.ok h1 h2⟩

theorem hc_ofP (T : Fin) (hmix : P.follows .mixedOrders = true) {f : FuncId} {fn : Func} {c : Code} (hf : P.funcs[f]? = some fn) (hb : fn.body = some c) (H : HC)
    (hck : ∀ x, (Nat.ble (H.ss x).length fn.ntmps && (Nat.beq (H.Rs x).length H.m && (H.Rs x).all (fun r => r.plain && r.there))) = true)
    (h : ∀ x, H.pre x → ∃ E : Env, E.ok P ∧ E.y = none ∧ Holds (fvc P E fn c (H.ss x) (St1 (H.Rs x)) fun r S => T.T r S fun r S => altsOk H.m x r S H.alts)) : H.ok P f := by
  intro x hpre ρ0 I F w vs hown hI hd
  obtain ⟨E, hE, hy, ⟨hv⟩⟩ := h x hpre
  have hc := hck x
  simp only [Bool.and_eq_true] at hc
  obtain ⟨hc1, hc2, hc3⟩ := hc
  have hRl : (H.Rs x).length = H.m := Nat.eq_of_beq_eq_true hc2
  have hM : Mem ⟨fun _ => none, I, fun k => ∃ i, i < H.m ∧ F i k, w⟩ (H.Rs x) ρ0 I F w :=
    ⟨hown.len, hown.ones, hown.holds, hown.apart, hown.lt, hown.notI, fun i k hi hk => .inl ⟨i, by omega, hk⟩, fun k h => h, hI, fun k h => .inl h, Nat.le_refl _, rfl, rfl, rfl, fun k _ _ => rfl⟩
  have h0 : Ok ⟨fun _ => none, I, fun k => ∃ i, i < H.m ∧ F i k, w⟩ (St1 (H.Rs x)) ⟨ρ0.toArray, []⟩ w [] (H.ss x) vs := by
    refine ⟨ρ0, I, F, hM, ⟨by simp [St1, hown.len], fun t => ?_, rfl⟩, rfl, hd⟩
    simp only [St1, rootsT_get]
    split
    · rename_i ht
      have htl : t < ρ0.length := by rw [hown.len]; omega
      have htR : t < (H.Rs x).length := by omega
      have hr := List.getElem?_eq_getElem htR
      have hp := (List.all_eq_true.1 hc3) _ (List.getElem_mem htR)
      simp only [Bool.and_eq_true] at hp
      have e1 : ρ0.toArray.getD t Go.undef = ρ0[t] := by simp [Array.getD, htl]
      rw [e1]
      unfold SV.den
      exact ⟨List.getElem?_eq_getElem htl, root_ne (List.getElem?_eq_getElem htl) _ hp.1 hp.2 (hown.holds t _ hr)⟩
    · simp [SV.den]
  refine (fvc_sound hE hmix (φ := fun _ => True) trivial (fun Y e => by rw [hy] at e; cases e) hf hb h0 (Nat.le_of_ble_eq_true hc1) hv).mono ?_
  rintro e w' ⟨v, s0, S0, rfl, h10, h20⟩
  obtain ⟨s, S', h1, h2⟩ := T.ok h10 h20
  obtain ⟨A, hA, y, hpost, hle, hres, hkept, hchk⟩ := altsOk_get H.alts h2
  refine ⟨v, rfl, A, hA, y, ?_⟩
  split at hchk
  · rename_i q1 q2 q3 q4
    have hml : H.m ≤ (A.res x y).length := Nat.le_of_ble_eq_true q3
    have hkl : A.kp.length = H.m := Nat.eq_of_beq_eq_true q4
    obtain ⟨ρ2, I2, F2, hM2, hf2, hs2, hd2⟩ := h1
    have hstk : S'.stk = [] := by
      cases hst : S'.stk with
      | nil => rfl
      | cons fr l => rw [hst] at hs2; obtain ⟨a', sv', e, _⟩ := hs2; cases e
    have hn : S'.fr.n = H.m := by rw [← hf2.1]; simp [hown.len, hRl]
    unfold SV.denL at hd2
    obtain ⟨v', vs', ev, hd2, _⟩ := hd2
    simp only [List.cons.injEq] at ev
    obtain ⟨rfl, _⟩ := ev
    have hsz : ρ0.length = H.m := by rw [hown.len, hRl]
    -- the result in a slot of its own
    have hS2 : Ok ⟨fun _ => none, I, fun k => ∃ i, i < H.m ∧ F i k, w⟩ { S' with fr := { n := H.m + 1, tm := (H.m, s) :: S'.fr.tm, dfr := [] } } ⟨(ρ0 ++ [v]).toArray, []⟩ w' [] [] [] := by
      refine ⟨ρ2, I2, F2, hM2, ⟨by simp [hsz], fun t => ?_, rfl⟩, hs2, by simp [SV.denL]⟩
      simp only [getT]
      by_cases e : H.m = t
      · subst e
        simp only [beq_self_eq_true, cond_true]
        have : (ρ0 ++ [v]).toArray.getD H.m Go.undef = v := by simp [Array.getD, hsz]
        rw [this]; exact hd2
      · have e' : (H.m == t) = false := by simpa using e
        rw [e', cond_false]
        have h3 := hf2.2.1 t
        have : (ρ0 ++ [v]).toArray.getD t Go.undef = ρ0.toArray.getD t Go.undef := by
          simp only [Array.getD_eq_getD_getElem?, List.getElem?_toArray]
          by_cases ht : t < ρ0.length
          · rw [List.getElem?_append_left ht]
          · rw [List.getElem?_eq_none (by simp; omega), List.getElem?_eq_none (by omega)]
        rw [this]; exact h3
    have hT := hS2.weaken (T := { fr := { n := H.m + 1, tm := (H.m, A.r x y) :: keptT 0 A.kp, dfr := [] }, stk := [], res := A.res x y })
      { n := rfl
        dfr := rfl
        stk := by show stkLe S'.stk []; rw [hstk]; exact trivial
        tm := by
          have hg : ∀ i, i < H.m → getT ((H.m, s) :: S'.fr.tm) i = getT S'.fr.tm i := fun i hi => by
            have e' : (H.m == i) = false := by simp; omega
            simp only [getT, e', cond_false]
          have hg2 : ∀ i, i < H.m → getT ((H.m, A.r x y) :: keptT 0 A.kp) i = getT (keptT 0 A.kp) i := fun i hi => by
            have e' : (H.m == i) = false := by simp; omega
            simp only [getT, e', cond_false]
          show tmLe _ _ ((H.m, A.r x y) :: keptT 0 A.kp)
          refine ⟨by simp [getT]; exact hle, ?_⟩
          have : ∀ l : List (Nat × SV), (∀ p ∈ l, p ∈ keptT 0 A.kp) → tmLe ((H.m, s) :: S'.fr.tm) ((H.m, A.r x y) :: keptT 0 A.kp) l := by
            intro l
            induction l with
            | nil => intro _; exact trivial
            | cons p l ih =>
              intro hp
              obtain ⟨i, rfl, _, h2, h3⟩ := keptT_mem 0 A.kp p (hp p (by simp))
              refine ⟨?_, ih (fun q hq => hp q (by simp [hq]))⟩
              rw [hg i (by omega), hg2 i (by omega), keptT_get 0 A.kp i (Nat.zero_le _) h3, keptOk_get 0 A.kp hkept i (Nat.zero_le _) h3]
              simp [svLe]
          exact this _ (fun p hp => hp)
        res := hres
        wft := by
          rw [List.all_cons, Bool.and_eq_true]
          refine ⟨q1, List.all_eq_true.2 fun p hp => ?_⟩
          obtain ⟨i, rfl, _, h2, _⟩ := keptT_mem 0 A.kp p hp
          simp only [SV.wf]
          simp only [Nat.blt_eq]
          omega
        wfr := by
          refine List.all_eq_true.2 fun r hr => ?_
          have := (List.all_eq_true.1 q2) r hr
          simp only [Bool.and_eq_true] at this
          exact this.2
        wfs := rfl
        wfd := rfl }
    obtain ⟨ρ3, I3, F3, hM3, hf3, _, _⟩ := hT
    refine ⟨ρ3, I3, F3, hpost, ⟨hM3.len, hM3.ones, hM3.holds, hM3.apart, hM3.lt, hM3.notI⟩, ?_, hml, ?_, ?_, ?_⟩
    · have := hf3.2.1 H.m
      simp only [getT, beq_self_eq_true, cond_true] at this
      have e : (ρ0 ++ [v]).toArray.getD H.m Go.undef = v := by simp [Array.getD, hsz]
      rw [e] at this
      exact this
    · intro r hr
      have := (List.all_eq_true.1 q2) r hr
      simp only [Bool.and_eq_true] at this
      exact this.1
    · intro i hi hk
      have := hf3.2.1 i
      have e' : (H.m == i) = false := by simp; omega
      simp only [getT, e', cond_false] at this
      rw [keptT_get 0 A.kp i (Nat.zero_le _) (by simpa using hk)] at this
      unfold SV.den at this
      have hil : i < ρ0.length := by omega
      rw [this.1, Array.getD_eq_getD_getElem?, List.getElem?_toArray, List.getElem?_append_left hil, List.getElem?_eq_getElem hil]
      rfl
    · refine ⟨hM3.os, hM3.tape, hM3.output, hM3.size, fun k hk hn => hM3.frame k hk (fun ⟨i, hi, hf⟩ => hn i hi hf), hM3.I0, fun k hk => ?_, hM3.Ilt, fun i k hi hk => ?_⟩
      · rcases hM3.Inew k hk with h3 | ⟨i, hi, hf⟩ | h3
        · exact .inl h3
        · exact .inr (.inl ⟨i, hi, hf⟩)
        · exact .inr (.inr h3)
      · exact hM3.new i k hi hk
  · exact hchk.elim
theorem hc_of (hmix : P.follows .mixedOrders = true) {f : FuncId} {fn : Func} {c : Code} (hf : P.funcs[f]? = some fn) (hb : fn.body = some c) (H : HC)
    (hck : ∀ x, (Nat.ble (H.ss x).length fn.ntmps && (Nat.beq (H.Rs x).length H.m && (H.Rs x).all (fun r => r.plain && r.there))) = true)
    (h : ∀ x, H.pre x → ∃ E : Env, E.ok P ∧ E.y = none ∧ Holds (fvc P E fn c (H.ss x) (St1 (H.Rs x)) fun r S => altsOk H.m x r S H.alts)) : H.ok P f := hc_ofP Fin.no hmix hf hb H hck h
end
end Go.Proofs.Ythoaelmomocohaa.Gx
namespace Go.Proofs.Ythoaelmomocohaa.Gx
set_option linter.unusedSimpArgs false
set_option linter.unusedVariables false

theorem wrap64 {n : Int} (h1 : -9223372036854775808 ≤ n) (h2 : n < 9223372036854775808) : IntKind.i64.wrap n = n := by
  simp only [IntKind.wrap, IntKind.bits, IntKind.signed]
  simp
  split <;> omega

theorem maxLen_eq : maxLen = 9223372036854775807 := rfl

theorem wrap_succ {i n : Nat} (h : i < n) (hn : n ≤ maxLen) : IntKind.i64.wrap ((i : Int) + 1) = ((i + 1 : Nat) : Int) := by
  rw [wrap64 (by omega) (by rw [maxLen_eq] at hn; omega)]; omega

theorem get_of_lt {α : Type} {l : List α} {i : Nat} {y : α} (h : l[i]? = some y) : i < l.length := (List.getElem?_eq_some_iff.1 h).1
end Go.Proofs.Ythoaelmomocohaa.Gx
namespace Go.Proofs.Ythoaelmomocohaa.Gx
open Go.RowKit Go.ChangeShapes Go.WideShapes
set_option linter.unusedSimpArgs false
set_option linter.unusedVariables false

/-- A lower bound of a datum's bytes. -/
def wT : Ty → Nat
  | .int .i64 => 8
  | .int .u64 => 8
  | .int _ => 1
  | .bool => 1
  | .str => 16
  | .slice _ => 24
  | .adr _ => 8
  | .hd _ => 24
  | .pair a b => wT a + wT b

/-- No slice of it is beyond the form's reach. -/
def Sz : (t : Ty) → t.den → Prop
  | .slice t, xs => List.length xs * wT t ≤ reachBytes ∧ ∀ (i : Nat) (x : t.den), xs[i]? = some x → Sz t x
  | .pair a b, x => Sz a x.1 ∧ Sz b x.2
  | _, _ => True

def SzL : (ts : List Ty) → Den ts → Prop
  | [], _ => True
  | t :: ts, x => Sz t x.1 ∧ SzL ts x.2

mutual
def fitB (P : Program) : Nat → TypeId → Ty → Bool
  | 0, _, _ => false
  | n + 1, T, t => match P.underlying T, t with
    | some (.int k), .int k' => decide (k = k')
    | some .bool, .bool => true
    | some .string, .str => true
    | some (.slice e), .slice t => Nat.beq (P.cellsOf e) t.sz && (Nat.ble (wT t) (P.bytesOf e) && fitB P n e t)
    | some (.struct fs), t => Nat.beq (P.cellsOf T) t.sz && fitF P n 0 fs.toList t
    | some (.array k e), t => Nat.beq (P.cellsOf T) t.sz && fitA P n k e t
    | _, _ => false
def fitA (P : Program) : Nat → Nat → TypeId → Ty → Bool
  | 0, _, _, _ => false
  | n + 1, k, e, t => match k with
    | 0 => false
    | k + 1 => match k with
      | 0 => Nat.beq (P.cellsOf e) t.sz && fitB P n e t
      | k' + 1 => match t with
        | .pair a b => Nat.beq (P.cellsOf e) a.sz && (fitB P n e a && fitA P n (k' + 1) e b)
        | _ => false
def fitF (P : Program) : Nat → Nat → List Field → Ty → Bool
  | 0, _, _, _ => false
  | n + 1, off, fs, t => match fs with
    | [] => false
    | f :: fs => match fs with
      | [] => Nat.beq f.offset off && (Nat.beq (P.cellsOf f.type) t.sz && fitB P n f.type t)
      | _ :: _ => match t with
        | .pair a b => Nat.beq f.offset off && (Nat.beq (P.cellsOf f.type) a.sz && (fitB P n f.type a && fitF P n (off + a.sz) fs b))
        | _ => false
end

theorem list_of_lt {α : Type} {p : Nat → α → Prop} : (n : Nat) → (∀ i, i < n → ∃ x, p i x) → ∃ xs : List α, xs.length = n ∧ ∀ i x, xs[i]? = some x → p i x
  | 0, _ => ⟨[], rfl, fun i x h => by simp at h⟩
  | n + 1, h => by
    obtain ⟨xs, h1, h2⟩ := list_of_lt n (fun i hi => h i (by omega))
    obtain ⟨x, hx⟩ := h n (by omega)
    refine ⟨xs ++ [x], by simp [h1], fun i y hy => ?_⟩
    rw [List.getElem?_append] at hy
    split at hy
    · exact h2 i y hy
    · rename_i hlt
      have : i = n := by
        rcases Nat.lt_or_ge (i - xs.length) 1 with h3 | h3
        · omega
        · rw [List.getElem?_eq_none (by simpa using h3)] at hy; cases hy
      subst this
      simp [h1] at hy
      subst hy; exact hx

theorem implode_explode : (t : Ty) → (x : t.den) → (l : List SV) → implode t (explode t x ++ l) = some (x, l)
  | .int k, x, l => by simp [implode, explode, implI, implB, implS, implR]
  | .bool, x, l => by simp [implode, explode, implI, implB, implS, implR]
  | .str, x, l => by simp [implode, explode, implI, implB, implS, implR]
  | .slice t, x, l => by simp [implode, explode, implI, implB, implS, implR]
  | .pair a b, x, l => by simp [implode, explode, List.append_assoc, implode_explode a, implode_explode b]
  | .adr T, x, l => by simp [implode, explode, implA]
  | .hd e, x, l => by simp [implode, explode, implH]
theorem asTy_ofTy (t : Ty) (x : t.den) : asTy t (ofTy t x) = some x := by
  have h := implode_explode t x []
  rw [List.append_nil] at h
  cases t <;> simp only [asTy, ofTy] <;> first | (rw [h]) | (simp only [explode] at h; rw [h])
theorem asArgs_ofArgs : (ts : List Ty) → (x : Den ts) → asArgs ts (ofArgs ts x) = some x
  | [], _ => rfl
  | t :: ts, x => by simp only [ofArgs, asArgs, asTy_ofTy, asArgs_ofArgs ts]

section
variable {H : Type} {enc : TypeId × Value → H} {P : Program} {w : World} {spare : Nat → Bool} {held : Bool}

theorem all_wa {P : Program} {e : TypeId} : {ds : List (DataW H)} → (DataW.weightsAll P e ds).all (· ≤ reachBytes) = true → ∀ (i : Nat) (d : DataW H), ds[i]? = some d → (d.weights P e).all (· ≤ reachBytes) = true
  | [], _, i, d, h => by simp at h
  | x :: ds, hw, i, d, h => by
    simp only [DataW.weightsAll, List.all_append, Bool.and_eq_true] at hw
    cases i with
    | zero => simp at h; subst h; exact hw.1
    | succ i => exact all_wa hw.2 i d (by simpa using h)

theorem all_we {P : Program} : {Ts : List TypeId} → {ds : List (DataW H)} → (DataW.weightsEach P Ts ds).all (· ≤ reachBytes) = true → ∀ (i : Nat) (T : TypeId) (d : DataW H), Ts[i]? = some T → ds[i]? = some d → (d.weights P T).all (· ≤ reachBytes) = true
  | [], _, _, i, T, d, h, _ => by simp at h
  | _ :: _, [], _, i, T, d, _, h => by simp at h
  | T0 :: Ts, x :: ds, hw, i, T, d, h1, h2 => by
    simp only [DataW.weightsEach, List.all_append, Bool.and_eq_true] at hw
    cases i with
    | zero => simp at h1 h2; subst h1; subst h2; exact hw.1
    | succ i => exact all_we hw.2 i T d (by simpa using h1) (by simpa using h2)

mutual
theorem rd_of : (n : Nat) → (T : TypeId) → (t : Ty) → fitB P n T t = true → ∀ {fuel : Nat} {cs : List Value} {x : DataW H × List MemPlace}, DataW.trod enc P w 0 spare held fuel T cs = some x →
    ∃ y : t.den, Rd (fun k => k < w.heap.size) w t y cs ∧ ((x.1.weights P T).all (· ≤ reachBytes) = true → Sz t y)
  | 0, _, _, h => by simp [fitB] at h
  | n + 1, T, t, h => by
    intro hx
    rename_i fuel cs x
    unfold fitB at h
    split at h
    · rename_i k k' hT
      obtain rfl := of_decide_eq_true h
      obtain ⟨m, rfl, _, _⟩ := DataW.trod_int hT hx
      exact ⟨m, rfl, fun _ => trivial⟩
    · rename_i hT
      obtain ⟨b, rfl, _⟩ := DataW.trod_bool hT hx
      exact ⟨b, rfl, fun _ => trivial⟩
    · rename_i hT
      obtain ⟨s, rfl, _, hs⟩ := DataW.trod_string hT hx
      exact ⟨s, ⟨rfl, hs⟩, fun _ => trivial⟩
    · rename_i e t hT
      simp only [Bool.and_eq_true] at h
      have hsz := Nat.eq_of_beq_eq_true h.1
      have hwt := Nat.le_of_ble_eq_true h.2.1
      rcases DataW.trod_slice hT hx with ⟨rfl, _⟩ | ⟨a, len, cap, elems, rest, m, _, rfl, rfl, hb, hl, hm, hlen, hel, _, _⟩
      · exact ⟨[], ⟨none, 0, rfl, Nat.le_refl _, by simp [maxLen], fun i x hx => by simp at hx⟩, fun _ => ⟨by simp, fun i x hx => by simp at hx⟩⟩
      · obtain ⟨xs, h1, h2⟩ := list_of_lt (p := fun i (x : t.den) => (∃ cells, a.block < w.heap.size ∧ Rd (fun k => k < w.heap.size) w t x cells ∧ ∀ j u, cells[j]? = some u → w.cell? (a.add (i * t.sz + j)) = some u) ∧
            ((DataW.weightsAll P e (elems.map (·.1))).all (· ≤ reachBytes) = true → Sz t x)) len (fun i hi => by
          have := hel i hi
          have hei := List.getElem?_eq_getElem (show i < elems.length by omega)
          rw [hei] at this
          obtain ⟨cs', g1, g2⟩ := Option.bind_eq_some_iff.1 this
          obtain ⟨y, hy, hyw⟩ := rd_of n e t h.2.2 g2
          have hpos := Ty.sz_pos t
          refine ⟨y, ⟨cs', ?_, hy, fun j u hj => ?_⟩, fun hw => hyw (all_wa hw i _ (by rw [List.getElem?_map, hei]; rfl))⟩
          · have := World.cells?_block g1 (by rw [hsz]; exact hpos)
            rwa [add_block] at this
          · obtain ⟨g3, g4, g5⟩ := World.cells?_some g1
            rw [← add_add, ← hsz]
            have := g5 j (by rw [← g4]; exact (List.getElem?_eq_some_iff.1 hj).1)
            rw [this]; exact hj)
        refine ⟨xs, ⟨some a, cap, by rw [h1], by omega, hm, fun i x hx => ?_⟩, fun hw => ?_⟩
        · obtain ⟨⟨cells, g1, g2, g3⟩, _⟩ := h2 i x hx
          exact ⟨a, cells, rfl, g1, g2, g3⟩
        · simp only [DataW.weights, hT, List.all_cons, List.all_append, Bool.and_eq_true, decide_eq_true_eq, List.length_map] at hw
          refine ⟨?_, fun i x hx => (h2 i x hx).2 hw.2.1⟩
          rw [h1, ← hlen]
          exact Nat.le_trans (Nat.mul_le_mul (Nat.le_add_right _ _) hwt) hw.1
    · rename_i fs hT
      rw [Bool.and_eq_true] at h
      have hsz := Nat.eq_of_beq_eq_true h.1
      obtain ⟨xs, m, _, hxe, hlen, hfs, hall⟩ := DataW.trod_struct hT hx
      obtain ⟨y, hy, hyw⟩ := rdF_of n 0 fs.toList _ h.2 (m := m) (cs := cs) (hw := (x.1.weights P T).all (· ≤ reachBytes) = true) (by rw [hlen, hsz]; omega) (fun i f hf => by
        have hf' : fs[i]? = some f := by simpa using hf
        have := hall i f hf'
        obtain ⟨hlt, _⟩ := Array.getElem?_eq_some_iff.1 hf'
        have hxi := List.getElem?_eq_getElem (show i < xs.length by omega)
        rw [hxi] at this
        refine ⟨_, this, fun hw => ?_⟩
        rw [hxe] at hw
        simp only [DataW.weights, hT] at hw
        exact all_we hw i f.type _ (by rw [List.getElem?_map, hf]; rfl) (by rw [List.getElem?_map, hxi]; rfl))
      exact ⟨y, by simpa using hy, hyw⟩
    · rename_i k e hT
      rw [Bool.and_eq_true] at h
      have hsz := Nat.eq_of_beq_eq_true h.1
      obtain ⟨xs, m, _, hxe, hlen, hfs, hall⟩ := DataW.trod_array hT hx
      obtain ⟨y, hy, hyw⟩ := rdA_of n k e 0 _ h.2 (m := m) (cs := cs) (hw := (x.1.weights P T).all (· ≤ reachBytes) = true) (by rw [hlen, hsz]; omega) (fun i hi => by
        have := hall i hi
        have hxi := List.getElem?_eq_getElem (show i < xs.length by omega)
        rw [hxi] at this
        refine ⟨_, by rw [Nat.zero_add]; exact this, fun hw => ?_⟩
        rw [hxe] at hw
        simp only [DataW.weights, hT] at hw
        exact all_wa hw i _ (by rw [List.getElem?_map, hxi]; rfl))
      exact ⟨y, by simpa using hy, hyw⟩
    · cases h
theorem rdA_of : (n : Nat) → (k : Nat) → (e : TypeId) → (off : Nat) → (t : Ty) → fitA P n k e t = true → ∀ {m : Nat} {cs : List Value} {hw : Prop}, cs.length = off + t.sz →
    (∀ (i : Nat), i < k → ∃ x, DataW.trod enc P w 0 spare held m e ((cs.drop (off + i * P.cellsOf e)).take (P.cellsOf e)) = some x ∧ (hw → (x.1.weights P e).all (· ≤ reachBytes) = true)) →
    ∃ y : t.den, Rd (fun k => k < w.heap.size) w t y (cs.drop off) ∧ (hw → Sz t y)
  | 0, _, _, _, _, h => by simp [fitA] at h
  | n + 1, k, e, off, t, h => by
    intro hlen hall
    rename_i m cs hw
    unfold fitA at h
    split at h
    · cases h
    · rename_i k
      split at h
      · simp only [Bool.and_eq_true] at h
        have e2 := Nat.eq_of_beq_eq_true h.1
        obtain ⟨x, hx, hxw⟩ := hall 0 (by omega)
        obtain ⟨y, hy, hyw⟩ := rd_of n e t h.2 hx
        refine ⟨y, ?_, fun hw => hyw (hxw hw)⟩
        rw [Nat.zero_mul, Nat.add_zero, e2, List.take_of_length_le (by simp [hlen])] at hy
        exact hy
      · rename_i k'
        split at h
        · rename_i a b
          simp only [Bool.and_eq_true] at h
          have e2 := Nat.eq_of_beq_eq_true h.1
          obtain ⟨x, hx, hxw⟩ := hall 0 (by omega)
          obtain ⟨y, hy, hyw⟩ := rd_of n e a h.2.1 hx
          obtain ⟨z, hz, hzw⟩ := rdA_of n (k' + 1) e (off + a.sz) b h.2.2 (m := m) (cs := cs) (hw := hw) (by simp only [Ty.sz] at hlen; omega) (fun i hi => by
            have := hall (i + 1) (by omega)
            rwa [Nat.add_mul, Nat.one_mul, show off + (i * P.cellsOf e + P.cellsOf e) = off + a.sz + i * P.cellsOf e by omega] at this)
          refine ⟨(y, z), ⟨(cs.drop off).take a.sz, cs.drop (off + a.sz), ?_, ?_, hz⟩, fun hw => ⟨hyw (hxw hw), hzw hw⟩⟩
          · rw [← List.drop_drop, List.take_append_drop]
          · rw [Nat.zero_mul, Nat.add_zero, e2] at hy; exact hy
        · cases h
theorem rdF_of : (n : Nat) → (off : Nat) → (fs : List Field) → (t : Ty) → fitF P n off fs t = true → ∀ {m : Nat} {cs : List Value} {hw : Prop}, cs.length = off + t.sz →
    (∀ (i : Nat) (f : Field), fs[i]? = some f → ∃ x, DataW.trod enc P w 0 spare held m f.type ((cs.drop f.offset).take (P.cellsOf f.type)) = some x ∧ (hw → (x.1.weights P f.type).all (· ≤ reachBytes) = true)) →
    ∃ y : t.den, Rd (fun k => k < w.heap.size) w t y (cs.drop off) ∧ (hw → Sz t y)
  | 0, _, _, _, h => by simp [fitF] at h
  | n + 1, off, fs, t, h => by
    intro hlen hall
    rename_i m cs hw
    unfold fitF at h
    split at h
    · cases h
    · rename_i f fs
      split at h
      · simp only [Bool.and_eq_true] at h
        have e1 := Nat.eq_of_beq_eq_true h.1
        have e2 := Nat.eq_of_beq_eq_true h.2.1
        obtain ⟨x, hx, hxw⟩ := hall 0 f rfl
        obtain ⟨y, hy, hyw⟩ := rd_of n f.type t h.2.2 hx
        refine ⟨y, ?_, fun hw => hyw (hxw hw)⟩
        rw [e1, e2, List.take_of_length_le (by simp [hlen])] at hy
        exact hy
      · rename_i f2 fs2
        split at h
        · rename_i a b
          simp only [Bool.and_eq_true] at h
          have e1 := Nat.eq_of_beq_eq_true h.1
          have e2 := Nat.eq_of_beq_eq_true h.2.1
          obtain ⟨x, hx, hxw⟩ := hall 0 f rfl
          obtain ⟨y, hy, hyw⟩ := rd_of n f.type a h.2.2.1 hx
          obtain ⟨z, hz, hzw⟩ := rdF_of n (off + a.sz) (f2 :: fs2) b h.2.2.2 (m := m) (cs := cs) (hw := hw) (by simp only [Ty.sz] at hlen; omega) (fun i g hg => hall (i + 1) g (by simpa using hg))
          refine ⟨(y, z), ⟨(cs.drop off).take a.sz, cs.drop (off + a.sz), ?_, ?_, hz⟩, fun hw => ⟨hyw (hxw hw), hzw hw⟩⟩
          · rw [← List.drop_drop, List.take_append_drop]
          · rw [e1, e2] at hy; exact hy
        · cases h
end

def leafB (P : Program) (T : TypeId) : Bool := match P.underlying T with
  | some (.struct _) => false
  | some (.array _ _) => false
  | some _ => true
  | none => false

/-- A value of a type reads as data: structs as aggregates, all else in one cell. -/
def topB (P : Program) (T : TypeId) (t : Ty) : Bool := match t with
  | .pair _ _ => match P.underlying T with
    | some (.struct _) => true
    | some (.array _ _) => true
    | _ => false
  | _ => leafB P T

theorem cells_one {v : Value} {base : Nat} {T : TypeId} {r : Reach} (hok : Value.okWide P w r base T v) (h : leafB P T = true) : v.cells.toList = [v] := by
  unfold leafB at h
  unfold Value.okWide at hok
  split at hok
  · rename_i e; rw [e] at h; cases h
  · rename_i e; rw [e] at h; cases h
  · cases v <;> first | rfl | skip
    exfalso
    unfold Cell.okWide at hok
    split at hok <;> first | (rename_i e _; cases e) | skip
    all_goals first | exact Value.noConfusion ‹_› | skip
    unfold Cell.ok at hok
    split at hok <;> first | exact hok | skip
    all_goals simp_all

theorem sv_of {v : Value} {base : Nat} {T : TypeId} {r : Reach} {t : Ty} {ρ : List Value} (hok : Value.okWide P w r base T v) (ht : topB P T t = true) {y : t.den} (h : Rd (fun k => k < w.heap.size) w t y v.cells.toList) :
    SV.den ρ (fun k => k < w.heap.size) w (ofTy t y) v := by
  have leaf : leafB P T = true → explode t y = [ofTy t y] → SV.den ρ (fun k => k < w.heap.size) w (ofTy t y) v := by
    intro h1 h2
    have h3 := explode_den (ρ := ρ) t h
    rw [cells_one hok h1, h2] at h3
    unfold SV.denL at h3
    obtain ⟨v', vs, e, g, _⟩ := h3
    cases e
    exact g
  cases t with
  | int k => exact leaf ht rfl
  | bool => exact leaf ht rfl
  | str => exact leaf ht rfl
  | adr T => exact leaf ht rfl
  | hd e => exact leaf ht rfl
  | slice t => exact leaf ht rfl
  | pair a b =>
    simp only [topB] at ht
    split at ht
    · rename_i fs e
      unfold Value.okWide at hok
      rw [e] at hok
      obtain ⟨cs, rfl, _⟩ := hok
      simp only [ofTy]
      unfold SV.den
      refine ⟨cs.toList, by simp, explode_den _ ?_⟩
      simpa [Value.cells] using h
    · rename_i k u e
      unfold Value.okWide at hok
      rw [e] at hok
      obtain ⟨cs, rfl, _⟩ := hok
      simp only [ofTy]
      unfold SV.den
      refine ⟨cs.toList, by simp, explode_den _ ?_⟩
      simpa [Value.cells] using h
    · cases ht

def fitsB (P : Program) (n : Nat) : List TypeId → List Ty → Bool
  | [], [] => true
  | T :: Ts, t :: ts => fitB P n T t && (topB P T t && fitsB P n Ts ts)
  | _, _ => false

theorem args_of {ρ : List Value} {base : Nat} {r : Reach} (n : Nat) : (Ts : List TypeId) → (ts : List Ty) → fitsB P n Ts ts = true → ∀ {vs : List Value} {ds : List (DataW H)} {ps : List MemPlace},
    (∀ (j : Nat) t v, Ts[j]? = some t → vs[j]? = some v → Value.okWide P w r base t v) → DataW.TrodAll enc P w 0 spare held Ts vs ds ps → ∃ x : Den ts, SV.denL ρ (fun k => k < w.heap.size) w (ofArgs ts x) vs ∧ ((DataW.weightsEach P Ts ds).all (· ≤ reachBytes) = true → SzL ts x)
  | [], [], _, vs, ds, ps, _, h => by
    obtain ⟨rfl, _, _⟩ := trodAll_nil h
    exact ⟨(), by simp [ofArgs, SV.denL], fun _ => trivial⟩
  | T :: Ts, t :: ts, hf, vs, ds, ps, hok, h => by
    simp only [fitsB, Bool.and_eq_true] at hf
    obtain ⟨v, vs', d, ds', p, q, rfl, rfl, rfl, h0, h1⟩ := trodAll_cons h
    obtain ⟨fuel, h0⟩ := h0
    obtain ⟨y, hy, hyw⟩ := rd_of n T t hf.1 h0
    obtain ⟨z, hz, hzw⟩ := args_of n Ts ts hf.2.2 (fun j t v a b => hok (j + 1) t v (by simpa using a) (by simpa using b)) h1
    refine ⟨(y, z), ?_, fun hw => ?_⟩
    rotate_left
    · simp only [DataW.weightsEach, List.all_append, Bool.and_eq_true] at hw
      exact ⟨hyw hw.1, hzw hw.2⟩
    simp only [ofArgs]
    unfold SV.denL
    exact ⟨v, vs', rfl, sv_of (hok 0 T v rfl rfl) hf.2.1 hy, hz⟩
  | [], _ :: _, hf, _, _, _, _, _ => by cases hf
  | _ :: _, [], hf, _, _, _, _, _ => by cases hf

theorem trodAll_below (hl : laidOutB P = true) {W' : World} (hb : Below w.heap.size w W') : (Ts : List TypeId) → (∀ T ∈ Ts, P.readableRec T = true ∧ T < P.types.size) → ∀ {vs : List Value} {ds : List (DataW H)} {ps : List MemPlace},
    DataW.TrodAll enc P w 0 (fun _ => true) true Ts vs ds ps → DataW.TrodAll enc P W' 0 (fun b => decide (b < w.heap.size)) true Ts vs ds ps
  | [], _, vs, ds, ps, h => by
    obtain ⟨rfl, rfl, rfl⟩ := trodAll_nil h
    exact trodAll_mk0
  | T :: Ts, hr, vs, ds, ps, h => by
    obtain ⟨v, vs', d, ds', p, q, rfl, rfl, rfl, h0, h1⟩ := trodAll_cons h
    have hlt : ∀ x ∈ p, x.block < w.heap.size := by obtain ⟨m, hm⟩ := h0; exact DataW.trod_lt m _ _ _ hm
    exact trodAll_cons_mk (Below.trod hl (hr T (by simp)).1 (hr T (by simp)).2 h0 hb hlt) (trodAll_below hl hb Ts (fun T hT => hr T (by simp [hT])) h1)

def recB (P : Program) (Ts : List TypeId) : Bool := Ts.all fun T => P.readableRec T && decide (T < P.types.size)

/-- A function that answers true of all data of its types: what a law's row asks of a call. -/
theorem law_callsS {fn : Func} {f : FuncId} {s : ChangeSpec} {apart : Bool} {ts : List Ty} {rT : TypeId} (hl : laidOutB P = true) (n : Nat) (hfit : fitsB P n fn.params.toList ts = true) (hrec : recB P fn.params.toList = true) (hres : fn.resultTypes = #[rT]) (hrb : P.underlying rT = some .bool)
    (hvars : s.vars = []) (hfn : ∀ ds : List (DataW H), ds.length = ts.length → s.fn H ds = { results := [.lit (.bool true)], args := ds })
    {pre : Den ts → Bool} (hok : PSpecOk P f (Q ts [.bool] pre (fun _ => (true, ()))))
    {W : World} {base : Nat} {args : Array Value} {ds gs : List (DataW H)} {before : List MemPlace}
    (hval : ∀ (j : Nat) t v, fn.params[j]? = some t → args[j]? = some v → Value.okWide P W .any base t v)
    (hW : DataW.Whole enc P fn.params.toList s.vars apart W args.toList ds gs before) (hpre : ∀ x, ((DataW.weightsEach P fn.params.toList ds).all (· ≤ reachBytes) = true → SzL ts x) → pre x = true) :
    Calls P f args W fun e W' => ∃ v, e = .returned v ∧ s.post enc P fn apart true false false W args v W' := by
  have hW' := hW
  obtain ⟨p, q, hA, hV, rfl, hfz, hnd⟩ := hW
  rw [hvars] at hV
  obtain ⟨rfl, rfl⟩ := trodVars_none hV
  have hlen : ds.length = ts.length := by
    have h1 : ∀ (Ts : List TypeId) (ts : List Ty) (vs : List Value) (ds : List (DataW H)) (ps : List MemPlace), fitsB P n Ts ts = true → DataW.TrodAll enc P W 0 (fun _ => true) true Ts vs ds ps → ds.length = ts.length := by
      intro Ts
      induction Ts with
      | nil => intro ts vs ds ps h1 h2; cases ts with
        | nil => obtain ⟨_, rfl, _⟩ := trodAll_nil h2; rfl
        | cons => cases h1
      | cons T Ts ih => intro ts vs ds ps h1 h2; cases ts with
        | nil => cases h1
        | cons t ts =>
          simp only [fitsB, Bool.and_eq_true] at h1
          obtain ⟨_, _, _, ds', _, _, _, rfl, _, _, h3⟩ := trodAll_cons h2
          simp [ih ts _ ds' _ h1.2.2 h3]
    exact h1 _ _ _ _ _ hfit hA
  obtain ⟨x, hx, hxw⟩ := args_of (ρ := []) (base := base) (r := .any) n _ ts hfit (vs := args.toList) (fun j t v a b => hval j t v (by simpa using a) (by simpa using b)) hA
  have hc := hok [] (fun k => k < W.heap.size) W (fun k h => h) (ofArgs ts x) args.toList (pre x = true) (.bool true) hx (by simp [Q, asArgs_ofArgs, ofArgs, ofTy, resSV]) (hpre x hxw)
  have e : args.toList.toArray = args := by simp
  rw [e] at hc
  refine hc.mono ?_
  rintro e W' ⟨v, rfl, bel, hv⟩
  simp only [SV.den] at hv
  subst hv
  refine ⟨_, rfl, ds, [], p ++ [], [], p, [], hW', ?_, ?_, ?_, bel.frame _, fun h => by cases h⟩
  · rw [List.append_nil, hfn ds hlen, hres]
    exact trodAll_mk1 (shut_bool hrb _)
  · rw [List.append_nil, hfn ds hlen]
    refine trodAll_below hl bel _ (fun T hT => ?_) hA
    have := List.all_eq_true.1 hrec T hT
    simpa using this
  · rw [hvars, List.append_nil, hfn ds hlen]; rfl

theorem law_calls {fn : Func} {f : FuncId} {s : ChangeSpec} {apart : Bool} {ts : List Ty} {rT : TypeId} (hl : laidOutB P = true) (n : Nat) (hfit : fitsB P n fn.params.toList ts = true) (hrec : recB P fn.params.toList = true) (hres : fn.resultTypes = #[rT]) (hrb : P.underlying rT = some .bool)
    (hvars : s.vars = []) (hfn : ∀ ds : List (DataW H), ds.length = ts.length → s.fn H ds = { results := [.lit (.bool true)], args := ds })
    (hok : PSpecOk P f (Q ts [.bool] (fun _ => true) (fun _ => (true, ()))))
    {W : World} {base : Nat} {args : Array Value} {ds gs : List (DataW H)} {before : List MemPlace}
    (hval : ∀ (j : Nat) t v, fn.params[j]? = some t → args[j]? = some v → Value.okWide P W .any base t v)
    (hW : DataW.Whole enc P fn.params.toList s.vars apart W args.toList ds gs before) :
    Calls P f args W fun e W' => ∃ v, e = .returned v ∧ s.post enc P fn apart true false false W args v W' :=
  law_callsS hl n hfit hrec hres hrb hvars hfn hok hval hW (fun _ _ => rfl)
end
end Go.Proofs.Ythoaelmomocohaa.Gx
namespace Go.Proofs.Ythoaelmomocohaa.Gx
open Go.RowKit
set_option linter.unusedSimpArgs false
set_option linter.unusedVariables false

/-- How data of the type t lie in memory: some resources, the first of them the object itself. -/
structure Pk (t : Ty) where
  β : Type
  rel : t.den → β → Prop
  n : Nat
  Rs : β → List Res
  hn : 0 < n
  hl : ∀ y, (Rs y).length = n
  hp : ∀ y, ((Rs y).all fun r => r.plain && r.wf n) = true
  h0 : ∀ y r, (Rs y)[0]? = some r → r.there = true

theorem Pk.plain {t : Ty} (K : Pk t) {y : K.β} {i : Nat} {r : Res} (h : (K.Rs y)[i]? = some r) : r.plain = true ∧ r.wf K.n = true := by
  have := List.all_eq_true.1 (K.hp y) r (List.mem_of_getElem? h)
  simpa using this

def Pk.cust {t : Ty} (K : Pk t) : Cust t where
  holds := fun x v w I F => ∃ (y : K.β) (ρ : List Value) (G : Nat → Nat → Prop), K.rel x y ∧ ρ[0]? = some v ∧ ρ.length = K.n ∧ (∀ (i : Nat) u, ρ[i]? = some u → u.oneCell' = true) ∧
    (∀ (i : Nat) (r : Res), (K.Rs y)[i]? = some r → r.holds (fun _ => none) ρ I w i (G i)) ∧ (∀ i j k, i < K.n → j < K.n → i ≠ j → G i k → ¬ G j k) ∧ (∀ k, F k ↔ ∃ i, i < K.n ∧ G i k)
  keep := by
    rintro x v w w' I I' F ⟨y, ρ, G, h1, h2, h3, h4, h5, h6, h7⟩ hF hI hw
    refine ⟨y, ρ, G, h1, h2, h3, h4, fun i r hr => ?_, h6, h7⟩
    have hi : i < K.n := by rw [← K.hl y]; exact (List.getElem?_eq_some_iff.1 hr).1
    exact Res.keep (fun _ _ h => h) hI hw (fun k hk => hF k ((h7 k).2 ⟨i, hi, hk⟩)) r (h5 i r hr)

def Pk.flat {t : Ty} (K : Pk t) : Nat → List K.β → List Res
  | _, [] => []
  | b, y :: ys => (K.Rs y).map (Res.tr fun k => some (b + k)) ++ K.flat (b + K.n) ys

theorem Pk.flat_length {t : Ty} (K : Pk t) : (b : Nat) → (ys : List K.β) → (K.flat b ys).length = ys.length * K.n
  | _, [] => by simp [Pk.flat]
  | b, y :: ys => by simp only [Pk.flat, List.length_append, List.length_map, K.hl, K.flat_length, List.length_cons, Nat.add_mul, Nat.one_mul]; omega

theorem Pk.flat_get {t : Ty} (K : Pk t) : (b : Nat) → (ys : List K.β) → (i : Nat) → (y : K.β) → ys[i]? = some y → ∀ (j : Nat) r, (K.Rs y)[j]? = some r → (K.flat b ys)[i * K.n + j]? = some (r.tr fun k => some (b + i * K.n + k))
  | _, [], i, y, h, _, _, _ => by simp at h
  | b, y0 :: ys, 0, y, h, j, r, hr => by
    simp at h; subst h
    have hj : j < K.n := by rw [← K.hl y0]; exact (List.getElem?_eq_some_iff.1 hr).1
    simp only [Pk.flat, Nat.zero_mul, Nat.zero_add, Nat.add_zero]
    rw [List.getElem?_append_left (by simp [K.hl, hj]), List.getElem?_map, hr]; rfl
  | b, y0 :: ys, i + 1, y, h, j, r, hr => by
    have ih := K.flat_get (b + K.n) ys i y (by simpa using h) j r hr
    simp only [Pk.flat]
    rw [List.getElem?_append_right (by simp [K.hl, Nat.add_mul]; omega), List.length_map, K.hl, show (i + 1) * K.n + j - K.n = i * K.n + j by rw [Nat.add_mul]; omega, ih]
    congr 2; funext k; rw [Nat.add_mul]; congr 1; omega

/-- So many of them. -/
def Tup {t : Ty} (K : Pk t) : Nat → Type
  | 0 => Unit
  | n + 1 => K.β × Tup K n
def Tup.list {t : Ty} {K : Pk t} : (n : Nat) → Tup K n → List K.β
  | 0, _ => []
  | n + 1, z => z.1 :: Tup.list n z.2
/-- One of the ways such a function may end. -/
structure PAlt {t : Ty} (K : Pk t) (α : Type) where
  β : Type
  k : Nat
  post : α → β → Prop
  r : α → β → SV
  outs : α → β → List t.den

def relL {t : Ty} (K : Pk t) : List t.den → List K.β → Prop
  | [], [] => True
  | d :: ds, y :: ys => K.rel d y ∧ relL K ds ys
  | _, _ => False

theorem relL_get {t : Ty} {K : Pk t} : (ds : List t.den) → (ys : List K.β) → relL K ds ys → ys.length = ds.length ∧ ∀ (i : Nat) d, ds[i]? = some d → ∃ y, ys[i]? = some y ∧ K.rel d y
  | [], [], _ => ⟨rfl, fun i d h => by simp at h⟩
  | d :: ds, y :: ys, h => by
    obtain ⟨h1, h2⟩ := relL_get ds ys h.2
    refine ⟨by simp [h1], fun i d' hd => ?_⟩
    cases i with
    | zero => simp at hd; subst hd; exact ⟨y, rfl, h.1⟩
    | succ i => simpa using h2 i d' (by simpa using hd)
  | [], _ :: _, h => h.elim
  | _ :: _, [], h => h.elim

def custs {t : Ty} (K : Pk t) (ds : List t.den) : List Res := ds.map fun d => .cust t K.cust d

section
variable {t : Ty} {K : Pk t} {P : Program} {ρ : List Value} {I : Nat → Prop} {F : Nat → Nat → Prop} {w : World}

theorem pack_out {ds : List t.den} {zs : List K.β} (hrel : relL K ds zs) (hown : Own (K.flat 0 zs) ρ I F w) :
    Own (custs K ds) ((List.range ds.length).map fun i => (ρ[i * K.n]?).getD holdV) I (fun i k => ∃ j, j < K.n ∧ F (i * K.n + j) k) w ∧ (∀ (i : Nat) v, i < ds.length → ρ[i * K.n]? = some v → ((List.range ds.length).map fun i => (ρ[i * K.n]?).getD holdV)[i]? = some v) := by
  obtain ⟨hlen, hr⟩ := relL_get ds zs hrel
  have hfl := K.flat_length 0 zs
  have hρl : ρ.length = ds.length * K.n := by rw [hown.len, hfl, hlen]
  have hn := K.hn
  have hlt : ∀ i j, i < ds.length → j < K.n → i * K.n + j < ds.length * K.n := fun i j hi hj => by
    have : (i + 1) * K.n ≤ ds.length * K.n := Nat.mul_le_mul_right _ hi
    rw [Nat.add_mul] at this; omega
  have hget : ∀ (i : Nat) v, i < ds.length → ρ[i * K.n]? = some v → ((List.range ds.length).map fun i => (ρ[i * K.n]?).getD holdV)[i]? = some v := by
    intro i v hi hv
    rw [List.getElem?_map, List.getElem?_range hi]
    simp [hv]
  have heq : ∀ i1 j1 i2 j2, j1 < K.n → j2 < K.n → i1 * K.n + j1 = i2 * K.n + j2 → i1 = i2 := by
    intro i1 j1 i2 j2 h1 h2 h
    have a1 : (i1 * K.n + j1) / K.n = i1 := by rw [Nat.mul_comm, Nat.mul_add_div hn, Nat.div_eq_of_lt h1]; simp
    have a2 : (i2 * K.n + j2) / K.n = i2 := by rw [Nat.mul_comm, Nat.mul_add_div hn, Nat.div_eq_of_lt h2]; simp
    rw [← a1, h, a2]
  refine ⟨⟨by simp [custs], ?_, ?_, ?_, ?_, ?_⟩, hget⟩
  · intro i v hv
    rw [List.getElem?_map, Option.map_eq_some_iff] at hv
    obtain ⟨i', hi', rfl⟩ := hv
    cases hc : ρ[i' * K.n]? with
    | none => rfl
    | some u => exact hown.ones _ u hc
  · intro i r hi
    simp only [custs, List.getElem?_map, Option.map_eq_some_iff] at hi
    obtain ⟨d, hd, rfl⟩ := hi
    have hil := (List.getElem?_eq_some_iff.1 hd).1
    obtain ⟨y, hy, hrl⟩ := hr i d hd
    have h0l := hlt i 0 hil hn
    rw [Nat.add_zero] at h0l
    obtain ⟨v, hv⟩ : ∃ v, ρ[i * K.n]? = some v := ⟨_, List.getElem?_eq_getElem (by omega)⟩
    have hsub : ∀ j, j < K.n → ((ρ.drop (i * K.n)).take K.n)[j]? = ρ[i * K.n + j]? := fun j hj => by rw [List.getElem?_take_of_lt hj, List.getElem?_drop]
    have hres : ∀ (j : Nat) (r : Res), (K.Rs y)[j]? = some r → r.holds (fun _ => none) ((ρ.drop (i * K.n)).take K.n) I w j (F (i * K.n + j)) := by
      intro j r hj
      have hjl : j < K.n := by rw [← K.hl y]; exact (List.getElem?_eq_some_iff.1 hj).1
      have hh := hown.holds _ _ (K.flat_get 0 zs i y hy j r hj)
      simp only [Nat.zero_add] at hh
      obtain ⟨p1, p2⟩ := K.plain hj
      exact Res.holds_rt (f := fun k => i * K.n + k) (fun m u hm hu => by rw [hsub m hm]; exact hu) (fun u hu => by rw [hsub j hjl]; exact hu) r p1 p2 hh
    refine ⟨v, hget i v hil hv, ?_, y, (ρ.drop (i * K.n)).take K.n, fun j => F (i * K.n + j), hrl, by rw [hsub 0 hn, Nat.add_zero]; exact hv, by rw [List.length_take, List.length_drop]; have := hlt i (K.n - 1) hil (by omega); omega, ?_, hres, ?_, fun k => Iff.rfl⟩
    · obtain ⟨r0, hr0⟩ : ∃ r0, (K.Rs y)[0]? = some r0 := ⟨_, List.getElem?_eq_getElem (by rw [K.hl]; exact hn)⟩
      exact root_ne (ρ := (ρ.drop (i * K.n)).take K.n) (i := 0) (by rw [hsub 0 hn, Nat.add_zero]; exact hv) r0 (K.plain hr0).1 (K.h0 y r0 hr0) (hres 0 r0 hr0)
    · intro j u hj
      have hjl : j < K.n := by
        rcases Nat.lt_or_ge j K.n with h | h
        · exact h
        · rw [List.getElem?_take, if_neg (by omega)] at hj; cases hj
      rw [hsub j hjl] at hj
      exact hown.ones _ u hj
    · intro j1 j2 k h1 h2 hne g1 g2
      have q1 := hlt i j1 hil h1
      have q2 := hlt i j2 hil h2
      exact hown.apart _ _ k (by rw [hfl, hlen]; exact q1) (by rw [hfl, hlen]; exact q2) (by omega) g1 g2
  · rintro i1 i2 k h1 h2 hne ⟨j1, q1, g1⟩ ⟨j2, q2, g2⟩
    simp only [custs, List.length_map] at h1 h2
    exact hown.apart _ _ k (by rw [hfl, hlen]; exact hlt i1 j1 h1 q1) (by rw [hfl, hlen]; exact hlt i2 j2 h2 q2) (fun e => hne (heq _ _ _ _ q1 q2 e)) g1 g2
  · rintro i k h1 ⟨j, q1, g1⟩
    simp only [custs, List.length_map] at h1
    exact hown.lt _ k (by rw [hfl, hlen]; exact hlt i j h1 q1) g1
  · rintro i k h1 ⟨j, q1, g1⟩
    simp only [custs, List.length_map] at h1
    exact hown.notI _ k (by rw [hfl, hlen]; exact hlt i j h1 q1) g1
end

/-- A method: one such object is given. -/
structure PC1 {t : Ty} (K : Pk t) where
  α : Type
  inn : α → t.den
  ss : α → List SV
  pre : α → Prop
  alts : List (PAlt K α)
def firsts (m n : Nat) : List Bool := (List.range (m * n)).map fun i => Nat.beq (i % n) 0
def PC1.H {t : Ty} {K : Pk t} (C : PC1 K) : HC where
  α := C.α
  m := 1
  ss := C.ss
  Rs := fun x => [.cust t K.cust (C.inn x)]
  pre := C.pre
  alts := C.alts.map fun A => { β := A.β, post := A.post, r := A.r, res := fun x y => custs K (A.outs x y), kp := [true] }
def PC1.U {t : Ty} {K : Pk t} (C : PC1 K) : HC where
  α := C.α × K.β
  m := K.n
  ss := fun x => SV.trL (fun i => some (i * K.n)) (C.ss x.1)
  Rs := fun x => K.Rs x.2
  pre := fun x => C.pre x.1 ∧ K.rel (C.inn x.1) x.2
  alts := C.alts.map fun A => { β := A.β × Tup K A.k, post := fun x y => A.post x.1 y.1 ∧ relL K (A.outs x.1 y.1) (y.2.list A.k), r := fun x y => SV.tr (fun i => some (i * K.n)) (A.r x.1 y.1), res := fun _ y => K.flat 0 (y.2.list A.k), kp := firsts 1 K.n }

/-- A function that is given no such object. -/
structure PC0 {t : Ty} (K : Pk t) where
  α : Type
  ss : α → List SV
  pre : α → Prop
  alts : List (PAlt K α)
def PC0.H {t : Ty} {K : Pk t} (C : PC0 K) : HC where
  α := C.α
  m := 0
  ss := C.ss
  Rs := fun _ => []
  pre := C.pre
  alts := C.alts.map fun A => { β := A.β, post := A.post, r := A.r, res := fun x y => custs K (A.outs x y), kp := [] }
def PC0.U {t : Ty} {K : Pk t} (C : PC0 K) : HC where
  α := C.α
  m := 0
  ss := C.ss
  Rs := fun _ => []
  pre := C.pre
  alts := C.alts.map fun A => { β := A.β × Tup K A.k, post := fun x y => A.post x y.1 ∧ relL K (A.outs x y.1) (y.2.list A.k), r := fun x y => SV.tr (fun i => some (i * K.n)) (A.r x y.1), res := fun _ y => K.flat 0 (y.2.list A.k), kp := [] }

section
variable {t : Ty} {K : Pk t} {P : Program}

theorem pack_ends {α α' : Type} {A : PAlt K α} {x : α} {y : A.β} {zs : List K.β} {m m' : Nat} {B : Alt α'} {x' : α'} {y' : B.β} (hres : B.res x' y' = K.flat 0 zs) (hr : B.r x' y' = SV.tr (fun i => some (i * K.n)) (A.r x y)) (hpost : A.post x y) (hrel : relL K (A.outs x y) zs)
    (hwf : SV.wf (A.outs x y).length (A.r x y) = true) (hm : m ≤ (A.outs x y).length) {kp : List Bool} {ρ0 ρ00 : List Value} {I I' : Nat → Prop} {F F00 F' : Nat → Nat → Prop} {w w' : World} {v : Value} {ρ1 : List Value}
    (hE : B.Ends m' x' y' ρ00 I F00 w v ρ1 I' F' w') (hFF : ∀ k, (∃ i, i < m ∧ F i k) ↔ ∃ i, i < m' ∧ F00 i k) (hkp : ∀ i, i < m → kp[i]? = some true → ρ0[i]? = ρ1[i * K.n]?) :
    ∃ ρ1' F'', ({ β := A.β, post := A.post, r := A.r, res := fun x y => custs K (A.outs x y), kp := kp } : Alt α).Ends m x y ρ0 I F w v ρ1' I' F'' w' := by
  have hown := hE.own
  rw [hres] at hown
  obtain ⟨h1, h2⟩ := pack_out hrel hown
  have hfl := K.flat_length 0 zs
  have hlen := (relL_get _ _ hrel).1
  have hb := hE.beside
  rw [hres, hfl] at hb
  have hlt : ∀ i j, i < (A.outs x y).length → j < K.n → i * K.n + j < zs.length * K.n := fun i j hi hj => by
    have : (i + 1) * K.n ≤ zs.length * K.n := Nat.mul_le_mul_right _ (by omega)
    rw [Nat.add_mul] at this; omega
  refine ⟨_, _, ⟨hpost, h1, ?_, by simpa [custs] using hm, ?_, ?_, ?_⟩⟩
  · have hd := hE.den
    rw [hr] at hd
    exact SV.den_rt (f := fun i => i * K.n) (fun i u hi hu => h2 i u hi hu) _ hwf hd
  · intro r hr'
    simp only [custs, List.mem_map] at hr'
    obtain ⟨d, _, rfl⟩ := hr'
    rfl
  · intro i hi hk
    have hil : i < (A.outs x y).length := by omega
    have hq : i * K.n < ρ1.length := by rw [hown.len, hfl]; have := hlt i 0 hil K.hn; omega
    rw [hkp i hi hk, List.getElem?_eq_getElem hq]
    exact h2 i _ hil (List.getElem?_eq_getElem hq)
  · refine ⟨hb.os, hb.tape, hb.output, hb.size, fun k hk hn => hb.frame k hk (fun i hi hF => ?_), hb.keepI, fun k hk => ?_, hb.Ilt, ?_⟩
    · obtain ⟨i2, g1, g2⟩ := (hFF k).2 ⟨i, hi, hF⟩
      exact hn i2 g1 g2
    · rcases hb.Inew k hk with h | h | h
      · exact .inl h
      · exact .inr (.inl ((hFF k).2 h))
      · exact .inr (.inr h)
    · rintro i k hi ⟨j, hj, hF⟩
      simp only [custs, List.length_map] at hi
      rcases hb.new (i * K.n + j) k (hlt i j hi hj) hF with h | h
      · exact .inl ((hFF k).2 h)
      · exact .inr h

theorem PC1.ok_of (C : PC1 K) {f : FuncId} (hwf : ∀ A ∈ C.alts, ∀ x y, SV.wf (A.outs x y).length (A.r x y) = true ∧ 1 ≤ (A.outs x y).length) (h : C.U.ok P f) : C.H.ok P f := by
  intro x hpre ρ0 I F w vs hown hI hd
  obtain ⟨v, hv, hvn, y, ρ, G, hrel, h1, h2, h3, h4, h5, h6⟩ := hown.holds 0 _ rfl
  have hU : Own (K.Rs y) ρ I G w := ⟨by rw [K.hl]; exact h2, h3, h4, fun i j k hi hj => h5 i j k (by rw [← K.hl y]; exact hi) (by rw [← K.hl y]; exact hj),
    fun i k hi hk => hown.lt 0 k (by simp [PC1.H]) ((h6 k).2 ⟨i, by rw [← K.hl y]; exact hi, hk⟩), fun i k hi hk => hown.notI 0 k (by simp [PC1.H]) ((h6 k).2 ⟨i, by rw [← K.hl y]; exact hi, hk⟩)⟩
  have hl0 : ρ0.length = 1 := hown.len
  have hroot : ∀ (i j : Nat) u, (some (i * K.n) : Option Nat) = some j → ρ0[i]? = some u → ρ[j]? = some u := by
    intro i j u he hu
    have : i = 0 := by have := (List.getElem?_eq_some_iff.1 hu).1; omega
    subst this
    simp only [Nat.zero_mul, Option.some.injEq] at he
    subst he
    rw [hv] at hu; cases hu; exact h1
  have hd' : SV.denL ρ I w (SV.trL (fun i => some (i * K.n)) (C.ss x)) vs := SV.denL_tr (g := fun i => some (i * K.n)) hroot (fun _ h => h) (fun _ _ => rfl) _ hd
  refine (h (x, y) ⟨hpre, hrel⟩ ρ I G w vs hU hI hd').mono ?_
  rintro e w' ⟨u, rfl, B, hB, y', ρ1, I', F', hE⟩
  obtain ⟨A, hA, rfl⟩ := List.mem_map.1 hB
  obtain ⟨hwf1, hwf2⟩ := hwf A hA x y'.1
  have hkept := hE.kept 0 K.hn (by
    simp only [firsts, List.getElem?_map, Nat.one_mul]
    rw [List.getElem?_range K.hn]; simp)
  obtain ⟨ρ1', F'', hEnd⟩ := pack_ends (A := A) (x := x) (y := y'.1) (zs := y'.2.list A.k) (m := 1) (kp := [true]) (ρ0 := ρ0) (F := F) rfl rfl hE.post.1 hE.post.2 hwf1 hwf2 hE (fun k => ⟨fun ⟨i, hi, hk⟩ => by
      have : i = 0 := by omega
      subst this; exact (h6 k).1 hk, fun h => ⟨0, by omega, (h6 k).2 h⟩⟩) (fun i hi _ => by
      have : i = 0 := by omega
      subst this
      rw [Nat.zero_mul, hkept, hv, h1])
  exact ⟨u, rfl, _, List.mem_map.2 ⟨A, hA, rfl⟩, y'.1, ρ1', I', F'', hEnd⟩

theorem PC0.ok_of (C : PC0 K) {f : FuncId} (hwf : ∀ A ∈ C.alts, ∀ x y, SV.wf (A.outs x y).length (A.r x y) = true) (h : C.U.ok P f) : C.H.ok P f := by
  intro x hpre ρ0 I F w vs hown hI hd
  refine (h x hpre ρ0 I F w vs hown hI hd).mono ?_
  rintro e w' ⟨u, rfl, B, hB, y', ρ1, I', F', hE⟩
  obtain ⟨A, hA, rfl⟩ := List.mem_map.1 hB
  obtain ⟨ρ1', F'', hEnd⟩ := pack_ends (A := A) (x := x) (y := y'.1) (zs := y'.2.list A.k) (m := 0) (kp := []) (ρ0 := ρ0) (F := F) rfl rfl hE.post.1 hE.post.2 (hwf A hA x y'.1) (Nat.zero_le _) hE (fun k => Iff.rfl) (fun i hi _ => by omega)
  exact ⟨u, rfl, _, List.mem_map.2 ⟨A, hA, rfl⟩, y'.1, ρ1', I', F'', hEnd⟩
end
end Go.Proofs.Ythoaelmomocohaa.Gx
namespace Go.Proofs.Ythoaelmomocohaa.Gx
open Go.RowKit
set_option linter.unusedSimpArgs false
set_option linter.unusedVariables false

def borL : List SV → St → (List SV → Prop) → Prop
  | [], _, k => k []
  | s :: ss, S, k => match s with
    | .hd e h => match findFam e 0 S.res with
      | some i => match S.res[i]? with
        | some (.fam _ ty os) => match Nat.beq ty.sz 1 with
          | true => HdIn os h ∧ borL ss S fun l => k (.rs ty (rdH os h) :: l)
          | false => False
        | _ => False
      | none => False
    | .row i => match S.res[i]? with
      | some (.row _ t xs) => borL ss S fun l => k (.rs t xs :: l)
      | _ => False
    | s => borL ss S fun l => k (s :: l)

def flatT : Ty → Bool
  | .slice _ => false
  | .pair a b => flatT a && flatT b
  | _ => true

theorem Rd.flat {I I' : Nat → Prop} {w w' : World} : (t : Ty) → flatT t = true → {x : t.den} → {cs : List Value} → Rd I w t x cs → Rd I' w' t x cs
  | .int _, _, _, _, h => h
  | .bool, _, _, _, h => h
  | .str, _, _, _, h => h
  | .adr _, _, _, _, h => h
  | .hd _, _, _, _, h => h
  | .slice _, h, _, _, _ => by simp [flatT] at h
  | .pair a b, hf, _, _, h => by
    simp only [flatT, Bool.and_eq_true] at hf
    obtain ⟨c1, c2, e, h1, h2⟩ := h
    exact ⟨c1, c2, e, Rd.flat a hf.1 h1, Rd.flat b hf.2 h2⟩
theorem RdL.flat {I I' : Nat → Prop} {w w' : World} (t : Ty) (hf : flatT t = true) : (xs : List t.den) → {cs : List Value} → RdL I w t xs cs → RdL I' w' t xs cs
  | [], _, h => h
  | x :: xs, _, h => by
    obtain ⟨c1, c2, e, h1, h2⟩ := h
    exact ⟨c1, c2, e, Rd.flat t hf h1, RdL.flat t hf xs h2⟩

section
variable {P : Program} {cx : Cx} {S : St} {ρ : List Value} {I : Nat → Prop} {F : Nat → Nat → Prop} {w : World} {a : Act} {sv : List Act}

/-- A slice in a block of one's own, read. -/
theorem hd_reads {I2 : Nat → Prop} (hI : ∀ k, I k → I2 k) {T : TypeId} {ty : Ty} {os : List (Nat × (Nat × List ty.den))} {Fi : Nat → Prop} (hF : FamOk I w T ty os Fi) (hFI : ∀ k, Fi k → I2 k) (h1 : ty.sz = 1) {h : Hd} (hok : h.ok) (hin : hdIn os h) :
    Rd I2 w (.slice ty) (rdH os h) [hdV h] := by
  obtain ⟨b, off, len, cap⟩ := h
  obtain ⟨ok1, ok2, ok3⟩ := hok
  simp only at ok1 ok2 ok3
  cases b with
  | none =>
    have : len = 0 := hin
    subst this
    refine ⟨none, cap, by simp [rdH, hdV], by simp [rdH], ok2, fun i x hx => by simp [rdH] at hx⟩
  | some g =>
    obtain ⟨n, xs, hl, i1, i2, i3⟩ := hin
    simp only at i1 i2 i3
    obtain ⟨cur, k1, k2, k3, k4⟩ := hF.rd g n xs (lookN_mem hl)
    have hrd : rdH os ⟨some g, off, len, cap⟩ = (xs.drop off).take len := by simp [rdH, hl]
    have hlen : ((xs.drop off).take len).length = len := by rw [List.length_take, List.length_drop]; omega
    rw [hrd]
    refine ⟨some ⟨g, off, none⟩, cap, by rw [hlen]; rfl, by rw [hlen]; exact ok1, ok2, fun i x hx => ?_⟩
    have hil : i < len := by have := (List.getElem?_eq_some_iff.1 hx).1; omega
    have hx' : xs[off + i]? = some x := by rw [List.getElem?_take_of_lt hil, List.getElem?_drop] at hx; exact hx
    obtain ⟨cells, g1, g2⟩ := RdL.get ty xs k4 (off + i) x hx'
    refine ⟨⟨g, off, none⟩, cells, rfl, hFI g ((hF.foot g).2 (List.mem_map.2 ⟨_, lookN_mem hl, rfl⟩)), Rd.keep hI (fun _ _ => rfl) ty g1, fun j u hj => ?_⟩
    have := g2 j u hj
    rw [List.getElem?_take] at this
    split at this
    · rw [plain_add', cell_of_row w g _ _ _ _ k1, h1, Nat.mul_one]
      rw [h1, Nat.mul_one, Nat.add_assoc] at this
      simpa using this
    · cases this

theorem borL_ok {I2 : Nat → Prop} (hM : Mem cx S.res ρ I F w) (hI : ∀ k, I k → I2 k) (hF2 : ∀ i k, i < S.res.length → F i k → I2 k) : (ss : List SV) → {vs : List Value} → {k : List SV → Prop} → SV.denL ρ I w ss vs → borL ss S k → ∃ ss', SV.denL ρ I2 w ss' vs ∧ k ss'
  | [], vs, k, hd, hk => ⟨[], hd, hk⟩
  | s :: ss, vs, k, hd, hk => by
    unfold SV.denL at hd
    obtain ⟨v, vs', rfl, h1, h2⟩ := hd
    have fin : ∀ (s' : SV), SV.den ρ I2 w s' v → (borL ss S fun l => k (s' :: l)) → ∃ ss', SV.denL ρ I2 w ss' (v :: vs') ∧ k ss' := by
      intro s' hd' hk'
      obtain ⟨l, g1, g2⟩ := borL_ok hM hI hF2 ss h2 hk'
      refine ⟨s' :: l, ?_, g2⟩
      unfold SV.denL
      exact ⟨v, vs', rfl, hd', g1⟩
    unfold borL at hk
    split at hk
    · rename_i e h
      split at hk
      · rename_i i hfi
        split at hk
        · rename_i T ty os hr
          split at hk
          · rename_i b1
            obtain ⟨⟨hin⟩, hk⟩ := hk
            unfold SV.den at h1
            obtain ⟨rfl, hok⟩ := h1
            have hil := (List.getElem?_eq_some_iff.1 hr).1
            refine fin _ ?_ hk
            unfold SV.den
            exact hd_reads hI (hM.holds _ _ hr).2 (fun k hk => hF2 i k hil hk) (Nat.eq_of_beq_eq_true b1) hok hin
          · exact hk.elim
        · exact hk.elim
      · exact hk.elim
    · rename_i i
      split at hk
      · rename_i e t xs hr
        have hil := (List.getElem?_eq_some_iff.1 hr).1
        obtain ⟨v', cells, g1, g2, g3, g4⟩ := hM.holds _ _ hr
        unfold SV.den at h1
        rw [h1.1] at g1
        cases g1
        refine fin _ ?_ hk
        unfold SV.den
        exact row_reads hI g2 g3 (fun k hk => hF2 i k hil ((g4 k).2 hk))
      · exact hk.elim
    · exact fin _ (SV.den_keep (fun _ _ h => h) hI (fun _ _ => rfl) _ h1) hk

/-- A pure function with a plain result: its arguments are lent. -/
def specB (q : PSpec) : Spec := fun ss S K => borL ss S fun ss' => match q ss' with
  | some (pre, s) => match s.exact with
    | true => pre ∧ K s S
    | false => False
  | none => False

theorem specB_ok {f : FuncId} {q : PSpec} (hq : PSpecOk P f q) : SpecOk P f (specB q) := by
  intro cx S a w sv ss vs K h hk
  obtain ⟨ρ, I, F, hM, hf, hs, hd⟩ := h
  obtain ⟨ss', h1, h2⟩ := borL_ok (I2 := fun k => I k ∨ ∃ i, i < S.res.length ∧ F i k) hM (fun _ h => .inl h) (fun i k hi hk => .inr ⟨i, hi, hk⟩) ss hd hk
  split at h2
  · rename_i pre s hqs
    split at h2
    · rename_i hex
      refine (hq ρ _ w (fun k hk => hk.elim (hM.Ilt k) (fun ⟨i, hi, hk⟩ => hM.lt i k hi hk)) ss' vs pre s h1 hqs h2.1).mono ?_
      rintro e w' ⟨v, rfl, hb, hr⟩
      have hsame : ∀ k, I k → w'.heap[k]? = w.heap[k]? := fun k hk => hb.block k (hM.Ilt k hk)
      refine ⟨v, s, S, rfl, ⟨ρ, _, F, hM.below hb, hf.keep (fun _ _ h => h) (fun _ h => .inl h) hsame, StkOk.keep (fun _ _ h => h) (fun _ h => .inl h) hsame _ hs, ?_⟩, h2.2⟩
      unfold SV.denL
      refine ⟨v, [], rfl, ?_, by simp [SV.denL]⟩
      cases s with
      | int _ _ => unfold SV.den at hr ⊢; exact hr
      | bool _ => unfold SV.den at hr ⊢; exact hr
      | lit _ => unfold SV.den at hr ⊢; exact hr
      | str _ => unfold SV.den at hr ⊢; exact hr
      | adr _ _ => unfold SV.den at hr ⊢; exact hr
      | _ => simp [SV.exact] at hex
    · exact h2.elim
  · exact h2.elim

/-- A function that gives a row of one's own: its arguments are lent. -/
def specOB (ts : List Ty) (e : TypeId) (t : Ty) (pre : Den ts → Bool) (g : Den ts → List t.den) : Spec := fun ss S K => borL ss S fun ss' => match asArgs ts ss' with
  | some x => pre x = true ∧ K (.row S.res.length) (S.push (.row e t (g x)))
  | none => False

theorem specOB_ok {f : FuncId} {ts : List Ty} {e : TypeId} {t : Ty} {pre : Den ts → Bool} {g : Den ts → List t.den} (hfl : flatT t = true) (hq : OwnOk P f ts e t pre g) : SpecOk P f (specOB ts e t pre g) := by
  intro cx S a w sv ss vs K h hk
  obtain ⟨ρ, I, F, hM, hf, hs, hd⟩ := h
  obtain ⟨ss', h1, h2⟩ := borL_ok (I2 := fun k => I k ∨ ∃ i, i < S.res.length ∧ F i k) hM (fun _ h => .inl h) (fun i k hi hk => .inr ⟨i, hi, hk⟩) ss hd hk
  split at h2
  · rename_i x hx
    obtain ⟨hpre, hk'⟩ := h2
    refine (hq ρ _ w (fun k hk => hk.elim (hM.Ilt k) (fun ⟨i, hi, hk⟩ => hM.lt i k hi hk)) x vs (asArgs_den ts h1 hx) hpre).mono ?_
    rintro ee w' ⟨v, cells, rfl, hb, ho, hn, hr⟩
    have hI : ∀ k, I k → (I k ∨ (w.heap.size ≤ k ∧ k < w'.heap.size)) ∧ v.ownBlock ≠ some k := fun k hk => ⟨.inl hk, fun e => by have := (hn k e).1; have := hM.Ilt k hk; omega⟩
    have hsame : ∀ k, I k → w'.heap[k]? = w.heap[k]? := fun k hk => hb.block k (hM.Ilt k hk)
    refine ⟨v, .row S.res.length, S.push (.row e t (g x)), rfl, ⟨_, _, _, hM.belowPush hb ho hn (RdL.flat t hfl _ hr), hf.keep (fun _ _ h => rho_snoc h) hI hsame, StkOk.keep (fun _ _ h => rho_snoc h) hI hsame _ hs, ?_⟩, hk'⟩
    unfold SV.denL SV.den
    exact ⟨v, [], rfl, ⟨by rw [← hM.len]; simp, own_ne ho⟩, by simp [SV.denL]⟩
  · exact h2.elim
end
end Go.Proofs.Ythoaelmomocohaa.Gx
namespace Go.Proofs.Ythoaelmomocohaa.Gx
open Go.RowKit
set_option linter.unusedSimpArgs false
set_option linter.unusedVariables false

/-- A function that computes and leaves the world as it is. -/
def PExact (P : Program) (f : FuncId) (q : PSpec) : Prop :=
  ∀ (ρ : List Value) (I : Nat → Prop) (w : World) (ss : List SV) (vs : List Value) (pre : Prop) (s : SV), SV.denL ρ I w ss vs → q ss = some (pre, s) → pre →
    Calls P f vs.toArray w fun e w' => ∃ v, e = .returned v ∧ w' = w ∧ SV.den [] I w s v
def PSpecs.exact (P : Program) (π : PSpecs) : Prop := ∀ f q, π f = some q → hasBody P f = true ∧ PExact P f q

section
variable {P : Program} {cx : Cx} {S : St} {ρ : List Value} {I : Nat → Prop} {F : Nat → Nat → Prop} {w : World} {a : Act} {sv : List Act}

theorem Mem.drewN {res : List Res} (h : Mem cx res ρ I F w) (n : Nat) : Mem cx res ρ I F (w.drewN n) where
  len := h.len
  ones := h.ones
  holds := fun i r hr => Res.keep (w := w) (w' := w.drewN n) (fun _ _ h => h) (fun _ h => h) (fun _ _ => rfl) (fun _ _ => rfl) r (h.holds i r hr)
  apart := h.apart
  lt := h.lt
  notI := h.notI
  new := h.new
  I0 := h.I0
  Ilt := h.Ilt
  Inew := h.Inew
  size := h.size
  os := h.os
  tape := h.tape
  output := h.output
  frame := h.frame

theorem Ok.drewN {ss : List SV} {vs : List Value} (h : Ok cx S a w sv ss vs) (n : Nat) : Ok cx S a (w.drewN n) sv ss vs := by
  obtain ⟨ρ, I, F, hM, hf, hs, hd⟩ := h
  exact ⟨ρ, I, F, hM.drewN n, hf.keep (w := w) (w' := w.drewN n) (fun _ _ h => h) (fun _ h => h) (fun _ _ => rfl), StkOk.keep (w := w) (w' := w.drewN n) (fun _ _ h => h) (fun _ h => h) (fun _ _ => rfl) _ hs, SV.denL_keep (w := w) (w' := w.drewN n) (fun _ _ h => h) (fun _ h => h) (fun _ _ => rfl) _ hd⟩

theorem drewN_add (w : World) (m n : Nat) : (w.drewN m).drewN n = w.drewN (m + n) := by simp [World.drewN, Nat.add_assoc]

theorem zop_sound {π : PSpecs} (hπ : π.exact P) {o : Oper} {k : SV → Prop} (hM : Mem cx S.res ρ I F w) (hf : FrOk ρ I w S.fr a) (hv : vqop P π S o k) {next : Act → Prop}
    (hn : ∀ s v, SV.den ρ I w s v → k s → next (a.put o.dst v)) : o.quiet P a (fun w' => ∃ n, w' = w.drewN n) next := by
  have pureCase : spure P S o k → o.quiet P a (fun w' => ∃ n, w' = w.drewN n) next := by
    intro hp
    obtain ⟨v, s, h1, h2, h3⟩ := spure_sound hM hf hp
    refine ⟨v, fun w' hw' => ?_, hn s v h1 h2⟩
    obtain ⟨n, rfl⟩ := hw'
    unfold Oper.quietAt
    rw [h3 (w.drewN n) (fun k hk => rfl)]
    exact ⟨rfl, rfl⟩
  unfold vqop at hv
  split at hv
  · rename_i c ho
    split at hv
    · rename_i f hc
      split at hv
      · rename_i g caps hg
        split at hv
        · rename_i q hq
          split at hv
          · rename_i pre s hqs
            split at hv
            · rename_i hex
              obtain ⟨hb, hok⟩ := hπ g q hq
              have hfd := Fr.ev_den hf f
              rw [hg] at hfd
              unfold SV.den at hfd
              obtain ⟨cv, hfe, hcv⟩ := hfd
              have hargs := SV.denL_append _ _ (Fr.evs_den hf c.args.toList) hcv
              have hrun : ∀ w', (execOp a.eval o).run P w' = .ok (.enter g (c.args.toList.map a.eval ++ cv).toArray) w' := by
                intro w'
                have hres : (resolve a.eval c o.type).run P w' = .ok { target := .fn (.func g) cv.toArray, args := c.args.map a.eval } w' := by
                  simp only [resolve, hc, hfe, Deferred.ofValue]
                  simp
                simp only [execOp, ho, Sem.run_bind, hres, Result.andThen_ok, invoke]
                rw [hasBody_call hb]
                congr 2
                apply Array.ext'
                simp
              obtain ⟨hpre, hk⟩ := hv
              have hval : ∃ v, ∀ (ρ : List Value) (I : Nat → Prop) (w : World) (u : Value), SV.den ρ I w s u → u = v := by
                cases s with
                | int kk n => exact ⟨.int kk n, fun ρ I w u h => by unfold SV.den at h; exact h⟩
                | bool b => exact ⟨.bool b, fun ρ I w u h => by unfold SV.den at h; exact h⟩
                | lit b => exact ⟨.bool b, fun ρ I w u h => by unfold SV.den at h; exact h⟩
                | str b => exact ⟨.string b, fun ρ I w u h => by unfold SV.den at h; exact h.1⟩
                | adr T x => exact ⟨padr x, fun ρ I w u h => by unfold SV.den at h; exact h⟩
                | _ => simp [SV.exact] at hex
              obtain ⟨v, hv⟩ := hval
              have hcalls : ∀ w', (∃ n, w' = w.drewN n) → Calls P g (c.args.toList.map a.eval ++ cv).toArray w' (fun e w'' => e = .returned v ∧ ∃ n, w'' = w.drewN n) := by
                rintro w' ⟨n, rfl⟩
                refine (hok ρ I (w.drewN n) _ _ pre s (SV.denL_keep (w := w) (w' := w.drewN n) (fun _ _ h => h) (fun _ h => h) (fun _ _ => rfl) _ hargs) hqs hpre).mono ?_
                rintro e w'' ⟨u, rfl, rfl, hd⟩
                exact ⟨by rw [hv _ _ _ _ hd], n, rfl⟩
              refine ⟨v, fun w' hw' => ?_, ?_⟩
              · unfold Oper.quietAt
                rw [hrun w']
                exact ⟨rfl, hcalls w' hw'⟩
              · refine hn s v ?_ hk
                cases s with
                | int kk n => unfold SV.den; exact (hv [] I w (.int kk n) (by unfold SV.den; rfl)).symm
                | bool b => unfold SV.den; exact (hv [] I w (.bool b) (by unfold SV.den; rfl)).symm
                | lit b => unfold SV.den; exact (hv [] I w (.bool b) (by unfold SV.den; rfl)).symm
                | adr T x => unfold SV.den; exact (hv [] I w (padr x) (by unfold SV.den; rfl)).symm
                | str b =>
                  obtain ⟨e, w', fr, ⟨⟨u, _, _, hd⟩, _⟩⟩ := hok ρ I w _ _ pre (.str b) hargs hqs hpre []
                  unfold SV.den at hd ⊢
                  exact ⟨(hv [] I w (.string b) (by unfold SV.den; exact ⟨rfl, hd.2⟩)).symm, hd.2⟩
                | _ => simp [SV.exact] at hex
            · exact hv.elim
          · exact hv.elim
        · exact hv.elim
      · exact hv.elim
    · exact hv.elim
    · exact pureCase hv
    · exact hv.elim
  · exact hv.elim
  · exact hv.elim
  · exact hv.elim
  · exact hv.elim
  · exact pureCase hv

theorem zops_sound {π : PSpecs} (hπ : π.exact P) {ops : Array Oper} (K : St → Prop) {Q : Act → Prop} : (l : List Oper) → (S : St) → (a : Act) → Mem cx S.res ρ I F w → FrOk ρ I w S.fr a → vqops P π ops l S K →
    (∀ S' a', S'.res = S.res → S'.stk = S.stk → a'.defers = a.defers → FrOk ρ I w S'.fr a' → K S' → Q a') → wpQuiet P ops (fun w' => ∃ n, w' = w.drewN n) Q l a
  | [], S, a, hM, hf, hv, hq => hq S a rfl rfl rfl hf hv
  | o :: rest, S, a, hM, hf, hv, hq => by
    have hdef : ∀ v, (a.put o.dst v).defers = a.defers := fun v => by cases o.dst <;> rfl
    have goYes : ∀ S1, S1.res = S.res → S1.stk = S.stk → FrOk ρ I w S1.fr a → Region.wanted o (yielded ops a.tmps) = true →
        (vqop P π S1 o fun s => match putS S1 o.dst s with | some S2 => vqops P π ops rest S2 K | none => False) → wpQuiet P ops (fun w' => ∃ n, w' = w.drewN n) Q (o :: rest) a := by
      intro S1 e1 e2 h1 hw hv1
      unfold wpQuiet
      rw [if_pos hw]
      refine zop_sound hπ (by rw [e1]; exact hM) h1 hv1 (fun s v h2 hk => ?_)
      split at hk
      · rename_i S2 hp
        obtain ⟨g1, g2, g3⟩ := putS_fr h1 h2 hp
        exact zops_sound hπ K rest S2 _ (by rw [g2, e1]; exact hM) g1 hk (fun S' a' k1 k2 k5 k3 k4 => hq S' a' (by rw [k1, g2, e1]) (by rw [k2, g3, e2]) (by rw [k5, hdef]) k3 k4)
      · exact hk.elim
    have goNo : ∀ S1, S1.res = S.res → S1.stk = S.stk → FrOk ρ I w S1.fr a → Region.wanted o (yielded ops a.tmps) = false →
        (match putS S1 o.dst .undef with | some S2 => vqops P π ops rest S2 K | none => False) → wpQuiet P ops (fun w' => ∃ n, w' = w.drewN n) Q (o :: rest) a := by
      intro S1 e1 e2 h1 hw hv1
      unfold wpQuiet
      rw [if_neg (by rw [hw]; simp)]
      split at hv1
      · rename_i S2 hp
        obtain ⟨g1, g2, g3⟩ := putS_fr (v := Go.undef) h1 (by simp [SV.den]) hp
        exact zops_sound hπ K rest S2 _ (by rw [g2, e1]; exact hM) g1 hv1 (fun S' a' k1 k2 k5 k3 k4 => hq S' a' (by rw [k1, g2, e1]) (by rw [k2, g3, e2]) (by rw [k5, hdef]) k3 k4)
      · exact hv1.elim
    have hg := gdOf_spec (ops := ops) (o := o) hf
    unfold vqops at hv
    split at hv
    · rename_i e; rw [e] at hg; exact goYes S rfl rfl hf hg hv
    · rename_i e; rw [e] at hg; exact goNo S rfl rfl hf hg hv
    · rename_i b want d e
      rw [e] at hg
      obtain ⟨h1, h2⟩ := hg
      by_cases hbw : b = want
      · have hv1 := hv.1 hbw
        split at hv1
        · rename_i S1 hp
          obtain ⟨g1, g2, g3⟩ := putS_fr (a := a) (v := .bool b) hf (by simp [SV.den, hbw]) hp
          rw [put_same a h1] at g1
          exact goYes S1 g2 g3 g1 (by rw [h2, hbw]; simp) hv1
        · exact hv1.elim
      · have hbn : b = !want := by cases b <;> cases want <;> simp_all
        have hv1 := hv.2 hbn
        split at hv1
        · rename_i S1 hp
          obtain ⟨g1, g2, g3⟩ := putS_fr (a := a) (v := .bool b) hf (by simp [SV.den, hbn]) hp
          rw [put_same a h1] at g1
          exact goNo S1 g2 g3 g1 (by rw [h2]; simp [hbw]) hv1
        · exact hv1.elim
    · exact hv.elim
end

def noP : PSpecs := fun _ => none
/-- Code that only reads: regions one behind the other. -/
def rreg (P : Program) (π : PSpecs) (ops : Array Oper) (dr : Bool) (S : St) (K : St → Prop) : Prop := match dr with
  | true => match Region.lexB .any ops with
    | true => vqops P π ops ops.toList S K
    | false => False
  | false => vqops P noP ops ops.toList S K
def rvx (P : Program) (π : PSpecs) : Code → St → (X → St → Prop) → Prop
  | .skip, S, K => K .normal S
  | .region _ ops dr, S, K => rreg P π ops dr S (K .normal)
  | .seq a b, S, K => rvx P π a S fun e S' => match e with
    | .normal => rvx P π b S' K
    | e => K e S'
  | .cond c x y, S, K => match S.fr.ev c with
    | .lit true => rvx P π x S K
    | .lit false => rvx P π y S K
    | .bool b => (b = true → rvx P π x (S.know c true) K) ∧ (b = false → rvx P π y (S.know c false) K)
    | _ => False
  | .block id c, S, K => rvx P π c S fun e S' => match e with
    | .exit i => bif Nat.beq i id then K .normal S' else K (.exit i) S'
    | e => K e S'
  | .exit id, S, K => K (.exit id) S
  | .ret, S, K => K .ret S
  | _, _, _ => False
def rvc (P : Program) (π : PSpecs) (c : Code) (S : St) (K : St → Prop) : Prop := rvx P π c S fun e S' => match e with
  | .ret => K S'
  | _ => False

section
variable {P : Program} {cx : Cx} {S : St} {ρ : List Value} {I : Nat → Prop} {F : Nat → Nat → Prop} {w : World} {a : Act} {sv : List Act}

/-- Operations one behind the other that leave the world as it is. -/
theorem rops_sound {n : Nat} {ops : Array Oper} {Q : Exit → Act → World → Prop} (K : St → Prop) : (l : List Oper) → (S : St) → (a : Act) → Mem cx S.res ρ I F w → FrOk ρ I w S.fr a → vqops P noP ops l S K →
    (∀ S' a', S'.res = S.res → S'.stk = S.stk → a'.defers = a.defers → FrOk ρ I w S'.fr a' → K S' → Q .normal a' w) → wpListIn (Wf none) n P ops Q l a w
  | [], S, a, hM, hf, hv, hq => hq S a rfl rfl rfl hf hv
  | o :: rest, S, a, hM, hf, hv, hq => by
    have hdef : ∀ v, (a.put o.dst v).defers = a.defers := fun v => by cases o.dst <;> rfl
    have goYes : ∀ S1, S1.res = S.res → S1.stk = S.stk → FrOk ρ I w S1.fr a → Region.wanted o (yielded ops a.tmps) = true →
        (vqop P noP S1 o fun s => match putS S1 o.dst s with | some S2 => vqops P noP ops rest S2 K | none => False) → wpListIn (Wf none) n P ops Q (o :: rest) a w := by
      intro S1 e1 e2 h1 hw hv1
      unfold wpListIn
      rw [if_pos hw]
      have hp : spure P S1 o (fun s => match putS S1 o.dst s with | some S2 => vqops P noP ops rest S2 K | none => False) := by
        unfold vqop at hv1
        split at hv1
        · rename_i c ho
          split at hv1
          · split at hv1
            · exact hv1.elim
            · exact hv1.elim
          · exact hv1.elim
          · exact hv1
          · exact hv1.elim
        · exact hv1.elim
        · exact hv1.elim
        · exact hv1.elim
        · exact hv1.elim
        · exact hv1
      have hnd : ∀ c, o.op ≠ .defer c := by
        intro c ho
        unfold spure at hp
        rw [ho] at hp
        exact hp
      obtain ⟨v, s, g1, g2, g3⟩ := spure_sound (by rw [e1]; exact hM) h1 hp
      refine ⟨fun _ _ => trivial, ?_⟩
      rw [semAt_exec _ _ _ hnd, g3 w (Same.refl w)]
      split at g2
      · rename_i S2 hp2
        obtain ⟨q1, q2, q3⟩ := putS_fr h1 g1 hp2
        exact rops_sound K rest S2 _ (by rw [q2, e1]; exact hM) q1 g2 (fun S' a' k1 k2 k5 k3 k4 => hq S' a' (by rw [k1, q2, e1]) (by rw [k2, q3, e2]) (by rw [k5, hdef]) k3 k4)
      · exact g2.elim
    have goNo : ∀ S1, S1.res = S.res → S1.stk = S.stk → FrOk ρ I w S1.fr a → Region.wanted o (yielded ops a.tmps) = false →
        (match putS S1 o.dst .undef with | some S2 => vqops P noP ops rest S2 K | none => False) → wpListIn (Wf none) n P ops Q (o :: rest) a w := by
      intro S1 e1 e2 h1 hw hv1
      unfold wpListIn
      rw [if_neg (by rw [hw]; simp)]
      refine ⟨fun _ _ => trivial, ?_⟩
      split at hv1
      · rename_i S2 hp
        obtain ⟨g1, g2, g3⟩ := putS_fr (v := Go.undef) h1 (by simp [SV.den]) hp
        exact rops_sound K rest S2 _ (by rw [g2, e1]; exact hM) g1 hv1 (fun S' a' k1 k2 k5 k3 k4 => hq S' a' (by rw [k1, g2, e1]) (by rw [k2, g3, e2]) (by rw [k5, hdef]) k3 k4)
      · exact hv1.elim
    have hg := gdOf_spec (ops := ops) (o := o) hf
    unfold vqops at hv
    split at hv
    · rename_i e; rw [e] at hg; exact goYes S rfl rfl hf hg hv
    · rename_i e; rw [e] at hg; exact goNo S rfl rfl hf hg hv
    · rename_i b want d e
      rw [e] at hg
      obtain ⟨h1, h2⟩ := hg
      by_cases hbw : b = want
      · have hv1 := hv.1 hbw
        split at hv1
        · rename_i S1 hp
          obtain ⟨g1, g2, g3⟩ := putS_fr (a := a) (v := .bool b) hf (by simp [SV.den, hbw]) hp
          rw [put_same a h1] at g1
          exact goYes S1 g2 g3 g1 (by rw [h2, hbw]; simp) hv1
        · exact hv1.elim
      · have hbn : b = !want := by cases b <;> cases want <;> simp_all
        have hv1 := hv.2 hbn
        split at hv1
        · rename_i S1 hp
          obtain ⟨g1, g2, g3⟩ := putS_fr (a := a) (v := .bool b) hf (by simp [SV.den, hbn]) hp
          rw [put_same a h1] at g1
          exact goNo S1 g2 g3 g1 (by rw [h2]; simp [hbw]) hv1
        · exact hv1.elim
    · exact hv.elim

theorem rreg_sound {π : PSpecs} (hπ : π.exact P) (hmix : P.follows .mixedOrders = true) {n id : Nat} {ops : Array Oper} {dr : Bool} {K : St → Prop} {Q : Exit → Act → World → Prop} (h : Ok cx S a w sv [] []) (hde : a.defers = []) (hv : rreg P π ops dr S K)
    (hq : ∀ S' a' m, Ok cx S' a' (w.drewN m) sv [] [] → a'.defers = [] → S'.res = S.res → K S' → Q .normal a' (w.drewN m)) : (Code.region id ops dr).wpIn (Wf none) n P Q a w := by
  obtain ⟨ρ, I, F, hM, hf, hs, _⟩ := h
  unfold rreg at hv
  split at hv
  · split at hv
    · rename_i hB
      refine wpIn_wide.2 ?_
      refine wp_region_quiet (C := fun w' => ∃ n, w' = w.drewN n) hmix hB ⟨1, rfl⟩ ?_
      refine zops_sound hπ K ops.toList S a hM hf hv (fun S' a' e1 e2 e3 h1 hk w' hw' => ?_)
      obtain ⟨m, rfl⟩ := hw'
      exact hq S' a' m (Ok.drewN ⟨ρ, I, F, by rw [e1]; exact hM, h1, by rw [e2]; exact hs, by simp [SV.denL]⟩ m) (by rw [e3, hde]) e1 hk
    · exact hv.elim
  · refine wpIn_region_list (rops_sound K ops.toList S a hM hf hv (fun S' a' e1 e2 e3 h1 hk => ?_))
    exact hq S' a' 0 ⟨ρ, I, F, by rw [e1]; exact hM, h1, by rw [e2]; exact hs, by simp [SV.denL]⟩ (by rw [e3, hde]) e1 hk

theorem rvx_sound {π : PSpecs} (hπ : π.exact P) (hmix : P.follows .mixedOrders = true) {n : Nat} : (c : Code) → (S : St) → (a : Act) → (w : World) → (K : X → St → Prop) → (Q : Exit → Act → World → Prop) → Ok cx S a w sv [] [] → a.defers = [] → rvx P π c S K →
    (∀ e S' a' m, Ok cx S' a' (w.drewN m) sv [] [] → a'.defers = [] → K e S' → Q e.out a' (w.drewN m)) → c.wpIn (Wf none) n P Q a w
  | .skip, S, a, w, K, Q, h, hde, hv, hq => wpIn_skip (hq .normal S a 0 h hde hv)
  | .region _ _ _, S, a, w, K, Q, h, hde, hv, hq => rreg_sound hπ hmix h hde hv (fun S' a' m h' hde' _ hk => hq .normal S' a' m h' hde' hk)
  | .seq x y, S, a, w, K, Q, h, hde, hv, hq => by
    unfold rvx at hv
    refine wpIn_seq (rvx_sound hπ hmix x S a w _ _ h hde hv (fun e S' a' m h' hde' hk => ?_))
    cases e with
    | normal => exact rvx_sound hπ hmix y S' a' _ K Q h' hde' hk (fun e S2 a2 m2 h2 hd2 hk2 => by rw [drewN_add] at h2 ⊢; exact hq e S2 a2 (m + m2) h2 hd2 hk2)
    | exit id => exact hq _ S' a' m h' hde' hk
    | ret => exact hq _ S' a' m h' hde' hk
  | .cond c x y, S, a, w, K, Q, h, hde, hv, hq => by
    unfold rvx at hv
    split at hv
    · rename_i hc
      obtain ⟨ρ, I, F, hM, hf, hs, hd⟩ := h
      have hev := Fr.ev_den hf c
      rw [hc] at hev
      unfold SV.den at hev
      exact wpIn_cond_true hev (rvx_sound hπ hmix x S a w K Q ⟨ρ, I, F, hM, hf, hs, hd⟩ hde hv hq)
    · rename_i hc
      obtain ⟨ρ, I, F, hM, hf, hs, hd⟩ := h
      have hev := Fr.ev_den hf c
      rw [hc] at hev
      unfold SV.den at hev
      exact wpIn_cond_false hev (rvx_sound hπ hmix y S a w K Q ⟨ρ, I, F, hM, hf, hs, hd⟩ hde hv hq)
    · rename_i b hc
      obtain ⟨h1, h2⟩ := know_ok h hc
      cases b with
      | true => exact wpIn_cond_true h2 (rvx_sound hπ hmix x _ a w K Q h1 hde (hv.1 rfl) hq)
      | false => exact wpIn_cond_false h2 (rvx_sound hπ hmix y _ a w K Q h1 hde (hv.2 rfl) hq)
    · exact hv.elim
  | .block id c, S, a, w, K, Q, h, hde, hv, hq => by
    unfold rvx at hv
    refine wpIn_block (rvx_sound hπ hmix c S a w _ _ h hde hv (fun e S' a' m h' hde' hk => ?_))
    cases e with
    | normal => exact hq .normal S' a' m h' hde' hk
    | exit i =>
      simp only [X.out, Exit.inBlock]
      by_cases e : i = id
      · subst e
        rw [if_pos rfl]
        simp only [Nat.beq_refl, cond_true] at hk
        exact hq .normal S' a' m h' hde' hk
      · rw [if_neg e]
        have e' : Nat.beq i id = false := by
          cases hb : Nat.beq i id with
          | true => exact absurd (Nat.eq_of_beq_eq_true hb) e
          | false => rfl
        simp only [e', cond_false] at hk
        exact hq (.exit i) S' a' m h' hde' hk
    | ret => exact hq .ret S' a' m h' hde' hk
  | .exit id, S, a, w, K, Q, h, hde, hv, hq => wpIn_exit (hq (.exit id) S a 0 h hde hv)
  | .ret, S, a, w, K, Q, h, hde, hv, hq => wpIn_ret (hq .ret S a 0 h hde hv)
  | .loop _, _, _, _, _, _, _, _, hv, _ => by unfold rvx at hv; exact hv.elim
  | .rangeFunc _ _ _ _, _, _, _, _, _, _, _, hv, _ => by unfold rvx at hv; exact hv.elim
  | .scope _, _, _, _, _, _, _, _, hv, _ => by unfold rvx at hv; exact hv.elim
  | .label _, _, _, _, _, _, _, _, hv, _ => by unfold rvx at hv; exact hv.elim
  | .goto _, _, _, _, _, _, _, _, hv, _ => by unfold rvx at hv; exact hv.elim
  | .refuse _, _, _, _, _, _, _, _, hv, _ => by unfold rvx at hv; exact hv.elim
theorem rvc_sound {π : PSpecs} (hπ : π.exact P) (hmix : P.follows .mixedOrders = true) {n : Nat} (c : Code) (S : St) (a : Act) (w : World) (K : St → Prop) (Q : Exit → Act → World → Prop) (h : Ok cx S a w sv [] []) (hde : a.defers = []) (hv : rvc P π c S K)
    (hq : ∀ S' a' m, Ok cx S' a' (w.drewN m) sv [] [] → a'.defers = [] → K S' → Q .ret a' (w.drewN m)) : c.wpIn (Wf none) n P Q a w :=
  rvx_sound hπ hmix c S a w _ Q h hde hv (fun e S' a' m h' hde' hk => by
    cases e with
    | ret => exact hq S' a' m h' hde' hk
    | normal => exact hk.elim
    | exit _ => exact hk.elim)

/-- A function that only reads: what it gives, in the world of before, but for draws. -/
theorem read_fn {π : PSpecs} (hπ : π.exact P) (hmix : P.follows .mixedOrders = true) {f : FuncId} {fn : Func} {c : Code} (hf : P.funcs[f]? = some fn) (hb : fn.body = some c) {ss : List SV} {vs : List Value} (h : Ok cx S a w sv ss vs) (hlen : ss.length ≤ fn.ntmps) {s : SV}
    (hv : rvc P π c (enterS fn.ntmps ss S) fun S' => retS P S' fn.results.toList fun rs => resSV rs = s) :
    Calls P f vs.toArray w fun e w' => ∃ v, e = .returned v ∧ (∃ m, w' = w.drewN m) ∧ ∃ ρ I, SV.den ρ I w' s v := by
  obtain ⟨ρ, I, F, hM, hfr, hs, hd⟩ := h
  have hl := SV.denL_length ss hd
  refine (callsIn_wide (n := 0)).1 (callsIn_of_wp_marks (F := Wf none) (n := 0) hf hb trivial ?_ rfl)
  have hen : Ok cx (enterS fn.ntmps ss S) { tmps := vs.toArray ++ Array.replicate (fn.ntmps - vs.toArray.size) Go.undef, defers := [] } w (a :: sv) [] [] := by
    refine ⟨ρ, I, F, hM, ⟨?_, fun t => ?_, rfl⟩, ⟨a, sv, rfl, hfr, hs⟩, by simp [SV.denL]⟩
    · simp [enterS]; omega
    · have := argT_den 0 ss vs hd t
      simp only [Nat.zero_le, if_true, Nat.sub_zero] at this
      simp only [enterS]
      rw [Array.getD_eq_getD_getElem?, Array.getElem?_append]
      split
      · rename_i hlt
        simpa using this
      · rename_i hge
        simp only [List.size_toArray] at hge
        have e1 : vs[t]? = none := List.getElem?_eq_none (by omega)
        rw [e1] at this
        have e2 : ((Array.replicate (fn.ntmps - vs.toArray.size) Go.undef)[t - vs.toArray.size]?).getD Go.undef = Go.undef := by
          rw [Array.getElem?_replicate]; split <;> rfl
        rw [e2]; simpa using this
  refine rvc_sound hπ hmix c _ _ w _ _ hen rfl hv (fun S' a' m h' hde hk => ?_)
  obtain ⟨ρ2, I2, F2, hM2, hf2, hs2, _⟩ := h'
  obtain ⟨us, rs, g1, g2, g3⟩ := retS_sound (P := P) hM2 hf2 fn.results.toList _ hk
  show LeavesInM (Wf none) 0 P fn a'.tmps _ a'.defers .returning (w.drewN m)
  rw [hde]
  unfold LeavesInM LeavesIn
  refine ⟨_, results_of fn (a := a') g3, _, rfl, ⟨m, rfl⟩, ρ2, I2, ?_⟩
  rw [← g2]
  exact resSV_den g1
end
/-- A contract of a function that only reads, for regions that draw their order. -/
theorem reads_fn {P : Program} {π : PSpecs} (hπ : π.exact P) (hmix : P.follows .mixedOrders = true) {f : FuncId} {fn : Func} {c : Code} (hf : P.funcs[f]? = some fn) (hb : fn.body = some c) {R : RSpec}
    (h : ∀ ss res s, R ss res s → ss.length ≤ fn.ntmps ∧ rvc P π c (enterS fn.ntmps ss { fr := { n := 0, tm := [] }, stk := [], res := res }) fun S' => retS P S' fn.results.toList fun rs => resSV rs = s) : ReadsOk P f R := by
  intro cx S a w sv ss vs s hok hR
  obtain ⟨ρ, I, F, hM, hfr, hs, hd⟩ := hok
  obtain ⟨h1, h2⟩ := h ss S.res s hR
  have hok0 : Ok cx { fr := { n := 0, tm := [] }, stk := [], res := S.res } { tmps := #[], defers := [] } w [] ss vs :=
    ⟨ρ, I, F, hM, ⟨rfl, fun t => by simp [getT, SV.den], rfl⟩, rfl, hd⟩
  refine (read_fn hπ hmix hf hb hok0 h1 h2).mono ?_
  rintro e w' ⟨v, rfl, ⟨m, rfl⟩, ρ2, I2, hd2⟩
  exact ⟨v, rfl, ⟨rfl, rfl, rfl, Nat.le_refl _, fun _ _ => rfl⟩, ρ2, I2, hd2⟩
end Go.Proofs.Ythoaelmomocohaa.Gx
