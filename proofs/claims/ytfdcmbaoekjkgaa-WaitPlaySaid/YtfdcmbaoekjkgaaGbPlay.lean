/- Memory as symbolic states, conditions for code, and that what they ask is enough; no condition. -/
import Derived.Test.YtfdcmbaoekjkgaaGaPlay
import Derived.TacticsIn
import Derived.RangeFuncLeaves
import Derived.RangeFuncRecord
import Derived.RangeFuncIn
namespace Go.Proofs.Ytfdcmbaoekjkgaa.Gx
open Go.RowKit
set_option linter.unusedSimpArgs false
set_option linter.unusedVariables false

def insL {α : Type _} : List (Int × α) → Int → α → List (Int × α)
  | [], k, v => [(k, v)]
  | x :: l, k, v => if x.1 = k then (k, v) :: l else x :: insL l k v

def delL {α : Type _} : List (Int × α) → Int → List (Int × α)
  | [], _ => []
  | x :: l, k => if x.1 = k then l else x :: delL l k

theorem lookL_none {α : Type _} {k : Int} : (l : List (Int × α)) → (lookL l k = none ↔ k ∉ l.map (·.1))
  | [] => by simp [lookL]
  | x :: l => by
    simp only [lookL, List.map_cons, List.mem_cons, not_or]
    split
    · rename_i h; simp [h]
    · rename_i h; rw [lookL_none l]; constructor
      · intro h2; exact ⟨fun e => h e.symm, h2⟩
      · intro h2; exact h2.2

/-- A value as a datum of a map. -/
def vdat (ag : Bool) (vt : Ty) (s : SV) : Option vt.den :=
  match ag, s with
  | true, .agg cs => match implode vt cs with
    | some (y, []) => some y
    | _ => none
  | true, _ => none
  | false, .agg _ => none
  | false, s => match implode vt [s] with
    | some (y, []) => some y
    | _ => none

def smapset (P : Program) (S : St) (T : TypeId) (m key x : SV) (k : SV → St → Prop) : Prop :=
  match P.underlying T, key, m with
  | some (.map kt _), .int kk n, .mp i => match P.underlying kt, S.res[i]? with
    | some (.int _), some (.mapr kk' ag vt es _) => match decEq kk' kk, vdat ag vt x with
      | .isTrue _, some y => k .undef { S with res := S.res.set i (.mapr kk' ag vt (insL es n y) none) }
      | _, _ => False
    | _, _ => False
  | _, _, _ => False

def smapdel (P : Program) (S : St) (T : TypeId) (m key : SV) (k : SV → St → Prop) : Prop :=
  match P.underlying T, key, m with
  | some (.map kt _), .int kk n, .mp i => match P.underlying kt, S.res[i]? with
    | some (.int _), some (.mapr kk' ag vt es _) => match decEq kk' kk with
      | .isTrue _ => k (.tup []) { S with res := S.res.set i (.mapr kk' ag vt (delL es n) none) }
      | _ => False
    | _, _ => False
  | _, _, _ => False

def smakemap (P : Program) (S : St) (T : TypeId) (k : SV → St → Prop) : Prop :=
  match P.underlying T with
  | some (.map kt et) => match P.underlying kt, P.underlying et, tyOf P 20 et with
    | some (.int kk), some d, some vt => k (.mp S.res.length) (S.push (.mapr kk (isAggD d) vt [] none))
    | _, _, _ => False
  | _ => False

def srange (P : Program) (S : St) (T : TypeId) (x : SV) (k : SV → St → Prop) : Prop :=
  match x with
  | .mp i => match S.res[i]?, P.underlying T with
    | some (.mapr kk ag vt es _), some (.map _ _) => k (.ptr S.res.length 0) { S with res := (S.res ++ [Res.mit i]).set i (.mapr kk ag vt es (some (S.res.length, none, es.map fun x => x.1))) }
    | _, _ => False
  | _ => False

def snext (S : St) (x : SV) (k : SV → St → Prop) : Prop :=
  match x with
  | .ptr j off => match S.res[j]? with
    | some (.mit i) => match S.res[i]? with
      | some (.mapr kk ag vt es (some (j', _, left))) => match Nat.beq j' j, Nat.beq off 0 with
        | true, true => (left = [] → k (.tup [.lit false]) { S with res := S.res.set i (.mapr kk ag vt es none) }) ∧
            ∀ (n : Nat) (key : Int), left[n]? = some key → k (.tup [.lit true, .int kk key, .any]) { S with res := S.res.set i (.mapr kk ag vt es (some (j', some key, left.eraseIdx n))) }
        | _, _ => False
      | _ => False
    | _ => False
  | _ => False

section
variable {P : Program} {cx : Cx} {S : St} {res : List Res} {ρ : List Value} {I : Nat → Prop} {F : Nat → Nat → Prop} {w : World} {a : Act} {sv : List Act}

theorem vdat_rd {ag : Bool} {vt : Ty} {s : SV} {y : vt.den} {v : Value} (h : vdat ag vt s = some y) (hd : SV.den ρ I w s v) : VRd I w ag vt y v := by
  unfold vdat at h
  split at h
  · rename_i cs
    split at h
    · rename_i y' hy
      cases h
      unfold SV.den at hd
      obtain ⟨vs, rfl, hd⟩ := hd
      obtain ⟨c1, c2, rfl, h1, h2⟩ := implode_den vt hd hy
      unfold SV.denL at h2
      subst h2
      exact ⟨c1, by simp, h1⟩
    · cases h
  · cases h
  · cases h
  · split at h
    · rename_i y' hy
      cases h
      obtain ⟨c1, c2, e, h1, h2⟩ := implode_den (ρ := ρ) (w := w) (I := I) vt (vs := [v]) (by unfold SV.denL; exact ⟨v, [], rfl, hd, by simp [SV.denL]⟩) hy
      unfold SV.denL at h2
      subst h2
      rw [List.append_nil] at e
      subst e
      exact h1
    · cases h

theorem ins_ok {kk : IntKind} {ag : Bool} {vt : Ty} {kd : IntKind} {n : Int} {y : vt.den} {v : Value} (hy : VRd I w ag vt y v) (c : Nat) : (ents : List MapEntry) → {es : List (Int × vt.den)} → EntsOk I w kk ag vt ents es → (i : Nat) →
    (lookL es n = none ∧ Instr.findNow (.int kd) (.int kk n) ents i = some none ∧ EntsOk I w kk ag vt (ents ++ [⟨.int kk n, v, c⟩]) (insL es n y) ∧ (insL es n y).map (·.1) = es.map (·.1) ++ [n]) ∨
    ∃ j e, ents[j]? = some e ∧ e.key = .int kk n ∧ Instr.findNow (.int kd) (.int kk n) ents i = some (some (i + j, e.val)) ∧ EntsOk I w kk ag vt (ents.modify j fun e => { e with key := .int kk n, val := v }) (insL es n y) ∧ (insL es n y).map (·.1) = es.map (·.1)
  | [], _, h, i => by
    simp only [EntsOk] at h
    subst h
    refine .inl ⟨rfl, rfl, ⟨(n, y), [], rfl, rfl, hy, rfl⟩, rfl⟩
  | e :: ents, _, h, i => by
    obtain ⟨x, es', rfl, h1, h2, h3⟩ := h
    have hs : Instr.sameNow (.int kd) (.int kk n) e.key = some (n == x.1) := by rw [h1]; simp [Instr.sameNow]
    by_cases hx : x.1 = n
    · refine .inr ⟨0, e, rfl, by rw [h1, hx], ?_, ?_, ?_⟩
      · simp only [Instr.findNow, hs, hx, beq_self_eq_true, Nat.add_zero]
      · simp only [insL, if_pos hx, List.modify_zero_cons]
        exact ⟨(n, y), es', rfl, rfl, hy, h3⟩
      · simp [insL, hx]
    · have hx' : (n == x.1) = false := by simp; exact fun e => hx e.symm
      rcases ins_ok (kd := kd) (n := n) hy c ents h3 (i + 1) with ⟨g1, g2, g3, g4⟩ | ⟨j, e', g1, g2, g3, g4, g5⟩
      · refine .inl ⟨by simp only [lookL, if_neg hx, g1], by simp only [Instr.findNow, hs, hx', g2], ?_, ?_⟩
        · simp only [insL, if_neg hx, List.cons_append]
          exact ⟨x, _, rfl, h1, h2, g3⟩
        · simp only [insL, if_neg hx, List.map_cons, g4, List.cons_append]
      · refine .inr ⟨j + 1, e', by simpa using g1, g2, ?_, ?_, ?_⟩
        · simp only [Instr.findNow, hs, hx', g3]
          rw [show i + 1 + j = i + (j + 1) by omega]
        · simp only [insL, if_neg hx, List.modify_succ_cons]
          exact ⟨x, _, rfl, h1, h2, g4⟩
        · simp only [insL, if_neg hx, List.map_cons, g5]

theorem del_ok {kk : IntKind} {ag : Bool} {vt : Ty} {kd : IntKind} {n : Int} : (ents : List MapEntry) → {es : List (Int × vt.den)} → EntsOk I w kk ag vt ents es → (i : Nat) →
    (Instr.findNow (.int kd) (.int kk n) ents i = some none ∧ delL es n = es) ∨
    ∃ j e, j < ents.length ∧ Instr.findNow (.int kd) (.int kk n) ents i = some (some (i + j, e)) ∧ EntsOk I w kk ag vt (ents.eraseIdx j) (delL es n)
  | [], _, h, i => by
    simp only [EntsOk] at h
    subst h
    exact .inl ⟨rfl, rfl⟩
  | e :: ents, _, h, i => by
    obtain ⟨x, es', rfl, h1, h2, h3⟩ := h
    have hs : Instr.sameNow (.int kd) (.int kk n) e.key = some (n == x.1) := by rw [h1]; simp [Instr.sameNow]
    by_cases hx : x.1 = n
    · refine .inr ⟨0, e.val, by simp, ?_, ?_⟩
      · simp only [Instr.findNow, hs, hx, beq_self_eq_true, Nat.add_zero]
      · simp only [delL, if_pos hx, List.eraseIdx_zero, List.tail_cons]
        exact h3
    · have hx' : (n == x.1) = false := by simp; exact fun e => hx e.symm
      rcases del_ok (kd := kd) (n := n) ents h3 (i + 1) with ⟨g1, g2⟩ | ⟨j, e', g1, g2, g3⟩
      · exact .inl ⟨by simp only [Instr.findNow, hs, hx', g1], by simp only [delL, if_neg hx, g2]⟩
      · refine .inr ⟨j + 1, e', by simpa using g1, ?_, ?_⟩
        · simp only [Instr.findNow, hs, hx', g2]
          rw [show i + 1 + j = i + (j + 1) by omega]
        · simp only [delL, if_neg hx, List.eraseIdx_cons_succ]
          exact ⟨x, _, rfl, h1, h2, g3⟩

theorem delL_sub {α : Type _} (n : Int) : (es : List (Int × α)) → (delL es n).Sublist es
  | [] => .slnil
  | x :: l => by
    simp only [delL]
    split
    · exact List.sublist_cons_self x l
    · exact (delL_sub n l).cons_cons x

/-- A map is written. -/
theorem map_put (hM : Mem cx S.res ρ I F w) (hf : FrOk ρ I w S.fr a) (hs : StkOk ρ I w S.stk sv) {i b : Nat} {kk : IntKind} {ag : Bool} {vt : Ty} {es : List (Int × vt.den)} {it : Option (Nat × Option Int × List Int)}
    (hr : S.res[i]? = some (.mapr kk ag vt es it)) (hb : ρ[i]? = some (.map (some b))) {ents' : List MapEntry} {es' : List (Int × vt.den)} {clock' : Nat} (hrd : EntsOk I w kk ag vt ents' es')
    (hnd : (es'.map (·.1)).Nodup) (hbn : (ents'.map (·.born)).Nodup) (hck : ∀ e ∈ ents', e.born < clock') {s : SV} {v : Value} (hsv : ∀ (ρ : List Value) (I : Nat → Prop) (w : World), SV.den ρ I w s v) :
    Ok cx { S with res := S.res.set i (.mapr kk ag vt es' none) } a { w with heap := w.heap.setIfInBounds b (.map ents'.toArray clock') } sv [s] [v] := by
  have hil := (List.getElem?_eq_some_iff.1 hr).1
  obtain ⟨b', ents, clock, ro, g1, g2, g3, g4⟩ := hM.holds _ _ hr
  rw [hb] at g1
  obtain rfl : b = b' := by simpa using g1
  have hbl : b < w.heap.size := (Array.getElem?_eq_some_iff.1 g2.heap).1
  obtain ⟨w', hw'⟩ : ∃ w', ({ w with heap := w.heap.setIfInBounds b (.map ents'.toArray clock') } : World) = w' := ⟨_, rfl⟩
  rw [hw']
  have hother : ∀ k, k ≠ b → w'.heap[k]? = w.heap[k]? := fun k hk => by rw [← hw']; simp only; rw [Array.getElem?_setIfInBounds_ne (fun e => hk e.symm)]
  have hsame : ∀ k, I k → w'.heap[k]? = w.heap[k]? := fun k hk => hother k (fun e => hM.notI i k hil ((g3 k).2 (.inl e)) hk)
  have hM' := Mem.change (w' := w') (ρ' := ρ) hM hil (.mapr kk ag vt es' none) (fun k => k = b) id rfl hM.ones
    (fun k _ hnf => hother k (fun e => hnf ((g3 k).2 (.inl e)))) (by rw [← hw']; simp) (by rw [← hw']) (by rw [← hw']) (by rw [← hw'])
    (fun k hk => ⟨.inl ((g3 k).2 (.inl hk)), by rw [← hw']; simp; omega⟩)
    (fun j y hji hy hh => Res.keep (fun _ _ h => h) (fun _ h => h) hsame (fun k hk => hother k (fun e => hM.apart j i k (List.getElem?_eq_some_iff.1 hy).1 hil hji hk ((g3 k).2 (.inl e)))) y hh)
    ⟨b, ents', clock', none, hb, ⟨by rw [← hw']; simp [hbl], hrd.keep (fun _ h => h) hsame, hnd, hbn, hck⟩, fun k => by simp, rfl⟩
  rw [List.map_id] at hM'
  refine ⟨ρ, I, _, hM', hf.keep (fun _ _ h => h) (fun _ h => h) hsame, StkOk.keep (fun _ _ h => h) (fun _ h => h) hsame _ hs, ?_⟩
  unfold SV.denL
  exact ⟨v, [], rfl, hsv _ _ _, by simp [SV.denL]⟩

theorem setObj_map {w : World} {b : Nat} {ents : Array MapEntry} {c : Nat} (h : w.heap[b]? = some (.map ents c)) (o : Obj) : (setObj b o).run P w = .ok () { w with heap := w.heap.setIfInBounds b o } := by
  simp [setObj, Sem.run, h]

theorem stays (kk : IntKind) (n : Int) (w : World) : (Instr.keyThatStays (.int kk n) (.int kk n)).run P w = .ok (.int kk n) w := by
  have : Instr.sameBits 10000 (.int kk n) (.int kk n) = true := by
    show Instr.sameBits (Nat.succ 9999) (.int kk n) (.int kk n) = true
    unfold Instr.sameBits; simp
  simp only [Instr.keyThatStays, this, if_true, Sem.run_pure]

theorem mapset_run {T kt et : TypeId} {kk kd : IntKind} {n : Int} {b : Nat} {ents : List MapEntry} {clock : Nat} {ag : Bool} {vt : Ty} {es : List (Int × vt.den)} {y : vt.den} {v : Value}
    (hT : P.underlying T = some (.map kt et)) (hk : P.underlying kt = some (.int kd)) (g : MapOk I w kk ag vt b es ents clock) (hy : VRd I w ag vt y v) :
    ∃ ents' clock', (Instr.mapUpdate T (.map (some b)) (.int kk n) v).run P w = .ok () { w with heap := w.heap.setIfInBounds b (.map ents'.toArray clock') } ∧ EntsOk I w kk ag vt ents' (insL es n y) ∧
      ((insL es n y).map (·.1)).Nodup ∧ (ents'.map (·.born)).Nodup ∧ ∀ e ∈ ents', e.born < clock' := by
  rcases ins_ok (kd := kd) (n := n) hy clock ents g.rd 0 with ⟨g1, g2, g3, g4⟩ | ⟨j, e, g1, g2, g3, g4, g5⟩
  · refine ⟨ents ++ [⟨.int kk n, v, clock⟩], clock + 1, ?_, g3, ?_, ?_, ?_⟩
    · simp only [Instr.mapUpdate, Sem.run_bind, run_underlying hT, Result.andThen_ok, getObj_map g.heap, checkKey_int hk, findKey_int hk g2, setObj_map g.heap]
      simp
    · rw [g4, List.nodup_append]
      refine ⟨g.nodup, by simp, fun x hx y hy e => ?_⟩
      simp at hy
      subst hy; subst e
      exact (lookL_none es).1 g1 hx
    · rw [List.map_append, List.nodup_append]
      refine ⟨g.born, by simp, fun x hx y hy e => ?_⟩
      simp at hy
      subst hy; subst e
      obtain ⟨e', h1, h2⟩ := List.mem_map.1 hx
      have := g.clock e' h1
      omega
    · intro e he
      rcases List.mem_append.1 he with h | h
      · have := g.clock e h; omega
      · simp at h; subst h; simp
  · have hmod : ∀ (l : List MapEntry) (j : Nat), (l.modify j fun e => { e with key := .int kk n, val := v }).map (·.born) = l.map (·.born) := by
      intro l j
      apply List.ext_getElem?
      intro m
      simp only [List.getElem?_map, List.getElem?_modify]
      split <;> cases l[m]? <;> rfl
    refine ⟨ents.modify j fun e => { e with key := .int kk n, val := v }, clock, ?_, g4, by rw [g5]; exact g.nodup, by rw [hmod]; exact g.born, ?_⟩
    · have h1 : (ents.toArray[0 + j]?).map (·.key) = some (.int kk n) := by simp [g1, g2]
      have h2 : ((ents.toArray[0 + j]?).map (·.key)).getD (.int kk n) = .int kk n := by rw [h1]; rfl
      simp only [Instr.mapUpdate, Sem.run_bind, run_underlying hT, Result.andThen_ok, getObj_map g.heap, checkKey_int hk, findKey_int hk g3, h2, stays, setObj_map g.heap]
      simp
    · intro e' he'
      have hm : e'.born ∈ (ents.modify j fun e => { e with key := .int kk n, val := v }).map (·.born) := List.mem_map.2 ⟨e', he', rfl⟩
      rw [hmod] at hm
      obtain ⟨e2, h1, h2⟩ := List.mem_map.1 hm
      rw [← h2]
      exact g.clock e2 h1

theorem smapset_sound (h : Ok cx S a w sv [] []) {o : Oper} {T : TypeId} {m key x : Operand} (ho : o.op = .mapUpdate T m key x ∨ o.op = .insert T m key x) {k : SV → St → Prop}
    (hk : smapset P S T (S.fr.ev m) (S.fr.ev key) (S.fr.ev x) k) : EffOk P cx sv a w o k := by
  obtain ⟨ρ, I, F, hM, hf, hs, _⟩ := h
  unfold smapset at hk
  split at hk
  · rename_i kt et kk n i hT hkey hm
    split at hk
    · rename_i kd kk' ag vt es it hkd hr
      split at hk
      · rename_i e y _ hy
        subst e
        have hmd := Fr.ev_den hf m
        have hkd' := Fr.ev_den hf key
        have hxd := Fr.ev_den hf x
        rw [hm] at hmd
        rw [hkey] at hkd'
        unfold SV.den at hmd hkd'
        obtain ⟨b, hb, hme⟩ := hmd
        obtain ⟨b', ents, clock, ro, g1, g2, g3, g4⟩ := hM.holds _ _ hr
        rw [hb] at g1
        obtain rfl : b = b' := by simpa using g1
        obtain ⟨ents', clock', r1, r2, r3, r4, r5⟩ := mapset_run (n := n) hT hkd g2 (vdat_rd hy hxd)
        refine ⟨.skip, Go.undef, _, .undef, _, ?_, .inr ⟨rfl, rfl⟩, map_put hM hf hs hr hb r2 r3 r4 r5 (fun _ _ _ => by simp [SV.den]), hk⟩
        rcases ho with ho | ho <;> simp only [execOp, ho, hme, hkd', r1, Sem.run_bind, Result.andThen_ok, Sem.run_pure]
      · exact hk.elim
    · exact hk.elim
  · exact hk.elim

theorem smapdel_sound (h : Ok cx S a w sv [] []) {o : Oper} {c : Call} {T t' : TypeId} {m key : Operand} (ho : o.op = .call c) (hc : c.callee = .builtin .delete) (hargs : c.args.toList = [m, key]) (htys : c.argTypes.toList = [T, t'])
    {k : SV → St → Prop} (hk : smapdel P S T (S.fr.ev m) (S.fr.ev key) k) : EffOk P cx sv a w o k := by
  have hae : c.args = #[m, key] := by apply Array.ext'; simpa using hargs
  have hte : c.argTypes = #[T, t'] := by apply Array.ext'; simpa using htys
  obtain ⟨ρ, I, F, hM, hf, hs, _⟩ := h
  unfold smapdel at hk
  split at hk
  · rename_i kt et kk n i hT hkey hm
    split at hk
    · rename_i kd kk' ag vt es it hkd hr
      split at hk
      · rename_i e _
        subst e
        have hmd := Fr.ev_den hf m
        have hkd' := Fr.ev_den hf key
        rw [hm] at hmd
        rw [hkey] at hkd'
        unfold SV.den at hmd hkd'
        obtain ⟨b, hb, hme⟩ := hmd
        obtain ⟨b', ents, clock, ro, g1, g2, g3, g4⟩ := hM.holds _ _ hr
        rw [hb] at g1
        obtain rfl : b = b' := by simpa using g1
        have hrun : ∃ ents', (Builtin.delete_ #[T, t'] o.type #[.map (some b), .int kk' n]).run P w = .ok (.tuple #[]) { w with heap := w.heap.setIfInBounds b (.map ents'.toArray clock) } ∧ EntsOk I w kk' ag vt ents' (delL es n) ∧ ents'.Sublist ents := by
          rcases del_ok (kd := kd) (n := n) ents g2.rd 0 with ⟨q1, q2⟩ | ⟨j, e, q0, q1, q2⟩
          · refine ⟨ents, ?_, by rw [q2]; exact g2.rd, List.Sublist.refl _⟩
            simp only [Builtin.delete_, List.getElem?_toArray, List.getElem?_cons_zero, List.getElem?_cons_succ, Sem.run_bind, run_underlying hT, Result.andThen_ok, getObj_map g2.heap, checkKey_int hkd, findKey_int hkd q1, setObj_map g2.heap, Sem.run_pure]
          · refine ⟨ents.eraseIdx j, ?_, q2, List.eraseIdx_sublist _ _⟩
            simp only [Builtin.delete_, List.getElem?_toArray, List.getElem?_cons_zero, List.getElem?_cons_succ, Sem.run_bind, run_underlying hT, Result.andThen_ok, getObj_map g2.heap, checkKey_int hkd, findKey_int hkd q1, setObj_map g2.heap, Sem.run_pure]
            simp
        obtain ⟨ents', r1, r2, r3⟩ := hrun
        refine ⟨.value (.tuple #[]), .tuple #[], _, .tup [], _, ?_, .inl rfl, map_put hM hf hs hr hb r2 ((delL_sub n es).map _ |>.nodup g2.nodup) ((r3.map _).nodup g2.born) (fun e he => g2.clock e (r3.subset he)) (fun _ _ _ => by unfold SV.den; exact ⟨[], rfl, by simp [SV.denL]⟩), hk⟩
        simp only [execOp, ho, resolve, hc, invoke, builtin, Sem.run_bind, Sem.run_pure, Result.andThen_ok, hae, hte, List.map_toArray, List.map_cons, List.map_nil, hme, hkd', r1]
      · exact hk.elim
    · exact hk.elim
  · exact hk.elim

theorem smakemap_sound (h : Ok cx S a w sv [] []) {o : Oper} {T : TypeId} {r : Option Operand} (ho : o.op = .makeMap T r) (hrv : ∀ r', r = some r' → ∃ kk n, a.eval r' = .int kk n) {k : SV → St → Prop} (hk : smakemap P S T k) : EffOk P cx sv a w o k := by
  obtain ⟨ρ, I, F, hM, hf, hs, _⟩ := h
  unfold smakemap at hk
  split at hk
  · rename_i kt et hT
    split at hk
    · rename_i kk d vt _ _ _
      have hsame : ∀ k, I k → (w.alloc (.map #[] 0)).heap[k]? = w.heap[k]? := fun k hk => Below.heap_alloc w _ k (hM.Ilt k hk)
      have hnew : (ρ ++ [Value.map (some w.heap.size)])[S.res.length]? = some (.map (some w.heap.size)) := by rw [getElem?_snoc, if_pos hM.len.symm]
      obtain ⟨F', hM'⟩ := hM.push (.map #[] 0) (.mapr kk (isAggD d) vt [] none) (.map (some w.heap.size)) rfl
        ⟨w.heap.size, [], 0, none, hnew, ⟨heap_alloc_new w _, rfl, by simp, by simp, by simp⟩, fun k => by simp, rfl⟩
      refine ⟨.value (.map (some w.heap.size)), _, w.alloc (.map #[] 0), .mp S.res.length, S.push (.mapr kk (isAggD d) vt [] none), ?_, .inl rfl, ⟨_, I, F', hM', hf.keep (fun _ _ h => rho_snoc h) (fun _ h => h) hsame, StkOk.keep (fun _ _ h => rho_snoc h) (fun _ h => h) hsame _ hs, ?_⟩, hk⟩
      · cases r with
        | none =>
          simp [execOp, ho, Instr.makeMap, newObj]
          rfl
        | some r' =>
          obtain ⟨kk', n, he⟩ := hrv r' rfl
          simp [execOp, ho, Instr.makeMap, newObj, he, run_underlying hT, asInt]
          rfl
      · unfold SV.denL SV.den
        exact ⟨_, [], rfl, ⟨w.heap.size, hnew, rfl⟩, by simp [SV.denL]⟩
    · exact hk.elim
  · exact hk.elim

/-- A place for an iterator. -/
theorem Mem.mit (h : Mem cx res ρ I F w) (i r : Nat) : Mem cx (res ++ [.mit i]) (ρ ++ [.pointer (some ⟨r, 0, none⟩)]) I (fun j k => j ≠ res.length ∧ F j k) w where
  len := by simp [h.len]
  ones := fun j v hv => by
    rw [getElem?_snoc] at hv
    split at hv
    · cases hv; rfl
    · exact h.ones j v hv
  holds := fun j x hr => by
    rw [getElem?_snoc] at hr
    split at hr
    · rename_i hj
      cases hr
      refine ⟨⟨r, ?_⟩, fun k hk => hk.1 hj⟩
      rw [hj, ← h.len]; simp
    · rename_i hj
      have := Res.keep (fun _ _ h => rho_snoc (u := .pointer (some ⟨r, 0, none⟩)) h) (fun _ h => h) (fun _ _ => rfl) (fun _ _ => rfl) x (h.holds j x hr)
      have hF : (fun k => j ≠ res.length ∧ F j k) = F j := by funext k; simp [hj]
      rw [hF]; exact this
  apart := fun i j k hi hj hne h1 h2 => by
    simp at hi hj
    exact h.apart i j k (by omega) (by omega) hne h1.2 h2.2
  lt := fun i k hi h1 => by simp at hi; exact h.lt i k (by omega) h1.2
  notI := fun i k hi h1 => by simp at hi; exact h.notI i k (by omega) h1.2
  new := fun i k hi h1 => by simp at hi; exact h.new i k (by omega) h1.2
  I0 := h.I0
  Ilt := h.Ilt
  Inew := h.Inew
  size := h.size
  os := h.os
  tape := h.tape
  output := h.output
  frame := h.frame

theorem zip_fst {α : Type _} (f : MapEntry → Bool) (g : (Int × α) → Int) : (ents : List MapEntry) → (es : List (Int × α)) → ents.length = es.length → (ents.zip es).map (·.1) = ents
  | [], _, _ => by simp
  | e :: ents, [], h => by simp at h
  | e :: ents, x :: es, h => by simp at h; simp [zip_fst f g ents es h]

theorem srange_sound (h : Ok cx S a w sv [] []) {o : Oper} {T : TypeId} {x : Operand} (ho : o.op = .range T x) {k : SV → St → Prop} (hk : srange P S T (S.fr.ev x) k) : EffOk P cx sv a w o k := by
  obtain ⟨ρ, I, F, hM, hf, hs, _⟩ := h
  unfold srange at hk
  split at hk
  · rename_i i hx
    split at hk
    · rename_i kk ag vt es it kt et hr hT
      have hxd := Fr.ev_den hf x
      rw [hx] at hxd
      unfold SV.den at hxd
      obtain ⟨b, hb, hxe⟩ := hxd
      have hil := (List.getElem?_eq_some_iff.1 hr).1
      obtain ⟨b', ents, clock, ro, g1, g2, g3, g4⟩ := hM.holds _ _ hr
      rw [hb] at g1
      obtain rfl : b = b' := by simpa using g1
      have hbl : b < w.heap.size := (Array.getElem?_eq_some_iff.1 g2.heap).1
      obtain ⟨w', hw'⟩ : ∃ w', w.alloc (.mapIter (some b) clock #[] clock) = w' := ⟨_, rfl⟩
      have hold : ∀ k, k < w.heap.size → w'.heap[k]? = w.heap[k]? := fun k hk => by rw [← hw']; exact Below.heap_alloc w _ k hk
      have hM1 := hM.mit i w.heap.size
      have hnew : (ρ ++ [Value.pointer (some ⟨w.heap.size, 0, none⟩)])[S.res.length]? = some (.pointer (some ⟨w.heap.size, 0, none⟩)) := by rw [getElem?_snoc, if_pos hM.len.symm]
      have hil1 : i < (S.res ++ [Res.mit i]).length := by simp; omega
      have hF1 : ∀ k, (i ≠ S.res.length ∧ F i k) ↔ F i k := fun k => ⟨fun h => h.2, fun h => ⟨by omega, h⟩⟩
      have hsz : w'.heap.size = w.heap.size + 1 := by rw [← hw']; simp
      have hM' := Mem.change (w' := w') (ρ' := ρ ++ [Value.pointer (some ⟨w.heap.size, 0, none⟩)]) hM1 hil1 (.mapr kk ag vt es (some (S.res.length, none, es.map fun x => x.1))) (fun k => k = b ∨ k = w.heap.size) id rfl hM1.ones
        (fun k hk _ => hold k hk) (by omega) (by rw [← hw']; rfl) (by rw [← hw']; rfl) (by rw [← hw']; rfl)
        (fun k hk => ⟨hk.elim (fun e => .inl ((hF1 k).2 ((g3 k).2 (.inl e)))) (fun e => .inr (by omega)), by rcases hk with rfl | rfl <;> omega⟩)
        (fun j y hji hy hh => Res.keep (fun _ _ h => h) (fun _ h => h) (fun k hk => hold k (hM.Ilt k hk)) (fun k hk => hold k (hM1.lt j k (List.getElem?_eq_some_iff.1 hy).1 hk)) y hh)
        ⟨b, ents, clock, some w.heap.size, rho_snoc hb, g2.keep (fun _ h => h) (fun k hk => hold k (hM.Ilt k hk)) (hold b hbl), fun k => by simp [eq_comm], w.heap.size, rfl, hnew, by omega,
          clock, #[], clock, by rw [← hw']; exact heap_alloc_new w _, g2.clock, fun _ => rfl, ?_, fun k hk => by cases hk⟩
      · rw [List.map_id] at hM'
        have hsame : ∀ k, I k → w'.heap[k]? = w.heap[k]? := fun k hk => hold k (hM.Ilt k hk)
        refine ⟨.value (.pointer (some ⟨w.heap.size, 0, none⟩)), _, w', .ptr S.res.length 0, { S with res := (S.res ++ [Res.mit i]).set i (.mapr kk ag vt es (some (S.res.length, none, es.map fun x => x.1))) }, ?_, .inl rfl, ⟨_, I, _, hM', hf.keep (fun _ _ h => rho_snoc h) (fun _ h => h) hsame, StkOk.keep (fun _ _ h => rho_snoc h) (fun _ h => h) hsame _ hs, ?_⟩, hk⟩
        · simp only [execOp, ho, hxe, Instr.range, Sem.run_bind, run_underlying hT, Result.andThen_ok, getObj_map g2.heap, Sem.run_pure, newObj]
          rw [← hw']; rfl
        · unfold SV.denL SV.den
          exact ⟨_, [], rfl, ⟨w.heap.size, hnew, rfl⟩, by simp [SV.denL]⟩
      · have hl := g2.rd.len
        have : ∀ (ents : List MapEntry) (es : List (Int × vt.den)), ents.length = es.length → es.map (fun x => x.1) = (ents.zip es).map (fun p => p.2.1) := by
          intro ents
          induction ents with
          | nil => intro es h; cases es with
            | nil => rfl
            | cons _ _ => simp at h
          | cons e ents ih => intro es h; cases es with
            | nil => simp at h
            | cons x es => simp at h; simp [ih es h]
        rw [this ents es hl, List.filter_eq_self.2 (fun _ _ => by simp)]
    · exact hk.elim
  · exact hk.elim

theorem filter_ne {α : Type _} (f : α → Nat) : (l : List α) → (l.map f).Nodup → (n : Nat) → (p : α) → l[n]? = some p → l.filter (fun q => !(f q == f p)) = l.eraseIdx n
  | [], _, n, p, h => by simp at h
  | x :: l, hn, 0, p, h => by
    simp at h
    subst h
    simp only [List.map_cons, List.nodup_cons] at hn
    rw [List.filter_cons_of_neg (by simp), List.eraseIdx_zero, List.tail_cons, List.filter_eq_self]
    intro q hq
    simp only [Bool.not_eq_true', beq_eq_false_iff_ne]
    intro e
    exact hn.1 (e ▸ List.mem_map.2 ⟨q, hq, rfl⟩)
  | x :: l, hn, n + 1, p, h => by
    simp only [List.getElem?_cons_succ] at h
    simp only [List.map_cons, List.nodup_cons] at hn
    have hp : f p ∈ l.map f := List.mem_map.2 ⟨p, List.mem_of_getElem? h, rfl⟩
    have : (!(f x == f p)) = true := by
      simp only [Bool.not_eq_true', beq_eq_false_iff_ne]
      intro e; exact hn.1 (e ▸ hp)
    rw [List.filter_cons, if_pos this, List.eraseIdx_cons_succ, filter_ne f l hn.2 n p h]

theorem zip_filter {α : Type _} (f : MapEntry → Bool) : (ents : List MapEntry) → (es : List (Int × α)) → ents.length = es.length → ((ents.zip es).filter fun p => f p.1).map (·.1) = ents.filter f
  | [], _, _ => by simp
  | e :: ents, [], h => by simp at h
  | e :: ents, x :: es, h => by
    simp at h
    simp only [List.zip_cons_cons, List.filter_cons]
    split <;> simp [zip_filter f ents es h]

theorem map_erase {α β : Type _} (f : α → β) : (l : List α) → (n : Nat) → (l.map f).eraseIdx n = (l.eraseIdx n).map f
  | [], _ => by simp
  | x :: l, 0 => by simp
  | x :: l, n + 1 => by simp [map_erase f l n]

theorem snext_sound (h : Ok cx S a w sv [] []) {o : Oper} {x : Operand} (ho : o.op = .next x false) {k : SV → St → Prop} (hk : snext S (S.fr.ev x) k) : EffOk P cx sv a w o k := by
  obtain ⟨ρ, I, F, hM, hf, hs, _⟩ := h
  unfold snext at hk
  split at hk
  · rename_i j off hx
    split at hk
    · rename_i i hr1
      split at hk
      · rename_i kk ag vt es j' cur left hr2
        split at hk
        · rename_i hj hoff
          obtain rfl := Nat.eq_of_beq_eq_true hj
          obtain rfl := Nat.eq_of_beq_eq_true hoff
          have hxd := Fr.ev_den hf x
          rw [hx] at hxd
          unfold SV.den at hxd
          obtain ⟨r', hr', hxe⟩ := hxd
          have hil := (List.getElem?_eq_some_iff.1 hr2).1
          obtain ⟨b, ents, clock, ro, g1, g2, g3, g4⟩ := hM.holds _ _ hr2
          obtain ⟨r, rfl, k1, k2, since, seen, stepped, i1, i2, i3, i4, i5⟩ := g4
          have hrr : r = r' := by rw [k1] at hr'; simpa using hr'
          subst hrr
          have h3 : (getObj r).run P w = .ok (.mapIter (some b) since seen stepped) w := by simp [getObj, Sem.run, i1]
          have hguard : (!seen.isEmpty && !ents.toArray.isEmpty && ents.toArray.all (·.born ≥ stepped)) = false := by
            cases hse : seen.isEmpty with
            | true => rfl
            | false =>
              have hst : stepped = clock := i3 (by simpa using hse)
              cases hel : ents with
              | nil => simp
              | cons e0 l =>
                have := g2.clock e0 (by rw [hel]; simp)
                simp [hst]
                omega
          obtain ⟨lf, hlf⟩ : ∃ lf, lf = ents.filter fun e => !seen.contains e.born := ⟨_, rfl⟩
          have hold : (ents.toArray.filter fun e => !seen.contains e.born) = lf.toArray := by rw [hlf]; simp
          have hlfin : ∀ e ∈ lf, e ∈ ents := fun e he => by rw [hlf] at he; exact (List.mem_filter.1 he).1
          have ho1 : (lf.toArray.filter (·.born < since)) = lf.toArray := by
            apply Array.ext'
            simp only [Array.toList_filter', List.toList_toArray]
            rw [List.filter_eq_self]
            intro e he
            simpa using i2 e (hlfin e he)
          have ho2 : (lf.toArray.filter (·.born ≥ since)) = #[] := by
            apply Array.ext'
            simp only [Array.toList_filter', List.toList_toArray]
            rw [List.filter_eq_nil_iff]
            intro e he
            have := i2 e (hlfin e he)
            simp; omega
          have hzl := zip_filter (fun e => !seen.contains e.born) ents es g2.rd.len
          rw [← hlf] at hzl
          obtain ⟨zf, hzf⟩ : ∃ zf, zf = (ents.zip es).filter fun p => !seen.contains p.1.born := ⟨_, rfl⟩
          rw [← hzf] at i4 hzl
          have hone : ∀ (q : Question), ∃ n d, (q.forced = true → n = 0) ∧ (q.forced = false → n = q.cut (w.tape w.drawn q)) ∧ (choose q).run P w = .ok n { w with drawn := d } := by
            intro q
            cases hq : q.forced with
            | true => exact ⟨0, w.drawn, fun _ => rfl, (fun h => by cases h), by simp [choose, Sem.run, hq]⟩
            | false => exact ⟨_, w.drawn + 1, (fun h => by cases h), fun _ => rfl, by simp [choose, Sem.run, hq]⟩
          have hMd : ∀ d, Mem cx S.res ρ I F { w with drawn := d } := fun d =>
            ⟨hM.len, hM.ones, fun i r h => Res.keep (w := w) (w' := { w with drawn := d }) (fun _ _ h => h) (fun _ h => h) (fun _ _ => rfl) (fun _ _ => rfl) r (hM.holds i r h), hM.apart, hM.lt, hM.notI, hM.new, hM.I0, hM.Ilt, hM.Inew, hM.size, hM.os, hM.tape, hM.output, hM.frame⟩
          have hfd : ∀ d, FrOk ρ I { w with drawn := d } S.fr a := fun d => hf.keep (w := w) (w' := { w with drawn := d }) (fun _ _ h => h) (fun _ h => h) (fun _ _ => rfl)
          have hsd : ∀ d, StkOk ρ I { w with drawn := d } S.stk sv := fun d => StkOk.keep (w := w) (w' := { w with drawn := d }) (fun _ _ h => h) (fun _ h => h) (fun _ _ => rfl) _ hs
          cases hlc : lf with
          | nil =>
            have hleft : left = [] := by
              rw [i4]
              have : zf.map (·.1) = [] := by rw [hzl, hlc]
              rw [List.map_eq_nil_iff] at this
              rw [this]; rfl
            obtain ⟨n, d, hn0, _, hch⟩ := hone (.mapNext 1)
            have hn : n = 0 := hn0 rfl
            subst hn
            have hM' := Mem.change (w' := { w with drawn := d }) (ρ' := ρ) hM hil (.mapr kk ag vt es none) (fun k => k = b) id rfl hM.ones
              (fun _ _ _ => rfl) (Nat.le_refl _) rfl rfl rfl (fun k hk => ⟨.inl ((g3 k).2 (.inl hk)), hM.lt i k hil ((g3 k).2 (.inl hk))⟩)
              (fun j y hji hy hh => Res.keep (w := w) (w' := { w with drawn := d }) (fun _ _ h => h) (fun _ h => h) (fun _ _ => rfl) (fun _ _ => rfl) y hh)
              ⟨b, ents, clock, none, g1, MapOk.keep (w := w) (w' := { w with drawn := d }) (fun _ h => h) (fun _ _ => rfl) g2 rfl, fun k => by simp, rfl⟩
            rw [List.map_id] at hM'
            refine ⟨.value (.tuple #[.bool false]), _, { w with drawn := d }, _, { S with res := S.res.set i (.mapr kk ag vt es none) }, ?_, .inl rfl, ⟨ρ, I, _, hM', hfd d, hsd d, ?_⟩, hk.1 hleft⟩
            · rw [hlc] at hold ho1 ho2
              have hC : ((if (#[] : Array MapEntry).isEmpty = true then #[none] else #[]) ++ Array.map some ((#[] : Array MapEntry) ++ #[])) = #[none] := by simp
              simp only [execOp, ho, hxe, Instr.next, Sem.run_bind, h3, Result.andThen_ok, getObj_map g2.heap, hguard, Bool.false_eq_true, if_false, hold, ho1, ho2, Sem.run_pure]
              rw [hC]
              simp only [List.size_toArray, List.length_cons, List.length_nil, Nat.zero_add, hch, Result.andThen_ok, List.getElem?_toArray, List.getElem?_cons_zero, Sem.run_pure]
            · unfold SV.denL SV.den
              refine ⟨_, [], rfl, ⟨[.bool false], rfl, ?_⟩, by simp [SV.denL]⟩
              unfold SV.denL SV.den
              exact ⟨_, _, rfl, rfl, by simp [SV.denL]⟩
          | cons e0 l0 =>
            have hlen : lf.length ≠ 0 := by rw [hlc]; simp
            obtain ⟨n, d, hn0, hn1, hch⟩ := hone (.mapNext lf.length)
            have hn : n < lf.length := by
              cases hq : (Question.mapNext lf.length).forced with
              | true => rw [hn0 hq]; omega
              | false => rw [hn1 hq]; exact Nat.mod_lt _ (by omega)
            have hne : lf[n]? = some lf[n] := List.getElem?_eq_getElem hn
            generalize lf[n] = e at hne
            have hzn : ∃ x, zf[n]? = some (e, x) := by
              have : (zf.map (·.1))[n]? = some e := by rw [hzl]; exact hne
              rw [List.getElem?_map, Option.map_eq_some_iff] at this
              obtain ⟨p, h1, h2⟩ := this
              exact ⟨p.2, by rw [h1, ← h2]⟩
            obtain ⟨x', hx'⟩ := hzn
            have hkey : left[n]? = some x'.1 := by rw [i4, List.getElem?_map, hx']; rfl
            have hin : (e, x') ∈ ents.zip es := by
              have := List.mem_of_getElem? hx'
              rw [hzf] at this
              exact (List.mem_filter.1 this).1
            obtain ⟨m, hm⟩ := List.getElem?_of_mem hin
            have hm1 : ents[m]? = some e := by
              rw [List.getElem?_zip_eq_some] at hm; exact hm.1
            have hm2 : es[m]? = some x' := by
              rw [List.getElem?_zip_eq_some] at hm; exact hm.2
            obtain ⟨q1, q2⟩ := g2.rd.get m e x' hm1 hm2
            have hrl : r < w.heap.size := (Array.getElem?_eq_some_iff.1 i1).1
            obtain ⟨w', hw'⟩ : ∃ w', ({ w with drawn := d, heap := w.heap.setIfInBounds r (.mapIter (some b) since (seen.push e.born) clock) } : World) = w' := ⟨_, rfl⟩
            have hother : ∀ k, k ≠ r → w'.heap[k]? = w.heap[k]? := fun k hk => by rw [← hw']; simp only; rw [Array.getElem?_setIfInBounds_ne (fun e => hk e.symm)]
            have hsame : ∀ k, I k → w'.heap[k]? = w.heap[k]? := fun k hk => hother k (fun e => hM.notI i k hil ((g3 k).2 (.inr (by rw [e]))) hk)
            have hnew : w'.heap[r]? = some (.mapIter (some b) since (seen.push e.born) clock) := by rw [← hw']; simp [hrl]
            have hM' := Mem.change (w' := w') (ρ' := ρ) hM hil (.mapr kk ag vt es (some (j', some x'.1, left.eraseIdx n))) (F i) id rfl hM.ones
              (fun k _ hnf => hother k (fun e => hnf ((g3 k).2 (.inr (by rw [e]))))) (by rw [← hw']; simp) (by rw [← hw']) (by rw [← hw']) (by rw [← hw'])
              (fun k hk => ⟨.inl hk, by rw [← hw']; simp; exact hM.lt i k hil hk⟩)
              (fun j y hji hy hh => Res.keep (fun _ _ h => h) (fun _ h => h) hsame (fun k hk => hother k (fun e => hM.apart j i k (List.getElem?_eq_some_iff.1 hy).1 hil hji hk ((g3 k).2 (.inr (by rw [e]))))) y hh)
              ⟨b, ents, clock, some r, g1, g2.keep (fun _ h => h) hsame (hother b (fun e => k2 e.symm)), g3, r, rfl, k1, k2,
                since, seen.push e.born, clock, hnew, i2, fun _ => rfl, ?_, fun k hk => ⟨m, e, x', hm1, hm2, by simpa using hk, by simp⟩⟩
            · rw [List.map_id] at hM'
              refine ⟨.value (.tuple #[.bool true, e.key, e.val]), .tuple #[.bool true, e.key, e.val], w', .tup [.lit true, .int kk x'.1, .any], { S with res := S.res.set i (.mapr kk ag vt es (some (j', some x'.1, left.eraseIdx n))) }, ?_, .inl rfl, ⟨ρ, I, _, hM', hf.keep (fun _ _ h => h) (fun _ h => h) hsame, StkOk.keep (fun _ _ h => h) (fun _ h => h) hsame _ hs, ?_⟩, hk.2 n x'.1 hkey⟩
              · have hC : ((if lf.toArray.isEmpty = true then #[none] else #[]) ++ Array.map some (lf.toArray ++ #[])) = (lf.map some).toArray := by
                  have : lf.toArray.isEmpty = false := by rw [hlc]; simp
                  rw [this]; simp
                have hcn : ((lf.map some).toArray)[n]? = some (some e) := by simp [hne]
                simp only [execOp, ho, hxe, Instr.next, Sem.run_bind, h3, Result.andThen_ok, getObj_map g2.heap, hguard, Bool.false_eq_true, if_false, hold, ho1, ho2, Sem.run_pure]
                rw [hC]
                simp only [List.size_toArray, List.length_map, hch, Result.andThen_ok, hcn, Sem.run_bind]
                have hso : (setObj r (.mapIter (some b) since (seen.push e.born) clock)).run P { w with drawn := d } = .ok () w' := by
                  rw [← hw']; simp [setObj, Sem.run, i1]
                simp only [hso, Result.andThen_ok, Sem.run_pure]
              · unfold SV.denL SV.den
                refine ⟨_, [], rfl, ⟨[.bool true, e.key, e.val], rfl, ?_⟩, by simp [SV.denL]⟩
                unfold SV.denL
                refine ⟨_, _, rfl, by unfold SV.den; rfl, ?_⟩
                unfold SV.denL
                refine ⟨_, _, rfl, by unfold SV.den; exact q1, ?_⟩
                unfold SV.denL
                exact ⟨_, _, rfl, by simp [SV.den], by simp [SV.denL]⟩
            · have hnd : (zf.map fun p => p.1.born).Nodup := by
                have h1 : (zf.map fun p => p.1.born) = lf.map (·.born) := by rw [← hzl, List.map_map]; rfl
                rw [h1, hlf]
                exact ((List.filter_sublist).map _).nodup g2.born
              have h1 := filter_ne (fun p : MapEntry × (Int × vt.den) => p.1.born) zf hnd n (e, x') hx'
              have h2 : ((ents.zip es).filter fun p => !(seen.push e.born).contains p.1.born) = zf.eraseIdx n := by
                rw [← h1, hzf, List.filter_filter]
                apply List.filter_congr
                intro p _
                simp [Array.contains_push, Bool.and_comm]
                rfl
              rw [h2, i4, map_erase]
        · exact hk.elim
      · exact hk.elim
    · exact hk.elim
  · exact hk.elim
end
end Go.Proofs.Ytfdcmbaoekjkgaa.Gx
namespace Go.Proofs.Ytfdcmbaoekjkgaa.Gx
open Go.RowKit
set_option linter.unusedSimpArgs false
set_option linter.unusedVariables false

def sstoreE (P : Program) (S : St) (t : TypeId) (p x : SV) (k : SV → St → Prop) : Prop :=
  match p, x.cells, P.info? t with
  | .elt i j sz off, some vs, some inf => match S.res[i]? with
    | some (.row e ty xs) => match Nat.beq off 0, Nat.beq sz ty.sz, Nat.beq vs.length inf.size, Nat.beq ty.sz inf.size with
      | true, true, true, true => match implode ty vs with
        | some (y, []) => j < xs.length ∧ k .undef { S with res := S.res.set i (.row e ty (xs.set j y)) }
        | _ => False
      | _, _, _, _ => False
    | _ => False
  | _, _, _ => False

section
variable {P : Program} {cx : Cx} {S : St} {ρ : List Value} {I : Nat → Prop} {F : Nat → Nat → Prop} {w : World} {a : Act} {sv : List Act}

theorem RdL.set (t : Ty) : (xs : List t.den) → (j : Nat) → {cs c : List Value} → {y : t.den} → RdL I w t xs cs → j < xs.length → Rd I w t y c → RdL I w t (xs.set j y) (cs.take (j * t.sz) ++ c ++ cs.drop (j * t.sz + t.sz))
  | [], j, cs, c, y, h, hj, hy => by simp at hj
  | x :: xs, 0, cs, c, y, h, hj, hy => by
    obtain ⟨c1, c2, rfl, h1, h2⟩ := h
    have hl := Rd.length t h1
    refine ⟨c, c2, ?_, hy, h2⟩
    simp [← hl]
  | x :: xs, j + 1, cs, c, y, h, hj, hy => by
    obtain ⟨c1, c2, rfl, h1, h2⟩ := h
    have hl := Rd.length t h1
    have ih := RdL.set t xs j (c := c) (y := y) h2 (by simpa using hj) hy
    refine ⟨c1, _, ?_, h1, ih⟩
    have e1 : (j + 1) * t.sz = c1.length + j * t.sz := by rw [Nat.succ_mul, hl]; omega
    rw [e1, List.take_length_add_append, Nat.add_assoc, List.drop_length_add_append]
    simp [List.append_assoc]

theorem sstoreE_sound (h : Ok cx S a w sv [] []) {o : Oper} {t : TypeId} {p x : Operand} (ho : o.op = .store t p x) {k : SV → St → Prop} (hk : sstoreE P S t (S.fr.ev p) (S.fr.ev x) k) : EffOk P cx sv a w o k := by
  obtain ⟨ρ, I, F, hM, hf, hs, _⟩ := h
  unfold sstoreE at hk
  split at hk
  · rename_i i j sz off vs inf hp hc hi
    split at hk
    · rename_i e ty xs hr
      split at hk
      · rename_i b0 b1 b2 b3
        have hoff : off = 0 := Nat.eq_of_beq_eq_true b0
        have hszt : sz = ty.sz := Nat.eq_of_beq_eq_true b1
        have hsz : vs.length = inf.size := Nat.eq_of_beq_eq_true b2
        have hti : ty.sz = inf.size := Nat.eq_of_beq_eq_true b3
        subst hoff hszt
        split at hk
        · rename_i y him
          obtain ⟨hj, hk⟩ := hk
          have hil := (List.getElem?_eq_some_iff.1 hr).1
          obtain ⟨us, hu1, hu2⟩ := SV.cells_den hM.ones hc (Fr.ev_den hf x)
          obtain ⟨c1, c2, hus, hRd, hnil⟩ := implode_den ty hu2 him
          unfold SV.denL at hnil
          subst hnil
          rw [List.append_nil] at hus
          subst hus
          have hpd := Fr.ev_den hf p
          rw [hp] at hpd
          unfold SV.den at hpd
          obtain ⟨g, n, c, hb, hpe⟩ := hpd
          obtain ⟨v, cells, h1, h2, h3, h4⟩ := hM.holds _ _ hr
          rw [hb] at h1
          obtain rfl : Value.slice (some ⟨g, 0, none⟩) n c = v := by simpa using h1
          obtain ⟨hlen, hrow⟩ := h2
          rcases hrow with ⟨hv, _⟩ | ⟨g', cap, cur, hv, _, hg, hnc, hcm, hcs, htake⟩
          · cases hv
          · simp only [Value.slice.injEq, Option.some.injEq, Addr.mk.injEq, and_true] at hv
            obtain ⟨rfl, rfl, rfl⟩ := hv
            have hlu := Rd.length ty hRd
            have hjs : j * ty.sz + ty.sz ≤ xs.length * ty.sz := by
              have : (j + 1) * ty.sz ≤ xs.length * ty.sz := Nat.mul_le_mul_right _ hj
              rwa [Nat.succ_mul] at this
            have hxc : xs.length * ty.sz ≤ c * ty.sz := Nat.mul_le_mul_right _ hnc
            have hst := run_storeCells_at (P := P) g (j * ty.sz) e us 0 cur w hg (by omega) (Rd.one ty hRd)
            simp only [Nat.add_zero] at hst
            obtain ⟨w', hw'⟩ : ∃ w', w.setRow g (cur.toList.take (j * ty.sz) ++ us ++ cur.toList.drop (j * ty.sz + us.length)).toArray = w' := ⟨_, rfl⟩
            rw [hw'] at hst
            have h4' : ∀ k, F i k ↔ g = k := fun k => by rw [h4 k]; simp [Value.ownBlock]
            have hother : ∀ k, k ≠ g → w'.heap[k]? = w.heap[k]? := fun k hk => by rw [← hw']; exact setRow_other w g k _ hk
            have hsame : ∀ k, I k → w'.heap[k]? = w.heap[k]? := fun k hk => hother k (fun e => hM.notI i k hil ((h4' k).2 e.symm) hk)
            have hcut : cells.length = xs.length * ty.sz := hlen
            have hM' := Mem.change (w' := w') (ρ' := ρ) hM hil (.row e ty (xs.set j y)) (F i) id rfl hM.ones
              (fun k _ hnf => hother k (fun e => hnf ((h4' k).2 e.symm))) (by rw [← hw']; simp) (by rw [← hw']; rfl) (by rw [← hw']; rfl) (by rw [← hw']; rfl)
              (fun k hk => ⟨.inl hk, by rw [← hw']; simp; exact hM.lt i k hil hk⟩)
              (fun j' y' hji hy hh => Res.keep (fun _ _ h => h) (fun _ h => h) hsame (fun k hk => hother k (fun e => hM.apart j' i k (List.getElem?_eq_some_iff.1 hy).1 hil hji hk ((h4' k).2 e.symm))) y' hh)
              ⟨_, cells.take (j * ty.sz) ++ us ++ cells.drop (j * ty.sz + ty.sz), hb, ⟨by rw [List.length_append, List.length_append, List.length_take, List.length_drop, List.length_set, hcut, hlu, Nat.min_eq_left (by omega)]; omega, .inr ⟨g, c, (cur.toList.take (j * ty.sz) ++ us ++ cur.toList.drop (j * ty.sz + us.length)).toArray, by simp, Nat.zero_le _, by rw [← hw']; exact setRow_heap w g _ _ e _ hg, by simpa using hnc, hcm, by simp [hlu]; omega, by
                  simp only [List.length_set]
                  rw [hlu, ← htake]
                  have hcl : cur.toList.length = c * ty.sz := by simp [hcs]
                  generalize cur.toList = L at *
                  have e1 : (List.take (xs.length * ty.sz) L).take (j * ty.sz) = L.take (j * ty.sz) := by rw [List.take_take, Nat.min_eq_left (by omega)]
                  rw [e1, List.append_assoc, List.append_assoc]
                  have e2 : xs.length * ty.sz = (L.take (j * ty.sz)).length + (us.length + (xs.length * ty.sz - (j * ty.sz + ty.sz))) := by
                    rw [List.length_take, Nat.min_eq_left (by omega), hlu]; omega
                  conv => lhs; rw [e2]
                  rw [List.take_length_add_append, List.take_length_add_append, List.drop_take]⟩⟩,
                RdL.set ty xs j (RdL.keep (fun _ h => h) hsame ty xs h3) hj (Rd.keep (fun _ h => h) hsame ty hRd), by simpa using h4⟩
            rw [List.map_id] at hM'
            refine ⟨.skip, Go.undef, w', .undef, { S with res := S.res.set i (.row e ty (xs.set j y)) }, ?_, .inr ⟨rfl, rfl⟩, ⟨ρ, I, _, hM', hf.keep (fun _ _ h => h) (fun _ h => h) hsame, StkOk.keep (fun _ _ h => h) (fun _ h => h) hsame _ hs, by simp [SV.denL, SV.den]⟩, hk⟩
            have hsz' : (a.eval x).cells.size = inf.size := by rw [hu1]; simp; omega
            have hlist : (a.eval x).cells.toList = us := by rw [hu1]
            simp [execOp, ho, hpe, Instr.storeAt, Instr.sureAddr, storeVar, run_sizeOf' hi, hsz', hlist, hst]
        · exact hk.elim
      · exact hk.elim
    · exact hk.elim
  · exact hk.elim
end
end Go.Proofs.Ytfdcmbaoekjkgaa.Gx
namespace Go.Proofs.Ytfdcmbaoekjkgaa.Gx
open Go.RowKit
set_option linter.unusedSimpArgs false
set_option linter.unusedVariables false

def sclear (P : Program) (S : St) (t : TypeId) (x : SV) (k : SV → St → Prop) : Prop :=
  match x with
  | .win i lo hi sz => match S.res[i]?, P.underlying t with
    | some (.row e ty xs), some (.slice e') => match zcells P e', Nat.beq sz ty.sz with
      | some zs, true => match implode ty zs with
        | some (y, []) => k (.tup []) { S with res := S.res.set i (.row e ty (xs.take lo ++ List.replicate (hi - lo) y ++ xs.drop hi)) }
        | _ => False
      | _, _ => False
    | _, _ => False
  | _ => False

section
variable {P : Program} {cx : Cx} {S : St} {ρ : List Value} {I : Nat → Prop} {F : Nat → Nat → Prop} {w : World} {a : Act} {sv : List Act}

theorem zeroList (z : Array Value) : (m : Nat) → (Builtin.zeroCells z m).toList = (List.replicate m z.toList).flatten
  | 0 => by simp [Builtin.zeroCells]
  | m + 1 => by
    have ih := zeroList z m
    simp only [Builtin.zeroCells, Array.toList_map, Array.toList_range] at ih ⊢
    rw [List.replicate_succ, List.flatten_cons, ← ih, Nat.succ_mul, Nat.add_comm, List.range_add, List.map_append, List.map_map]
    congr 1
    · apply List.ext_getElem
      · simp
      · intro i h1 h2
        simp only [List.length_map, List.length_range] at h1
        simp only [List.getElem_map, List.getElem_range, Nat.mod_eq_of_lt h1]
        rw [getElem!_pos z i h1]; simp
    · apply List.map_congr_left
      intro i _
      simp

theorem RdL.replicate (t : Ty) (y : t.den) {cs : List Value} (h : Rd I w t y cs) : (m : Nat) → RdL I w t (List.replicate m y) (List.replicate m cs).flatten
  | 0 => by simp [RdL]
  | m + 1 => by
    rw [List.replicate_succ, List.replicate_succ, List.flatten_cons]
    exact ⟨cs, _, rfl, h, RdL.replicate t y h m⟩

theorem RdL.takeE (t : Ty) : (n : Nat) → (xs : List t.den) → {cs : List Value} → RdL I w t xs cs → RdL I w t (xs.take n) (cs.take (n * t.sz))
  | 0, xs, cs, _ => by simp [RdL]
  | n + 1, [], cs, h => by simp only [RdL] at h; subst h; simp [RdL]
  | n + 1, x :: xs, cs, h => by
    obtain ⟨c1, c2, rfl, h1, h2⟩ := h
    have hl := Rd.length t h1
    refine ⟨c1, c2.take (n * t.sz), ?_, h1, RdL.takeE t n xs h2⟩
    rw [List.take_append, Nat.add_mul, Nat.one_mul, hl, List.take_of_length_le (by omega), show n * t.sz + t.sz - t.sz = n * t.sz by omega]

theorem RdL.dropE (t : Ty) : (n : Nat) → (xs : List t.den) → {cs : List Value} → RdL I w t xs cs → RdL I w t (xs.drop n) (cs.drop (n * t.sz))
  | 0, xs, cs, h => by simpa using h
  | n + 1, [], cs, h => by simp only [RdL] at h; subst h; simp [RdL]
  | n + 1, x :: xs, cs, h => by
    obtain ⟨c1, c2, rfl, h1, h2⟩ := h
    have hl := Rd.length t h1
    have : (c1 ++ c2).drop ((n + 1) * t.sz) = c2.drop (n * t.sz) := by
      rw [List.drop_append, Nat.add_mul, Nat.one_mul, hl, List.drop_of_length_le (by omega), show n * t.sz + t.sz - t.sz = n * t.sz by omega]; rfl
    rw [this]
    exact RdL.dropE t n xs h2

/-- Cells of an own row are overwritten. -/
theorem own_store {e : TypeId} {size n c g : Nat} {cells us : List Value} {off : Nat} (h : w.ownsRow 0 e size (.slice (some ⟨g, 0, none⟩) n c) n cells) (hoff : off + us.length ≤ n * size) (h1 : ∀ u ∈ us, u.oneCell' = true) :
    ∃ w', (storeCells ⟨g, off, none⟩ us 0).run P w = .ok () w' ∧ w'.ownsRow 0 e size (.slice (some ⟨g, 0, none⟩) n c) n (cells.take off ++ us ++ cells.drop (off + us.length)) ∧
      (∀ k, k ≠ g → w'.heap[k]? = w.heap[k]?) ∧ w'.heap.size = w.heap.size ∧ w'.os = w.os ∧ w'.tape = w.tape ∧ w'.output = w.output := by
  obtain ⟨hlen, hrow⟩ := h
  rcases hrow with ⟨hv, _⟩ | ⟨g', cap, cur, hv, _, hg, hnc, hcm, hcs, htake⟩
  · cases hv
  · simp only [Value.slice.injEq, Option.some.injEq, Addr.mk.injEq, and_true] at hv
    obtain ⟨rfl, _, rfl⟩ := hv
    have hxc : n * size ≤ c * size := Nat.mul_le_mul_right _ hnc
    have hst := run_storeCells_at (P := P) g off e us 0 cur w hg (by omega) h1
    simp only [Nat.add_zero] at hst
    refine ⟨_, hst, ⟨?_, .inr ⟨g, c, _, rfl, Nat.zero_le _, setRow_heap w g _ _ e _ hg, hnc, hcm, ?_, ?_⟩⟩, fun k hk => setRow_other w g k _ hk, by simp, rfl, rfl, rfl⟩
    · rw [List.length_append, List.length_append, List.length_take, List.length_drop, hlen, Nat.min_eq_left (by omega)]; omega
    · simp; omega
    · rw [← htake]
      have hcl : cur.toList.length = c * size := by simp [hcs]
      generalize cur.toList = L at *
      have e1 : (List.take (n * size) L).take off = L.take off := by rw [List.take_take, Nat.min_eq_left (by omega)]
      rw [e1, List.append_assoc, List.append_assoc]
      have e2 : n * size = (L.take off).length + (us.length + (n * size - (off + us.length))) := by
        rw [List.length_take, Nat.min_eq_left (by omega)]; omega
      conv => lhs; rw [e2]
      rw [List.take_length_add_append, List.take_length_add_append, List.drop_take]

theorem sclear_sound (h : Ok cx S a w sv [] []) {o : Oper} {c : Call} {t : TypeId} {x : Operand} (ho : o.op = .call c) (hc : c.callee = .builtin .clear) (hargs : c.args.toList = [x]) (htys : c.argTypes.toList = [t])
    {k : SV → St → Prop} (hk : sclear P S t (S.fr.ev x) k) : EffOk P cx sv a w o k := by
  have hae : c.args = #[x] := by apply Array.ext'; simpa using hargs
  have hte : c.argTypes = #[t] := by apply Array.ext'; simpa using htys
  have hrun : ∀ {v' : Value} {w' : World}, (Builtin.clear_ #[t] o.type #[a.eval x]).run P w = .ok v' w' → (execOp a.eval o).run P w = .ok (.value v') w' := by
    intro v' w' hr
    simp only [execOp, ho, resolve, hc, invoke, builtin, Sem.run_bind, Sem.run_pure, Result.andThen_ok, hae, hte, List.map_toArray, List.map_cons, List.map_nil, hr]
  obtain ⟨ρ, I, F, hM, hf, hs, _⟩ := h
  unfold sclear at hk
  split at hk
  · rename_i i lo hi sz hx
    split at hk
    · rename_i e ty xs e' hr hu
      split at hk
      · rename_i zs hz b
        obtain rfl : sz = ty.sz := Nat.eq_of_beq_eq_true b
        split at hk
        · rename_i y him
          have hil := (List.getElem?_eq_some_iff.1 hr).1
          obtain ⟨z, hzr, rfl⟩ := zcells_run hz
          obtain ⟨c1, c2, hzc, hRd, hnil⟩ := implode_den ty (cSVs_den ρ I w z.cells.toList) him
          unfold SV.denL at hnil
          subst hnil
          rw [List.append_nil] at hzc
          subst hzc
          have hpd := Fr.ev_den hf x
          rw [hx] at hpd
          unfold SV.den at hpd
          obtain ⟨A, n, cc, hb, hnc, hcm, hlh, hhn, hv⟩ := hpd
          obtain ⟨v, cells, h1, h2, h3, h4⟩ := hM.holds _ _ hr
          rw [hb] at h1
          obtain rfl : Value.slice A n cc = v := by simpa using h1
          have hn : n = xs.length := by rcases h2.2 with ⟨e1, e2⟩ | ⟨g, cap, cur, hv, _⟩; (simp only [Value.slice.injEq] at e1; omega); (simp only [Value.slice.injEq] at hv; omega)
          subst hn
          rcases Nat.eq_zero_or_pos (hi - lo) with h0 | h0
          · have e : lo = hi := by omega
            subst e
            have hxs : xs.take lo ++ List.replicate (lo - lo) y ++ xs.drop lo = xs := by simp
            rw [hxs] at hk
            have hset : S.res.set i (.row e ty xs) = S.res := by
              apply List.ext_getElem?
              intro j
              by_cases ej : j = i
              · subst ej; rw [List.getElem?_set_self hil, hr]
              · rw [List.getElem?_set_ne (by omega)]
            rw [hset] at hk
            refine ⟨.value (.tuple #[]), .tuple #[], w, .tup [], S, hrun ?_, .inl rfl, ⟨ρ, I, F, hM, hf, hs, ?_⟩, hk⟩
            · rw [hv, h0]
              cases (if cc = lo then A else A.map (·.add (lo * ty.sz))) <;> simp [Builtin.clear_, run_underlying hu]
            · unfold SV.denL SV.den; exact ⟨_, [], rfl, ⟨[], rfl, by simp [SV.denL]⟩, by simp [SV.denL]⟩
          · obtain ⟨g, rfl⟩ : ∃ g, A = some ⟨g, 0, none⟩ := by
              rcases h2.2 with ⟨e1, e2⟩ | ⟨g, cap, cur, hv', _⟩
              · omega
              · simp only [Value.slice.injEq] at hv'; exact ⟨g, hv'.1⟩
            have hne : cc ≠ lo := by omega
            rw [if_neg hne] at hv
            simp only [Option.map_some, plain_add] at hv
            have hmul : (hi - lo) * ty.sz + lo * ty.sz = hi * ty.sz := by rw [← Nat.add_mul]; congr 1; omega
            have hle : hi * ty.sz ≤ xs.length * ty.sz := Nat.mul_le_mul_right _ hhn
            have hzl := Rd.length ty hRd
            have hul : ((List.replicate (hi - lo) z.cells.toList).flatten).length = (hi - lo) * ty.sz := by
              rw [List.length_flatten, List.map_replicate, List.sum_replicate_nat, hzl]
            obtain ⟨w', hst, hown, hother, hsz, hos, htape, hout⟩ := own_store (P := P) (us := (List.replicate (hi - lo) z.cells.toList).flatten) (off := lo * ty.sz) h2 (by rw [hul]; omega)
              (by intro u hu; obtain ⟨l, hl, hul⟩ := List.mem_flatten.1 hu; rw [List.eq_of_mem_replicate hl] at hul; exact Rd.one ty hRd u hul)
            have h4' : ∀ k, F i k ↔ g = k := fun k => by rw [h4 k]; simp [Value.ownBlock]
            have hsame : ∀ k, I k → w'.heap[k]? = w.heap[k]? := fun k hk => hother k (fun e => hM.notI i k hil ((h4' k).2 e.symm) hk)
            have hlen2 : (xs.take lo ++ List.replicate (hi - lo) y ++ xs.drop hi).length = xs.length := by
              simp only [List.length_append, List.length_take, List.length_replicate, List.length_drop]; omega
            have hM' := Mem.change (w' := w') (ρ' := ρ) hM hil (.row e ty (xs.take lo ++ List.replicate (hi - lo) y ++ xs.drop hi)) (F i) id rfl hM.ones
              (fun k _ hnf => hother k (fun e => hnf ((h4' k).2 e.symm))) (by omega) hos htape hout
              (fun k hk => ⟨.inl hk, by rw [hsz]; exact hM.lt i k hil hk⟩)
              (fun j' y' hji hy hh => Res.keep (fun _ _ h => h) (fun _ h => h) hsame (fun k hk => hother k (fun e => hM.apart j' i k (List.getElem?_eq_some_iff.1 hy).1 hil hji hk ((h4' k).2 e.symm))) y' hh)
              ⟨_, _, hb, by rw [hlen2]; exact hown, by
                rw [hul, Nat.add_comm (lo * ty.sz), hmul]
                exact RdL.append ty _ _ (RdL.append ty _ _ (RdL.keep (fun _ h => h) hsame ty _ (RdL.takeE ty lo xs h3)) (RdL.keep (fun _ h => h) hsame ty _ (RdL.replicate ty y hRd _))) (RdL.keep (fun _ h => h) hsame ty _ (RdL.dropE ty hi xs h3)),
                by simpa using h4⟩
            rw [List.map_id] at hM'
            refine ⟨.value (.tuple #[]), .tuple #[], w', .tup [], { S with res := S.res.set i (.row e ty (xs.take lo ++ List.replicate (hi - lo) y ++ xs.drop hi)) }, hrun ?_, .inl rfl, ⟨ρ, I, _, hM', hf.keep (fun _ _ h => h) (fun _ h => h) hsame, StkOk.keep (fun _ _ h => h) (fun _ h => h) hsame _ hs, ?_⟩, hk⟩
            · rw [hv]
              obtain ⟨m, hm⟩ : ∃ m, hi - lo = m + 1 := ⟨hi - lo - 1, by omega⟩
              rw [hm] at hst ⊢
              rw [← zeroList] at hst
              simp [Builtin.clear_, run_underlying hu, hzr, hst]
            · unfold SV.denL SV.den; exact ⟨_, [], rfl, ⟨[], rfl, by simp [SV.denL]⟩, by simp [SV.denL]⟩
        · exact hk.elim
      · exact hk.elim
    · exact hk.elim
  · exact hk.elim

def St.cutR (S : St) (i : Nat) (r : Res) : St := { S.sub i .any with res := (S.res.map (Res.sub i .any)).set i r }

/-- A result that is the head of an own row: the row is cut there. -/
def cutW (r : SV) (S : St) (K : SV → St → Prop) : Prop :=
  match r with
  | .win i lo hi sz => match S.res[i]?, lo with
    | some (.row e t xs), 0 => K (.row i) (S.cutR i (.row e t (xs.take hi)))
    | _, _ => False
  | r => K r S

theorem cutW_ok {r : SV} {v : Value} {K : SV → St → Prop} (h : Ok cx S a w sv [r] [v]) (hk : cutW r S K) : ∃ r' S', Ok cx S' a w sv [r'] [v] ∧ K r' S' := by
  unfold cutW at hk
  split at hk
  · rename_i i lo hi sz
    split at hk
    · rename_i e ty xs hr
      refine ⟨_, _, ?_, hk⟩
      obtain ⟨ρ, I, F, hM, hf, hs, hd⟩ := h
      have hil := (List.getElem?_eq_some_iff.1 hr).1
      unfold SV.denL at hd
      obtain ⟨v', vs, e0, hpd, _⟩ := hd
      cases e0
      unfold SV.den at hpd
      obtain ⟨A, n, cc, hb, hnc, hcm, hlh, hhn, hv⟩ := hpd
      obtain ⟨v', cells, h1, h2, h3, h4⟩ := hM.holds _ _ hr
      rw [hb] at h1
      obtain rfl : Value.slice A n cc = v' := by simpa using h1
      have hn : n = xs.length := by rcases h2.2 with ⟨e1, e2⟩ | ⟨g, cap, cur, hv, _⟩; (simp only [Value.slice.injEq] at e1; omega); (simp only [Value.slice.injEq] at hv; omega)
      subst hn
      have hv' : v = .slice A hi cc := by
        rw [hv]
        simp only [Nat.zero_mul, Nat.sub_zero]
        congr 1
        split
        · rfl
        · cases A with
          | none => rfl
          | some ad => simp [add_zero]
      subst hv'
      have hle : hi * ty.sz ≤ xs.length * ty.sz := Nat.mul_le_mul_right _ hhn
      have hown : w.ownsRow 0 e ty.sz (.slice A hi cc) hi (cells.take (hi * ty.sz)) := by
        obtain ⟨hlen, hrow⟩ := h2
        refine ⟨by rw [List.length_take, hlen, Nat.min_eq_left hle], ?_⟩
        rcases hrow with ⟨e1, e2⟩ | ⟨g, cap, cur, e1, hz, hg, hnc', hcm', hcs, htake⟩
        · simp only [Value.slice.injEq] at e1
          have : hi = 0 := by omega
          subst this
          exact .inl ⟨by rw [e1.1, e1.2.2], rfl⟩
        · simp only [Value.slice.injEq] at e1
          obtain ⟨rfl, _, rfl⟩ := e1
          refine .inr ⟨g, cc, cur, rfl, hz, hg, by omega, hcm', hcs, ?_⟩
          rw [← htake, List.take_take, Nat.min_eq_left hle]
      have hiρ : i < ρ.length := by rw [hM.len]; exact hil
      have hρ1 : ∀ (j : Nat) u, j ≠ i → ρ[j]? = some u → (ρ.set i (.slice A hi cc))[j]? = some u := fun j u hj hu => by rw [List.getElem?_set_ne (by omega)]; exact hu
      have hρ2 : ∀ (j : Nat) u, NoSl u → ρ[j]? = some u → (ρ.set i (.slice A hi cc))[j]? = some u := fun j u hn hj => by
        refine hρ1 j _ (fun e => ?_) hj
        subst e; rw [hb] at hj; cases hj; exact hn _ _ _ rfl
      have hM' := Mem.change (w' := w) (ρ' := ρ.set i (.slice A hi cc)) hM hil (.row e ty (xs.take hi)) (F i) (Res.sub i .any) (by simp)
        (fun j u hu => by
          by_cases e : j = i
          · subst e; rw [List.getElem?_set_self hiρ] at hu; cases hu; rfl
          · rw [List.getElem?_set_ne (by omega)] at hu; exact hM.ones j u hu)
        (fun _ _ _ => rfl) (Nat.le_refl _) rfl rfl rfl (fun k hk => ⟨.inl hk, hM.lt i k hil hk⟩)
        (fun j y hji hy hh => Res.keepS hji hρ1 hρ2 (fun _ h => h) (fun _ _ => rfl) (fun _ _ => by simp [SV.den]) (fun _ _ => rfl) y hh)
        ⟨_, _, List.getElem?_set_self hiρ, by rw [List.length_take, Nat.min_eq_left hhn]; exact hown, RdL.takeE ty hi xs h3, fun k => by rw [h4 k]; cases A <;> rfl⟩
      refine ⟨ρ.set i (.slice A hi cc), I, _, hM', ?_, ?_, ?_⟩
      · exact hf.sub hρ1 hρ2 (fun _ h => h) (fun _ _ => rfl) (fun _ _ => by simp [SV.den])
      · exact StkOk.sub hρ1 hρ2 (fun _ h => h) (fun _ _ => rfl) (fun _ _ => by simp [SV.den]) _ hs
      · unfold SV.denL SV.den
        exact ⟨_, [], rfl, ⟨List.getElem?_set_self hiρ, rfl⟩, by simp [SV.denL]⟩
    · exact hk.elim
  · exact ⟨_, _, h, hk⟩
/-- A slot that bears the head of an own row: the row is cut there. -/
def cutPt (S : St) (d : Nat) : St :=
  match getT S.fr.tm d with
  | .win i lo hi sz => match S.res[i]?, lo with
    | some (.row e t xs), 0 => { S.cutR i (.row e t (xs.take hi)) with fr := { (S.cutR i (.row e t (xs.take hi))).fr with tm := (d, .row i) :: (S.cutR i (.row e t (xs.take hi))).fr.tm } }
    | _, _ => S
  | _ => S

theorem cutPt_ok (h : Ok cx S a w sv [] []) (d : Nat) : Ok cx (cutPt S d) a w sv [] [] := by
  unfold cutPt
  split
  · rename_i i lo hi sz hd
    split
    · rename_i e t xs hr
      obtain ⟨ρ, I, F, hM, hf, hs, _⟩ := h
      have hv := hf.2.1 d
      rw [hd] at hv
      have h1 : Ok cx S a w sv [.win i 0 hi sz] [a.tmps.getD d Go.undef] := ⟨ρ, I, F, hM, hf, hs, by unfold SV.denL; exact ⟨_, [], rfl, hv, by simp [SV.denL]⟩⟩
      obtain ⟨r', S', h2, h3, h4⟩ := cutW_ok (K := fun r' S' => r' = .row i ∧ S' = S.cutR i (.row e t (xs.take hi))) h1 (by simp [cutW, hr])
      subst h3; subst h4
      obtain ⟨ρ', I', F', hM', hf', hs', hd'⟩ := h2
      unfold SV.denL at hd'
      obtain ⟨v, vs, ev, hd', _⟩ := hd'
      simp only [List.cons.injEq] at ev
      obtain ⟨rfl, _⟩ := ev
      refine ⟨ρ', I', F', hM', ⟨hf'.1, fun t => ?_, hf'.2.2⟩, hs', by simp [SV.denL]⟩
      simp only [getT]
      by_cases e : d = t
      · subst e; simpa using hd'
      · have e' : (d == t) = false := by simpa using e
        rw [e', cond_false]; exact hf'.2.1 t
    · exact h
  · exact h

/-- Ahead of a store: a head that is stored cuts its row. -/
def cutOp (S : St) : Operand → St
  | .tmp d => cutPt S d
  | _ => S
theorem cutOp_ok (h : Ok cx S a w sv [] []) (x : Operand) : Ok cx (cutOp S x) a w sv [] [] := by
  unfold cutOp
  split
  · exact cutPt_ok h _
  · exact h
end
end Go.Proofs.Ytfdcmbaoekjkgaa.Gx
namespace Go.Proofs.Ytfdcmbaoekjkgaa.Gx
open Go.RowKit
set_option linter.unusedSimpArgs false
set_option linter.unusedVariables false

def sdata (S : St) (ty : Ty) : SV → Option (List ty.den)
  | .rs t xs => if h : t = ty then some (h ▸ xs) else none
  | .row i => match S.res[i]? with
    | some (.row _ t xs) => if h : t = ty then some (h ▸ xs) else none
    | _ => none
  | .win i lo hi sz => match S.res[i]? with
    | some (.row _ t xs) => match Nat.beq sz t.sz with
      | true => if h : t = ty then some (h ▸ ((xs.take hi).drop lo)) else none
      | false => none
    | _ => none
  | .val (.slice none 0 0) => some []
  | _ => none

section
variable {P : Program} {cx : Cx} {S : St} {ρ : List Value} {I : Nat → Prop} {F : Nat → Nat → Prop} {w : World} {a : Act} {sv : List Act}

/-- A slice value that reads as data: its cells in a row. -/
def Src (I : Nat → Prop) (w : World) (ty : Ty) (ys : List ty.den) (v : Value) : Prop :=
  ∃ A c news, v = .slice A ys.length c ∧ ys.length ≤ c ∧ c ≤ maxLen ∧ RdL I w ty ys news ∧ (ys ≠ [] → ∃ ad : Addr, A = some ad ∧ ∀ j u, news[j]? = some u → w.cell? (ad.add j) = some u)

theorem rs_prefix {ty : Ty} {xs : List ty.den} {ad : Addr} (hel : ∀ (i : Nat) (x : ty.den), xs[i]? = some x → ∃ cells, Rd I w ty x cells ∧ ∀ j v, cells[j]? = some v → w.cell? (ad.add (i * ty.sz + j)) = some v) :
    ∀ n, n ≤ xs.length → ∃ news, RdL I w ty (xs.take n) news ∧ ∀ j u, news[j]? = some u → w.cell? (ad.add j) = some u
  | 0, _ => ⟨[], by simp [RdL], fun j u h => by simp at h⟩
  | n + 1, hn => by
    obtain ⟨news, h1, h2⟩ := rs_prefix hel n (by omega)
    have hx : xs[n]? = some xs[n] := List.getElem?_eq_getElem (by omega)
    obtain ⟨cells, g1, g2⟩ := hel n _ hx
    have hl := RdL.length ty _ h1
    rw [List.length_take, Nat.min_eq_left (by omega)] at hl
    refine ⟨news ++ cells, ?_, fun j u hj => ?_⟩
    · rw [List.take_succ_eq_append_getElem (by omega)]
      exact RdL.append ty _ _ h1 ⟨cells, [], by simp, g1, rfl⟩
    · rw [List.getElem?_append] at hj
      split at hj
      · exact h2 j u hj
      · rename_i hlt
        have := g2 (j - news.length) u hj
        rwa [← hl, show news.length + (j - news.length) = j by omega] at this

theorem src_rs {ty : Ty} {xs : List ty.den} {v : Value} (h : Rd I w (.slice ty) xs [v]) : Src I w ty xs v := by
  obtain ⟨A, c, he, hlc, hcm, hel⟩ := h
  simp only [List.cons.injEq, and_true] at he
  subst he
  cases xs with
  | nil => exact ⟨A, c, [], rfl, hlc, hcm, rfl, fun h => absurd rfl h⟩
  | cons x xs =>
    obtain ⟨ad, _, rfl, _⟩ := hel 0 x rfl
    have hel' : ∀ (i : Nat) (y : ty.den), (x :: xs)[i]? = some y → ∃ cells, Rd I w ty y cells ∧ ∀ j v, cells[j]? = some v → w.cell? (ad.add (i * ty.sz + j)) = some v := by
      intro i y hy
      obtain ⟨ad', cells, e, _, h1, h2⟩ := hel i y hy
      cases e
      exact ⟨cells, h1, h2⟩
    obtain ⟨news, h1, h2⟩ := rs_prefix hel' (x :: xs).length (Nat.le_refl _)
    rw [List.take_length] at h1
    exact ⟨_, c, news, rfl, hlc, hcm, h1, fun _ => ⟨ad, rfl, h2⟩⟩

theorem src_row {e : TypeId} {ty : Ty} {xs : List ty.den} {v : Value} {cells : List Value} (h : w.ownsRow 0 e ty.sz v xs.length cells) (hr : RdL I w ty xs cells) : Src I w ty xs v := by
  obtain ⟨A, c, rfl, hlc, hcm⟩ := ownsRow_len h
  refine ⟨A, c, cells, rfl, hlc, hcm, hr, fun hne => ?_⟩
  rcases h.2 with ⟨e1, e2⟩ | ⟨g, cap, cur, hv', _, hh, hnc, hcm', hcs, htk⟩
  · exact absurd (List.eq_nil_of_length_eq_zero e2) hne
  · simp only [Value.slice.injEq, true_and] at hv'
    obtain ⟨rfl, rfl⟩ := hv'
    refine ⟨_, rfl, fun j u hj => ?_⟩
    rw [← htk, List.getElem?_take] at hj
    split at hj
    · rw [plain_add, cell_of_row w g _ _ _ _ hh]; simpa using hj
    · cases hj

theorem RdL.take (t : Ty) : (n : Nat) → (xs : List t.den) → {cs : List Value} → RdL I w t xs cs → RdL I w t (xs.take n) (cs.take (n * t.sz))
  | 0, xs, cs, _ => by simp [RdL]
  | n + 1, [], cs, h => by simp only [RdL] at h; subst h; simp [RdL]
  | n + 1, x :: xs, cs, h => by
    obtain ⟨c1, c2, rfl, h1, h2⟩ := h
    have hl := Rd.length t h1
    refine ⟨c1, c2.take (n * t.sz), ?_, h1, RdL.take t n xs h2⟩
    rw [List.take_append, Nat.add_mul, Nat.one_mul, hl, List.take_of_length_le (by omega), show n * t.sz + t.sz - t.sz = n * t.sz by omega]

theorem RdL.drop (t : Ty) : (n : Nat) → (xs : List t.den) → {cs : List Value} → RdL I w t xs cs → RdL I w t (xs.drop n) (cs.drop (n * t.sz))
  | 0, xs, cs, h => by simpa using h
  | n + 1, [], cs, h => by simp only [RdL] at h; subst h; simp [RdL]
  | n + 1, x :: xs, cs, h => by
    obtain ⟨c1, c2, rfl, h1, h2⟩ := h
    have hl := Rd.length t h1
    have : (c1 ++ c2).drop ((n + 1) * t.sz) = c2.drop (n * t.sz) := by
      rw [List.drop_append, Nat.add_mul, Nat.one_mul, hl, List.drop_of_length_le (by omega), show n * t.sz + t.sz - t.sz = n * t.sz by omega]; rfl
    rw [this]
    exact RdL.drop t n xs h2

theorem sdata_src (hM : Mem cx S.res ρ I F w) {ty : Ty} {s : SV} {v : Value} {ys : List ty.den} (hd : SV.den ρ I w s v) (h : sdata S ty s = some ys) : Src I w ty ys v := by
  unfold sdata at h
  split at h
  · split at h <;> cases h
    rename_i e
    subst e
    unfold SV.den at hd
    exact src_rs hd
  · rename_i i
    split at h
    · rename_i e t xs hr
      split at h <;> cases h
      rename_i e'
      subst e'
      obtain ⟨v', cells, h1, h2, h3, _⟩ := hM.holds _ _ hr
      unfold SV.den at hd
      rw [hd.1] at h1
      cases h1
      exact src_row h2 h3
    · cases h
  · rename_i i lo hi sz
    split at h
    · rename_i e t xs hr
      split at h
      · rename_i hsz
        have hsz' : sz = t.sz := Nat.eq_of_beq_eq_true hsz
        split at h <;> cases h
        rename_i e'
        subst e'
        obtain ⟨v', cells, h1, h2, h3, _⟩ := hM.holds _ _ hr
        unfold SV.den at hd
        obtain ⟨A, n, c, g1, g2, g3, g4, g5, rfl⟩ := hd
        rw [g1] at h1
        cases h1
        have hlen : ((xs.take hi).drop lo).length = hi - lo := by
          have : n = xs.length := by rcases h2.2 with ⟨e1, e2⟩ | ⟨g, cap, cur, hv, _⟩; (simp only [Value.slice.injEq] at e1; omega); (simp only [Value.slice.injEq] at hv; omega)
          rw [List.length_drop, List.length_take]; omega
        show Src I w t ((xs.take hi).drop lo) _
        refine ⟨_, c - lo, (cells.take (hi * t.sz)).drop (lo * t.sz), by rw [hlen], by rw [hlen]; omega, by omega, RdL.drop t lo _ (RdL.take t hi xs h3), fun hne => ?_⟩
        have hlt : lo < hi := by
          rcases Nat.lt_or_ge lo hi with h | h
          · exact h
          · exact absurd (List.eq_nil_of_length_eq_zero (by omega)) hne
        rcases h2.2 with ⟨e1, e2⟩ | ⟨g, cap, cur, hv', _, hh, hnc, hcm', hcs, htk⟩
        · simp only [Value.slice.injEq] at e1; omega
        · simp only [Value.slice.injEq] at hv'
          obtain ⟨rfl, hn, rfl⟩ := hv'
          rw [if_neg (by omega), hsz']
          refine ⟨_, rfl, fun j u hj => ?_⟩
          rw [List.getElem?_drop, List.getElem?_take] at hj
          split at hj
          · rw [← htk, List.getElem?_take] at hj
            split at hj
            · show w.cell? ((Addr.add ⟨g, 0, none⟩ (lo * t.sz)).add j) = some u
              rw [plain_add, plain_add', cell_of_row w g _ _ _ _ hh]; simpa using hj
            · cases hj
          · cases hj
      · cases h
    · cases h
  · cases h
    unfold SV.den at hd
    subst hd
    exact ⟨none, 0, [], rfl, by simp, by decide, rfl, fun h => absurd rfl h⟩
  · cases h

end

/-! ### Stores -/
def storeK (S : St) (i b j : Nat) (T : TypeId) (ty : Ty) (os : List (Nat × (Nat × List ty.den))) (off : Nat) (vs : List SV) (k : SV → St → Prop) : Prop :=
  (∃ y, famGet os b j = some y) ∧ ∀ y, famGet os b j = some y → match implode ty ((explode ty y).take off ++ vs ++ (explode ty y).drop (off + vs.length)) with
    | some (y', []) => k .undef { S with res := S.res.set i (.fam T ty (famSet os b j y')) }
    | _ => False
def sstoreF (P : Program) (S : St) (t : TypeId) (p x : SV) (k : SV → St → Prop) : Prop :=
  match x.cells, P.info? t with
  | some vs, some inf => match Nat.beq vs.length inf.size, vs.all SV.one with
    | true, true => (match p with
      | .adr T x => match findFam T 0 S.res with
        | some i => match S.res[i]? with
          | some (.fam T' ty os) => match Nat.ble vs.length ty.sz with
            | true => x.isSome = true ∧ storeK S i (x.getD 0) 0 T' ty os 0 vs k
            | false => False
          | _ => False
        | none => False
      | .fp T b j sz off => match findFam T 0 S.res with
        | some i => match S.res[i]? with
          | some (.fam T' ty os) => match Nat.ble (off + vs.length) ty.sz, Nat.beq sz ty.sz with
            | true, true => storeK S i b j T' ty os off vs k
            | true, false => match j with
              | 0 => storeK S i b 0 T' ty os off vs k
              | _ + 1 => False
            | _, _ => False
          | _ => False
        | none => False
      | _ => False)
    | _, _ => False
  | _, _ => False

section
variable {P : Program} {cx : Cx} {S : St} {res : List Res} {ρ : List Value} {I : Nat → Prop} {F : Nat → Nat → Prop} {w : World} {a : Act} {sv : List Act}

theorem explode_length : (t : Ty) → (x : t.den) → (explode t x).length = t.sz
  | .int _, _ => rfl
  | .bool, _ => rfl
  | .str, _ => rfl
  | .slice _, _ => rfl
  | .adr _, _ => rfl
  | .hd _, _ => rfl
  | .pair a b, x => by simp only [explode, List.length_append, explode_length a, explode_length b, Ty.sz]

/-- A store into an element of a block. -/
theorem storeK_sound (h : Ok cx S a w sv [] []) {i b j : Nat} {T : TypeId} {ty : Ty} {os : List (Nat × (Nat × List ty.den))} {off : Nat} {vs : List SV} {k : SV → St → Prop} (hr : S.res[i]? = some (.fam T ty os))
    (hle : off + vs.length ≤ ty.sz) {us : List Value} (hu : ∀ ρ I F, Mem cx S.res ρ I F w → FrOk ρ I w S.fr a → SV.denL ρ I w vs us) (hone : ∀ u ∈ us, u.oneCell' = true) (hk : storeK S i b j T ty os off vs k) :
    ∃ w' S', (storeCells ⟨b, j * ty.sz + off, none⟩ us 0).run P w = .ok () w' ∧ Ok cx S' a w' sv [.undef] [Go.undef] ∧ k .undef S' := by
  obtain ⟨ρ, I, F, hM, hf, hs, _⟩ := h
  obtain ⟨⟨y, hy⟩, hk⟩ := hk
  have hk := hk y hy
  split at hk
  rotate_left
  · exact hk.elim
  rename_i y' him
  have hil := (List.getElem?_eq_some_iff.1 hr).1
  obtain ⟨hroot, hF⟩ := hM.holds _ _ hr
  have hud := hu ρ I F hM hf
  have hlu : us.length = vs.length := SV.denL_length _ hud
  -- the block
  unfold famGet at hy
  cases hl : lookN os b with
  | none => rw [hl] at hy; cases hy
  | some e =>
  obtain ⟨n, xs⟩ := e
  rw [hl] at hy
  simp only [Option.bind_some] at hy
  obtain ⟨cur, h1, h2, h3, h4⟩ := hF.rd b n xs (lookN_mem hl)
  have hj : j < xs.length := (List.getElem?_eq_some_iff.1 hy).1
  obtain ⟨cells, g1, g2⟩ := RdL.get ty xs h4 j y hy
  have hlc := Rd.length ty g1
  have hjs : j * ty.sz + ty.sz ≤ xs.length * ty.sz := by
    have : (j + 1) * ty.sz ≤ xs.length * ty.sz := Nat.mul_le_mul_right _ hj
    rwa [Nat.succ_mul] at this
  have hxn : xs.length * ty.sz ≤ n * ty.sz := Nat.mul_le_mul_right _ h3
  -- the new element
  have hex := explode_den (ρ := ρ) ty g1
  obtain ⟨c1, c2, hus, hRd, hnil⟩ := implode_den ty (SV.denL_append _ _ (SV.denL_append _ _ (SV.denL_take off _ hex) hud) (SV.denL_drop (off + vs.length) _ hex)) him
  unfold SV.denL at hnil
  subst hnil
  rw [List.append_nil] at hus
  subst hus
  have hst := run_storeCells_at (P := P) b (j * ty.sz + off) T us 0 cur w h1 (by omega) hone
  simp only [Nat.add_zero] at hst
  obtain ⟨w', hw'⟩ : ∃ w', w.setRow b (cur.toList.take (j * ty.sz + off) ++ us ++ cur.toList.drop (j * ty.sz + off + us.length)).toArray = w' := ⟨_, rfl⟩
  rw [hw'] at hst
  have hbF : F i b := (hF.foot b).2 (List.mem_map.2 ⟨_, lookN_mem hl, rfl⟩)
  have hother : ∀ k, k ≠ b → w'.heap[k]? = w.heap[k]? := fun k hk => by rw [← hw']; exact setRow_other w b k _ hk
  have hsame : ∀ k, I k → w'.heap[k]? = w.heap[k]? := fun m hm => hother m (fun e => hM.notI i m hil (by rw [e]; exact hbF) hm)
  have hnew : w'.heap[b]? = some (.cells (cur.toList.take (j * ty.sz + off) ++ us ++ cur.toList.drop (j * ty.sz + off + us.length)).toArray T (0, 0)) := by rw [← hw']; exact setRow_heap w b _ _ T _ h1
  have hcur : cur.toList.length = n * ty.sz := by simpa using h2
  have hpart : (cur.toList.take (xs.length * ty.sz)).drop (j * ty.sz) = cells ++ (cur.toList.take (xs.length * ty.sz)).drop (j * ty.sz + ty.sz) := by
    apply List.ext_getElem?
    intro m
    rw [List.getElem?_append]
    split
    · rename_i hm
      have := g2 m _ (List.getElem?_eq_getElem hm)
      rw [List.getElem?_drop, this, List.getElem?_eq_getElem hm]
    · rename_i hm
      rw [List.getElem?_drop, List.getElem?_drop]
      congr 1; omega
  have hFam : FamOk I w' T ty (famSet os b j y') (F i) := by
    refine ⟨fun b2 n2 xs2 hm => ?_, by rw [famSet_keys]; exact hF.nodup, fun k => by rw [famSet_keys]; exact hF.foot k⟩
    unfold famSet at hm
    rw [hl] at hm
    rcases putN_mem hF.nodup hm with e | ⟨hm, hne⟩
    · cases e
      refine ⟨_, hnew, by simp; omega, by simpa using h3, ?_⟩
      simp only [List.length_set]
      have e2 : (cur.toList.take (j * ty.sz + off) ++ us ++ cur.toList.drop (j * ty.sz + off + us.length)).take (xs.length * ty.sz) = (cur.toList.take (xs.length * ty.sz)).take (j * ty.sz) ++ (cells.take off ++ us ++ cells.drop (off + vs.length)) ++ (cur.toList.take (xs.length * ty.sz)).drop (j * ty.sz + ty.sz) := by
        have hcl : (cur.toList.take (xs.length * ty.sz)) = cur.toList.take (j * ty.sz) ++ (cells ++ (cur.toList.take (xs.length * ty.sz)).drop (j * ty.sz + ty.sz)) := by
          rw [← hpart]
          conv => lhs; rw [← List.take_append_drop (j * ty.sz) (cur.toList.take (xs.length * ty.sz))]
          rw [List.take_take, Nat.min_eq_left (by omega)]
        have hA : (cur.toList.take (j * ty.sz)).length = j * ty.sz := by rw [List.length_take]; omega
        apply List.ext_getElem?
        intro m
        have hget : ∀ m, m < xs.length * ty.sz → cur.toList[m]? = (cur.toList.take (j * ty.sz) ++ (cells ++ (cur.toList.take (xs.length * ty.sz)).drop (j * ty.sz + ty.sz)))[m]? := fun m hm => by rw [← hcl, List.getElem?_take_of_lt hm]
        by_cases hm : m < xs.length * ty.sz
        · rw [List.getElem?_take_of_lt hm]
          have hl1 : (cur.toList.take (j * ty.sz + off)).length = j * ty.sz + off := by rw [List.length_take]; omega
          by_cases m1 : m < j * ty.sz
          · rw [List.append_assoc, List.getElem?_append_left (by omega), List.getElem?_take_of_lt (by omega), List.append_assoc, List.getElem?_append_left (by rw [List.length_take, List.length_take]; omega), List.getElem?_take_of_lt m1, List.getElem?_take_of_lt hm]
          · by_cases m2 : m < j * ty.sz + off
            · rw [List.append_assoc, List.getElem?_append_left (by omega), List.getElem?_take_of_lt (by omega), hget m hm, List.getElem?_append_right (by omega), hA, List.getElem?_append_left (by omega)]
              rw [List.append_assoc, List.getElem?_append_right (by rw [List.length_take, List.length_take]; omega), List.length_take, List.length_take, List.append_assoc, List.append_assoc, List.getElem?_append_left (by rw [List.length_take]; omega), List.getElem?_take_of_lt (by omega)]
              congr 1; omega
            · by_cases m3 : m < j * ty.sz + off + us.length
              · rw [List.append_assoc, List.getElem?_append_right (by omega), hl1, List.getElem?_append_left (by omega)]
                rw [List.append_assoc, List.getElem?_append_right (by rw [List.length_take, List.length_take]; omega), List.length_take, List.length_take, List.append_assoc, List.append_assoc, List.getElem?_append_right (by rw [List.length_take]; omega), List.length_take, List.getElem?_append_left (by omega)]
                congr 1; omega
              · rw [List.getElem?_append_right (by rw [List.length_append]; omega), List.length_append, hl1, List.getElem?_drop, show j * ty.sz + off + us.length + (m - (j * ty.sz + off + us.length)) = m by omega, hget m hm, List.getElem?_append_right (by omega), hA]
                by_cases m4 : m < j * ty.sz + ty.sz
                · rw [List.getElem?_append_left (by omega)]
                  rw [List.append_assoc, List.getElem?_append_right (by rw [List.length_take, List.length_take]; omega), List.length_take, List.length_take, List.getElem?_append_left (by simp; omega), List.getElem?_append_right (by simp; omega), List.getElem?_drop]
                  congr 1; simp; omega
                · rw [List.getElem?_append_right (by omega)]
                  rw [List.getElem?_append_right (by simp; omega)]
                  congr 1; simp; omega
        · rw [List.getElem?_eq_none (by rw [List.length_take]; omega), List.getElem?_eq_none (by simp; omega)]
      have hset := RdL.set ty xs j (RdL.keep (fun _ h => h) hsame ty xs h4) hj (Rd.keep (fun _ h => h) hsame ty hRd)
      show RdL I w' ty (xs.set j y') (List.take (xs.length * ty.sz) (List.take (j * ty.sz + off) cur.toList ++ us ++ List.drop (j * ty.sz + off + us.length) cur.toList))
      rw [e2]
      exact hset
    · obtain ⟨cur2, k1, k2, k3, k4⟩ := hF.rd b2 n2 xs2 hm
      exact ⟨cur2, (hother b2 hne).trans k1, k2, k3, RdL.keep (fun _ h => h) hsame ty xs2 k4⟩
  have hM' := Mem.change (w' := w') (ρ' := ρ) hM hil (.fam T ty (famSet os b j y')) (F i) id rfl hM.ones
    (fun m _ hnf => hother m (fun e => hnf (by rw [e]; exact hbF))) (by rw [← hw']; simp) (by rw [← hw']; rfl) (by rw [← hw']; rfl) (by rw [← hw']; rfl)
    (fun k hk => ⟨.inl hk, by rw [← hw']; simp; exact hM.lt i k hil hk⟩)
    (fun j' y' hji hy hh => Res.keep (fun _ _ h => h) (fun _ h => h) hsame (fun m hm => hother m (fun e => hM.apart j' i m (List.getElem?_eq_some_iff.1 hy).1 hil hji hm (by rw [e]; exact hbF))) y' hh)
    ⟨hroot, hFam⟩
  rw [List.map_id] at hM'
  exact ⟨w', { S with res := S.res.set i (.fam T ty (famSet os b j y')) }, hst, ⟨ρ, I, _, hM', hf.keep (fun _ _ h => h) (fun _ h => h) hsame, StkOk.keep (fun _ _ h => h) (fun _ h => h) hsame _ hs, by simp [SV.denL, SV.den]⟩, hk⟩

theorem sstoreF_sound (h : Ok cx S a w sv [] []) {o : Oper} {t : TypeId} {p x : Operand} (ho : o.op = .store t p x) {k : SV → St → Prop} (hk : sstoreF P S t (S.fr.ev p) (S.fr.ev x) k) : EffOk P cx sv a w o k := by
  have h0 := h
  obtain ⟨ρ, I, F, hM, hf, hs, _⟩ := h
  unfold sstoreF at hk
  split at hk
  rotate_left
  · exact hk.elim
  rename_i vs inf hc hi
  split at hk
  rotate_left
  · exact hk.elim
  rename_i b1 b2
  have hsz : vs.length = inf.size := Nat.eq_of_beq_eq_true b1
  obtain ⟨us, hu1, hu2⟩ := SV.cells_den hM.ones hc (Fr.ev_den hf x)
  have hlu : us.length = vs.length := SV.denL_length _ hu2
  have hone : ∀ u ∈ us, u.oneCell' = true := SV.ones_den hM.ones vs b2 hu2
  have hu : ∀ ρ I F, Mem cx S.res ρ I F w → FrOk ρ I w S.fr a → SV.denL ρ I w vs us := fun ρ I F hM hf => by
    obtain ⟨us', hu1', hu2'⟩ := SV.cells_den hM.ones hc (Fr.ev_den hf x)
    have : us' = us := by
      have := hu1'.symm.trans hu1
      simpa using this
    rw [← this]; exact hu2'
  have fin : ∀ (b m : Nat) (w' : World) (S' : St), a.eval p = .pointer (some ⟨b, m, none⟩) → (storeCells ⟨b, m, none⟩ us 0).run P w = .ok () w' → Ok cx S' a w' sv [.undef] [Go.undef] → k .undef S' → EffOk P cx sv a w o k := by
    intro b m w' S' hp hst hok hkk
    refine ⟨.skip, Go.undef, w', .undef, S', ?_, .inr ⟨rfl, rfl⟩, hok, hkk⟩
    have hsz' : (a.eval x).cells.size = inf.size := by rw [hu1]; simp; omega
    have hlist : (a.eval x).cells.toList = us := by rw [hu1]
    simp [execOp, ho, hp, Instr.storeAt, Instr.sureAddr, storeVar, run_sizeOf' hi, hsz', hlist, hst]
  have hpd := Fr.ev_den hf p
  split at hk
  · rename_i T xx hp
    split at hk
    rotate_left
    · exact hk.elim
    rename_i i hfi
    split at hk
    rotate_left
    · exact hk.elim
    rename_i T' ty os hr
    split at hk
    rotate_left
    · exact hk.elim
    rename_i b3
    obtain ⟨hsome, hk⟩ := hk
    obtain ⟨b, rfl⟩ := Option.isSome_iff_exists.1 hsome
    rw [hp] at hpd
    unfold SV.den at hpd
    obtain ⟨w', S', h1, h2, h3⟩ := storeK_sound (P := P) h0 hr (by have := Nat.le_of_ble_eq_true b3; omega) hu hone hk
    exact fin b 0 w' S' hpd (by simpa using h1) h2 h3
  · rename_i T b j sz off hp
    rw [hp] at hpd
    unfold SV.den at hpd
    split at hk
    rotate_left
    · exact hk.elim
    rename_i i hfi
    split at hk
    rotate_left
    · exact hk.elim
    rename_i T' ty os hr
    split at hk
    · rename_i b3 b4
      obtain rfl : sz = ty.sz := Nat.eq_of_beq_eq_true b4
      obtain ⟨w', S', h1, h2, h3⟩ := storeK_sound (P := P) h0 hr (Nat.le_of_ble_eq_true b3) hu hone hk
      exact fin b _ w' S' hpd h1 h2 h3
    · rename_i b3 b4
      split at hk
      · obtain ⟨w', S', h1, h2, h3⟩ := storeK_sound (P := P) h0 hr (Nat.le_of_ble_eq_true b3) hu hone hk
        exact fin b _ w' S' hpd (by simpa using h1) h2 h3
      · exact hk.elim
    · exact hk.elim
  · exact hk.elim
end
end Go.Proofs.Ytfdcmbaoekjkgaa.Gx
namespace Go.Proofs.Ytfdcmbaoekjkgaa.Gx
open Go.RowKit
set_option linter.unusedSimpArgs false
set_option linter.unusedVariables false

section
variable {P : Program} {cx : Cx} {S : St} {res : List Res} {ρ : List Value} {I : Nat → Prop} {F : Nat → Nat → Prop} {w : World} {a : Act} {sv : List Act}

theorem run_append_roomO (t ty e : TypeId) (i : TypeInfo) (ht : P.underlying t = some (.slice e)) (hi : P.info? e = some i) (hz : i.size = 1)
    (g off sLen sCap : Nat) (cur : Array Value) (hg : w.heap[g]? = some (.cells cur e (0, 0)))
    (a : Addr) (m c : Nat) (news : List Value) (hl : news.length = m) (hnews : ∀ j u, news[j]? = some u → w.cell? (a.add j) = some u) (h1 : ∀ u ∈ news, u.oneCell' = true)
    (hroom : sLen + m ≤ sCap) (hfit : off + sLen + news.length ≤ cur.size) :
    (Builtin.append_ #[t, t] ty #[.slice (some ⟨g, off, none⟩) sLen sCap, .slice (some a) m c]).run P w =
      .ok (.slice (some ⟨g, off, none⟩) (sLen + m) sCap) (w.setRow g (cur.toList.take (off + sLen) ++ news ++ cur.toList.drop (off + sLen + news.length)).toArray) := by
  have hf := run_firstCells_some (P := P) w 1 m a m c news (by simpa using hl) hnews
  have hst := run_storeCells_at P g (off + sLen) e news 0 cur w hg (by simpa using hfit) h1
  simp only [Nat.add_zero] at hst
  have ha : ∀ n, (⟨g, off, none⟩ : Addr).add n = ⟨g, off + n, none⟩ := fun n => plain_add' g off n
  simp only [List.append_assoc] at hst ⊢
  simp [Builtin.append_, run_underlying ht, sizeOf, typeInfo, hi, Builtin.lenOf, hroom, hf, ha, hz, hst]

/-- An appending to a slice whose block is one's own. -/
theorem run_appH {e : TypeId} {ty : Ty} {os : List (Nat × (Nat × List ty.den))} {Fi : Nat → Prop} (hF : FamOk I w e ty os Fi) (hsz1 : ty.sz = 1) (hlt : ∀ k, Fi k → k < w.heap.size) (hIF : ∀ k, Fi k → ¬ I k) (hIlt : ∀ k, I k → k < w.heap.size)
    {t rt : TypeId} {inf : TypeInfo} {z : Value} (ht : P.underlying t = some (.slice e)) (hi : P.info? e = some inf) (hz : inf.zero = some z) (hzs : z.cells.size = inf.size) (hi1 : inf.size = 1) (hb1 : 1 ≤ inf.bytes)
    {h : Hd} (hok : h.ok) (hin : hdIn os h) {ys : List ty.den} {A : Option Addr} {c : Nat} {news : List Value} (hrn : RdL I w ty ys news) (hsrc : ys ≠ [] → ∃ ad : Addr, A = some ad ∧ ∀ j u, news[j]? = some u → w.cell? (ad.add j) = some u)
    (hbytes : (h.len + ys.length) * inf.bytes ≤ 140737488355328) :
    ∃ h' os' w' F', (Builtin.append_ #[t, t] rt #[hdV h, .slice A ys.length c]).run P w = .ok (hdV h') w' ∧ h'.ok ∧ AppPost os h ys h' os' ∧ FamOk I w' e ty os' F' ∧
      (∀ k, k < w.heap.size → ¬ Fi k → w'.heap[k]? = w.heap[k]?) ∧ w.heap.size ≤ w'.heap.size ∧ w'.os = w.os ∧ w'.tape = w.tape ∧ w'.output = w.output ∧ (∀ k, F' k → (Fi k ∨ w.heap.size ≤ k) ∧ k < w'.heap.size) := by
  have hln : news.length = ys.length := by have := RdL.length ty ys hrn; rwa [hsz1, Nat.mul_one] at this
  have hnm : h.len + ys.length ≤ 140737488355328 := Nat.le_trans (Nat.le_mul_of_pos_right _ hb1) hbytes
  have hone := RdL.one ty ys hrn
  by_cases hm : ys = []
  · subst hm
    refine ⟨h, os, w, Fi, ?_, hok, ⟨hin, by simp, .inl rfl, fun _ _ _ => rfl, fun _ h => h, fun _ h => .inl h, hF.nodup⟩, hF, fun _ _ _ => rfl, Nat.le_refl _, rfl, rfl, rfl, fun k hk => ⟨.inl hk, hlt k hk⟩⟩
    have hle := hok.1
    obtain ⟨bb, off, len, cap⟩ := h
    simp only at hle
    cases bb <;> cases A <;> simp [Builtin.append_, run_underlying ht, Go.sizeOf, typeInfo, hi, Builtin.lenOf, Builtin.firstCells, loadCells, loadCellsFrom, storeCells, hle]
  obtain ⟨ad, rfl, hnews⟩ := hsrc hm
  have hmp : 0 < ys.length := List.length_pos_iff.2 hm
  -- a new block
  have grown : ∀ (cap' : Nat) (olds : List ty.den) (oc : List Value) (w' : World), RdL I w ty olds oc → olds = rdH os h → olds.length = h.len → h.len + ys.length ≤ cap' → cap' ≤ maxLen →
      w' = w.drew.alloc (.cells (oc.toArray ++ news.toArray ++ Builtin.zeroCells z.cells (cap' - (h.len + ys.length))) e) →
      ∃ h' os' F', hdV h' = .slice (some ⟨w.heap.size, 0, none⟩) (h.len + ys.length) cap' ∧ h'.ok ∧ AppPost os h ys h' os' ∧ FamOk I w' e ty os' F' ∧
        (∀ k, k < w.heap.size → ¬ Fi k → w'.heap[k]? = w.heap[k]?) ∧ w.heap.size ≤ w'.heap.size ∧ w'.os = w.os ∧ w'.tape = w.tape ∧ w'.output = w.output ∧ (∀ k, F' k → (Fi k ∨ w.heap.size ≤ k) ∧ k < w'.heap.size) := by
    intro cap' olds oc w' hro hold hol hge hcm hw'
    have hloc : oc.length = h.len := by have := RdL.length ty olds hro; rw [hsz1, Nat.mul_one] at this; omega
    have hb : ∀ k, k < w.heap.size → w'.heap[k]? = w.heap[k]? := fun k hk => by rw [hw']; exact heap_alloc_old w.drew _ hk
    have hsame : ∀ k, I k → w'.heap[k]? = w.heap[k]? := fun k hk => hb k (hIlt k hk)
    have hnk : w.heap.size ∉ os.map (·.1) := fun hk => by have := hlt _ ((hF.foot _).2 hk); omega
    have hnl : lookN os w.heap.size = none := by
      cases hl : lookN os w.heap.size with
      | none => rfl
      | some v => exact absurd (lookN_some_key.1 (by rw [hl]; simp)) hnk
    refine ⟨⟨some w.heap.size, 0, h.len + ys.length, cap'⟩, (w.heap.size, (cap', olds ++ ys)) :: os, fun k => k ∈ ((w.heap.size, (cap', olds ++ ys)) :: os).map (·.1), rfl, ⟨hge, hcm, fun e => by simp at e⟩, ⟨?_, ?_, .inr ⟨_, rfl, hnl⟩, ?_, ?_, ?_, ?_⟩, ⟨?_, ?_, fun k => Iff.rfl⟩, fun k hk _ => hb k hk, by rw [hw']; simp, by rw [hw']; rfl, by rw [hw']; rfl, by rw [hw']; rfl, ?_⟩
    · show ∃ n xs, lookN ((w.heap.size, (cap', olds ++ ys)) :: os) w.heap.size = some (n, xs) ∧ 0 + cap' ≤ n ∧ 0 + (h.len + ys.length) ≤ xs.length ∧ h.len + ys.length ≤ cap'
      exact ⟨cap', olds ++ ys, by simp [lookN], by omega, by simp; omega, hge⟩
    · show ((((lookN ((w.heap.size, (cap', olds ++ ys)) :: os) w.heap.size).map (·.2)).getD []).drop 0).take (h.len + ys.length) = _
      simp only [lookN, if_true, Option.map_some, Option.getD_some, List.drop_zero]
      rw [List.take_of_length_le (by simp; omega), hold]
    · intro g hg1 hg2
      have : ¬ w.heap.size = g := fun e => by subst e; exact hg2 hnl
      simp [lookN, this]
    · intro g hg
      simp only [lookN]
      split
      · simp
      · exact hg
    · intro g hg
      simp only [lookN] at hg
      split at hg
      · rename_i e; right; rw [e]
      · exact .inl hg
    · simp only [List.map_cons, List.nodup_cons]
      exact ⟨hnk, hF.nodup⟩
    · intro b n xs hbm
      rcases List.mem_cons.1 hbm with e1 | hbm
      · cases e1
        refine ⟨_, by rw [hw']; exact heap_alloc_new w.drew _, ?_, by simp; omega, ?_⟩
        · simp only [Array.size_append, List.size_toArray, size_zeroCells, hzs, hi1, hsz1, hloc, hln]; omega
        · simp only [hsz1, Nat.mul_one, Array.toList_append]
          rw [List.take_left' (by simp; omega)]
          exact RdL.append ty _ _ (RdL.keep (fun _ h => h) hsame ty _ hro) (RdL.keep (fun _ h => h) hsame ty _ hrn)
      · obtain ⟨cur, k1, k2, k3, k4⟩ := hF.rd b n xs hbm
        exact ⟨cur, (hb b (hlt b ((hF.foot b).2 (List.mem_map.2 ⟨_, hbm, rfl⟩)))).trans k1, k2, k3, RdL.keep (fun _ h => h) hsame ty _ k4⟩
    · simp only [List.map_cons, List.nodup_cons]
      exact ⟨hnk, hF.nodup⟩
    · intro k hk
      simp only [List.map_cons, List.mem_cons] at hk
      have hs : w'.heap.size = w.heap.size + 1 := by rw [hw']; simp
      rcases hk with rfl | hk
      · exact ⟨.inr (Nat.le_refl _), by omega⟩
      · have := (hF.foot k).2 hk
        exact ⟨.inl this, by have := hlt k this; omega⟩
  obtain ⟨bb, off, len, cap⟩ := h
  obtain ⟨ok1, ok2, ok3⟩ := hok
  simp only at ok1 ok2 ok3 hbytes hnm grown
  cases bb with
  | none =>
    have hc0 := ok3 rfl
    subst hc0
    have hl0 : len = 0 := by omega
    subst hl0
    have hr := run_append_nil (P := P) w t rt e inf z ht hi hz ad ys.length c news (by rw [hi1, Nat.mul_one]; exact hln) hnews hmp (by omega) (by rw [Nat.zero_add] at hbytes; omega)
    obtain ⟨h', os', F', e1, g1, g2⟩ := grown (grownCap w ys.length 0 e) [] [] (w.drew.alloc (.cells (news.toArray ++ Builtin.zeroCells z.cells (grownCap w ys.length 0 e - ys.length)) e)) rfl rfl rfl (by have := grownCap_ge w ys.length 0 e; omega) (grownCap_le_maxLen w ys.length 0 e (by simp only [maxLen]; omega)) (by simp)
    refine ⟨h', os', _, F', ?_, g1, g2⟩
    show (Builtin.append_ #[t, t] rt #[.slice none 0 0, .slice (some ad) ys.length c]).run P w = _
    rw [hr, e1]
    simp
  | some g =>
    obtain ⟨n, xs, hl, hin1, hin2, hin3⟩ := hin
    simp only at hin1 hin2 hin3
    obtain ⟨cur, k1, k2, k3, k4⟩ := hF.rd g n xs (lookN_mem hl)
    rw [hsz1, Nat.mul_one] at k2 k4
    have hgF : Fi g := (hF.foot g).2 (List.mem_map.2 ⟨_, lookN_mem hl, rfl⟩)
    have hxl : (cur.toList.take xs.length).length = xs.length := by simp; omega
    -- what it reads
    have hro : RdL I w ty ((xs.drop off).take len) (((cur.toList.take xs.length).drop off).take len) := by
      have h1 := RdL.drop ty off xs k4
      have h2 := RdL.take ty len _ h1
      rwa [hsz1, Nat.mul_one, Nat.mul_one] at h2
    have hrd : rdH os ⟨some g, off, len, cap⟩ = (xs.drop off).take len := by simp [rdH, hl]
    have hol : ((xs.drop off).take len).length = len := by rw [List.length_take, List.length_drop]; omega
    by_cases hroom : len + ys.length ≤ cap
    · have hr := run_append_roomO (P := P) (w := w) t rt e inf ht hi hi1 g off len cap cur k1 ad ys.length c news hln hnews hone hroom (by omega)
      obtain ⟨w', hw'⟩ : ∃ w', w.setRow g (cur.toList.take (off + len) ++ news ++ cur.toList.drop (off + len + news.length)).toArray = w' := ⟨_, rfl⟩
      rw [hw'] at hr
      have hother : ∀ k, k ≠ g → w'.heap[k]? = w.heap[k]? := fun k hk => by rw [← hw']; exact setRow_other w g k _ hk
      have hsame : ∀ k, I k → w'.heap[k]? = w.heap[k]? := fun k hk => hother k (fun e => hIF k (by rw [e]; exact hgF) hk)
      have hsize : w'.heap.size = w.heap.size := by rw [← hw']; simp
      obtain ⟨xs', hxs'⟩ : ∃ xs', xs' = xs.take (off + len) ++ ys ++ xs.drop (off + len + ys.length) := ⟨_, rfl⟩
      have hxs'l : xs'.length ≤ n ∧ off + len + ys.length ≤ xs'.length := by rw [hxs']; simp; omega
      refine ⟨⟨some g, off, len + ys.length, cap⟩, putN os g (n, xs'), w', Fi, hr, ⟨hroom, ok2, fun e => by simp at e⟩, ⟨?_, ?_, .inl rfl, ?_, ?_, ?_, ?_⟩, ⟨?_, by rw [putN_keys]; exact hF.nodup, fun k => by rw [putN_keys]; exact hF.foot k⟩, fun k hk hn => hother k (fun e => hn (by rw [e]; exact hgF)), by omega, by rw [← hw']; rfl, by rw [← hw']; rfl, by rw [← hw']; rfl, fun k hk => ⟨.inl hk, by have := hlt k hk; omega⟩⟩
      · show ∃ n2 xs2, lookN (putN os g (n, xs')) g = some (n2, xs2) ∧ off + cap ≤ n2 ∧ off + (len + ys.length) ≤ xs2.length ∧ len + ys.length ≤ cap
        exact ⟨n, xs', by rw [lookN_putN, if_pos rfl, hl]; rfl, hin1, by omega, hroom⟩
      · rw [hrd]
        simp only [rdH, lookN_putN, if_true, hl, Option.map_some, Option.getD_some, hxs']
        rw [List.append_assoc, List.drop_append, List.drop_take, show off + len - off = len by omega, List.length_take, Nat.min_eq_left (by omega), show off - (off + len) = 0 by omega, List.drop_zero, List.take_append, hol, List.take_of_length_le (by rw [hol]; omega), show len + ys.length - len = ys.length by omega, List.take_left]
      · intro g2 hg1 hg2
        rw [lookN_putN, if_neg (fun e => hg1 (by rw [e]))]
      · intro g2 hg2
        rw [lookN_some_key, putN_keys, ← lookN_some_key]; exact hg2
      · intro g2 hg2
        rw [lookN_some_key, putN_keys, ← lookN_some_key] at hg2; exact .inl hg2
      · rw [putN_keys]; exact hF.nodup
      · intro b n2 xs2 hm2
        rcases putN_mem hF.nodup hm2 with e1 | ⟨hm2, hne⟩
        · cases e1
          refine ⟨_, by rw [← hw']; exact setRow_heap w g _ _ e _ k1, by simp [hsz1]; omega, hxs'l.1, ?_⟩
          rw [hsz1, Nat.mul_one]
          show RdL I w' ty xs' (List.take xs'.length (cur.toList.take (off + len) ++ news ++ cur.toList.drop (off + len + news.length)))
          have e2 : List.take xs'.length (cur.toList.take (off + len) ++ news ++ cur.toList.drop (off + len + news.length)) = (cur.toList.take xs.length).take (off + len) ++ news ++ (cur.toList.take xs.length).drop (off + len + ys.length) := by
            rw [List.take_take, Nat.min_eq_left (by omega), List.append_assoc, List.append_assoc, List.take_append, List.take_of_length_le (l := List.take (off + len) cur.toList) (by simp; omega), List.take_append, List.take_of_length_le (l := news) (by simp; omega), hln, List.drop_take]
            congr 3
            have : xs'.length = off + len + ys.length + (xs.length - (off + len + ys.length)) := by rw [hxs']; simp; omega
            simp; omega
          rw [e2, hxs']
          have hk4 := RdL.keep (fun _ h => h) hsame ty _ k4
          have p1 := RdL.take ty (off + len) xs hk4
          have p2 := RdL.drop ty (off + len + ys.length) xs hk4
          rw [hsz1, Nat.mul_one] at p1 p2
          exact RdL.append ty _ _ (RdL.append ty _ _ p1 (RdL.keep (fun _ h => h) hsame ty _ hrn)) p2
        · obtain ⟨cur2, q1, q2, q3, q4⟩ := hF.rd b n2 xs2 hm2
          exact ⟨cur2, (hother b hne).trans q1, q2, q3, RdL.keep (fun _ h => h) hsame ty _ q4⟩
    · have holds : ∀ j u, (((cur.toList.take xs.length).drop off).take len)[j]? = some u → w.cell? ((⟨g, off, none⟩ : Addr).add j) = some u := by
        intro j u hj
        rw [List.getElem?_take] at hj
        split at hj
        · rw [List.getElem?_drop, List.getElem?_take] at hj
          split at hj
          · rw [plain_add', cell_of_row w g _ _ _ _ k1]; simpa using hj
          · cases hj
        · cases hj
      have hlol : (((cur.toList.take xs.length).drop off).take len).length = len * inf.size := by rw [hi1, Nat.mul_one, List.length_take, List.length_drop, hxl]; omega
      have hr := run_append_grow (P := P) w t rt e inf z ht hi hz ⟨g, off, none⟩ len cap _ hlol holds ad ys.length c news (by rw [hi1, Nat.mul_one]; exact hln) hnews (by omega) (by omega) (growslice_fits (by omega) hbytes)
      obtain ⟨h', os', F', e1, g1, g2⟩ := grown (grownCap w (len + ys.length) cap e) _ _ _ hro hrd.symm hol (grownCap_ge w (len + ys.length) cap e) (grownCap_le_maxLen w (len + ys.length) cap e (by simp only [maxLen]; omega)) rfl
      refine ⟨h', os', _, F', ?_, g1, g2⟩
      show (Builtin.append_ #[t, t] rt #[.slice (some ⟨g, off, none⟩) len cap, .slice (some ad) ys.length c]).run P w = _
      rw [hr, e1]
end
end Go.Proofs.Ytfdcmbaoekjkgaa.Gx
namespace Go.Proofs.Ytfdcmbaoekjkgaa.Gx
open Go.RowKit
set_option linter.unusedSimpArgs false
set_option linter.unusedVariables false

/-! ### A block's pointers told otherwise -/
mutual
def SV.subP (q : Nat) (f : Nat → SV) : SV → SV
  | .ptr j off => bif j == q then f off else .ptr j off
  | .row j => .row j
  | .elt j n sz off => .elt j n sz off
  | .win j lo hi sz => .win j lo hi sz
  | .yld j => .yld j
  | .fn g caps => .fn g (SV.subPL q f caps)
  | .agg cs => .agg (SV.subPL q f cs)
  | .tup cs => .tup (SV.subPL q f cs)
  | .any => .any
  | .undef => .undef
  | .int k n => .int k n
  | .bool b => .bool b
  | .lit b => .lit b
  | .str s => .str s
  | .rs t xs => .rs t xs
  | .pto t x off => .pto t x off
  | .val v => .val v
  | .mp j => .mp j
  | .adr T x => .adr T x
  | .hd e h => .hd e h
  | .fp T b j sz off => .fp T b j sz off
  | .ev => .ev
def SV.subPL (q : Nat) (f : Nat → SV) : List SV → List SV
  | [] => []
  | s :: ss => SV.subP q f s :: SV.subPL q f ss
end

section
variable {ρ ρ' : List Value} {I I' : Nat → Prop} {w w' : World} {q : Nat} {f : Nat → SV}

mutual
theorem SV.den_subP (hf : ∀ b off, ρ[q]? = some (.pointer (some ⟨b, 0, none⟩)) → SV.den ρ I w (f off) (.pointer (some ⟨b, off, none⟩))) : (s : SV) → {v : Value} → SV.den ρ I w s v → SV.den ρ I w (SV.subP q f s) v
  | .ptr j off, _, h => by
    simp only [SV.subP]
    by_cases e : j = q
    · subst e
      simp only [beq_self_eq_true, cond_true]
      unfold SV.den at h
      obtain ⟨b, h1, rfl⟩ := h
      exact hf b off h1
    · have e' : (j == q) = false := by simpa using e
      rw [e']; exact h
  | .fn g caps, _, h => by
    simp only [SV.subP]; unfold SV.den at h ⊢
    obtain ⟨vs, h1, h2⟩ := h
    exact ⟨vs, h1, SV.denL_subP hf caps h2⟩
  | .agg cs, _, h => by
    simp only [SV.subP]; unfold SV.den at h ⊢
    obtain ⟨vs, h1, h2⟩ := h
    exact ⟨vs, h1, SV.denL_subP hf cs h2⟩
  | .tup cs, _, h => by
    simp only [SV.subP]; unfold SV.den at h ⊢
    obtain ⟨vs, h1, h2⟩ := h
    exact ⟨vs, h1, SV.denL_subP hf cs h2⟩
  | .row _, _, h => h
  | .elt _ _ _ _, _, h => h
  | .win _ _ _ _, _, h => h
  | .yld _, _, h => h
  | .any, _, h => h
  | .undef, _, h => h
  | .int _ _, _, h => h
  | .bool _, _, h => h
  | .lit _, _, h => h
  | .str _, _, h => h
  | .rs _ _, _, h => h
  | .pto _ _ _, _, h => h
  | .val _, _, h => h
  | .mp _, _, h => h
  | .adr _ _, _, h => h
  | .hd _ _, _, h => h
  | .fp _ _ _ _ _, _, h => h
  | .ev, _, h => h
theorem SV.denL_subP (hf : ∀ b off, ρ[q]? = some (.pointer (some ⟨b, 0, none⟩)) → SV.den ρ I w (f off) (.pointer (some ⟨b, off, none⟩))) : (ss : List SV) → {vs : List Value} → SV.denL ρ I w ss vs → SV.denL ρ I w (SV.subPL q f ss) vs
  | [], _, h => h
  | s :: ss, _, h => by
    simp only [SV.subPL]
    unfold SV.denL at h ⊢
    obtain ⟨v, vs', e, h1, h2⟩ := h
    exact ⟨v, vs', e, SV.den_subP hf s h1, SV.denL_subP hf ss h2⟩
end

def subPT (q : Nat) (f : Nat → SV) (l : List (Nat × SV)) : List (Nat × SV) := l.map fun p => (p.1, SV.subP q f p.2)
theorem getT_subP (q : Nat) (f : Nat → SV) : (l : List (Nat × SV)) → (t : Nat) → getT (subPT q f l) t = SV.subP q f (getT l t)
  | [], _ => rfl
  | (i, v) :: l, t => by
    have ih := getT_subP q f l t
    simp only [subPT, List.map_cons, getT] at ih ⊢
    by_cases e : i = t
    · simp [e]
    · have e' : (i == t) = false := by simpa using e
      rw [e']; exact ih
def Fr.subP (q : Nat) (f : Nat → SV) (fr : Fr) : Fr := { n := fr.n, tm := subPT q f fr.tm, dfr := fr.dfr, cs := fr.cs }
def Res.subP (q : Nat) (f : Nat → SV) : Res → Res
  | .blk ty cs => .blk ty (SV.subPL q f cs)
  | .ro ty cs => .ro ty (SV.subPL q f cs)
  | .loop fr ps st pend => .loop (fr.subP q f) ps st pend
  | x => x
def St.subP (S : St) (q : Nat) (f : Nat → SV) : St := { fr := S.fr.subP q f, stk := S.stk.map (Fr.subP q f), res := S.res.map (Res.subP q f) }

theorem FrOk.subP (hf : ∀ b off, ρ[q]? = some (.pointer (some ⟨b, 0, none⟩)) → SV.den ρ I w (f off) (.pointer (some ⟨b, off, none⟩))) {fr : Fr} {a : Act} (h : FrOk ρ I w fr a) : FrOk ρ I w (fr.subP q f) a :=
  ⟨h.1, fun t => by simp only [Fr.subP, getT_subP]; exact SV.den_subP hf _ (h.2.1 t), h.2.2⟩
theorem StkOk.subP (hf : ∀ b off, ρ[q]? = some (.pointer (some ⟨b, 0, none⟩)) → SV.den ρ I w (f off) (.pointer (some ⟨b, off, none⟩))) : (l : List Fr) → {sv : List Act} → StkOk ρ I w l sv → StkOk ρ I w (l.map (Fr.subP q f)) sv
  | [], _, h => h
  | fr :: l, _, h => by
    obtain ⟨tm, sv', e, h1, h2⟩ := h
    exact ⟨tm, sv', e, h1.subP hf, StkOk.subP hf l h2⟩
theorem Res.holdsP {lp : Lp} {j : Nat} {F : Nat → Prop} (hf : ∀ b off, ρ[q]? = some (.pointer (some ⟨b, 0, none⟩)) → SV.den ρ I w (f off) (.pointer (some ⟨b, off, none⟩))) : (x : Res) → x.holds lp ρ I w j F → (x.subP q f).holds lp ρ I w j F
  | .blk ty cs, h => by
    obtain ⟨b, vs, h1, h2, h3, h4⟩ := h
    exact ⟨b, vs, h1, h2, SV.denL_subP hf cs h3, h4⟩
  | .ro ty cs, h => by
    obtain ⟨b, vs, h1, h2, h3, h4, h5⟩ := h
    exact ⟨b, vs, h1, h2, SV.denL_subP hf cs h3, h4, h5⟩
  | .loop fr ps st pend, h => by
    obtain ⟨l, r, h1, h2, h3, h4, h5, h6, h7, h8⟩ := h
    exact ⟨l, r, h1, h2, h3, h4, h5, h6, ⟨h7.1, fun t => by simp only [Fr.subP, getT_subP]; exact SV.den_subP hf _ (h7.2 t)⟩, h8⟩
  | .row _ _ _, h => h
  | .cust _ _ _, h => h
  | .dfr, h => h
  | .dfrs, h => h
  | .rsv, h => h
  | .mv _ _ _ _, h => h
  | .was, h => h
  | .gone, h => h
  | .junk, h => h
  | .mit _, h => h
  | .mapr _ _ _ _ _, h => h
  | .fam _ _ _, h => h
end

/-! ### One resource's blocks go over to another one -/
section
variable {cx : Cx} {S : St} {res : List Res} {ρ : List Value} {I : Nat → Prop} {F : Nat → Nat → Prop} {w : World} {a : Act} {sv : List Act}

theorem Mem.move (h : Mem cx res ρ I F w) {i j : Nat} (hi : i < res.length) (hj : j < res.length) (hne : j ≠ i) (r' : Res) (g : Res → Res)
    (hg : ∀ (m : Nat) (x : Res), m ≠ i → m ≠ j → res[m]? = some x → x.holds cx.lp ρ I w m (F m) → (g x).holds cx.lp ρ I w m (F m)) (hr' : r'.holds cx.lp ρ I w i (fun k => F i k ∨ F j k)) :
    Mem cx (((res.map g).set j .gone).set i r') ρ I (fun m k => (m = i ∧ (F i k ∨ F j k)) ∨ (m ≠ i ∧ m ≠ j ∧ F m k)) w where
  len := by simp [h.len]
  ones := h.ones
  holds := fun m x hm => by
    rw [List.getElem?_set] at hm
    by_cases e : i = m
    · subst e
      rw [if_pos rfl] at hm
      simp only [List.length_set, List.length_map, hi, if_true, Option.some.injEq] at hm
      subst hm
      have : (fun k => (i = i ∧ (F i k ∨ F j k)) ∨ (i ≠ i ∧ i ≠ j ∧ F i k)) = (fun k => F i k ∨ F j k) := by funext k; simp
      rw [this]; exact hr'
    · rw [if_neg e, List.getElem?_set] at hm
      by_cases e2 : j = m
      · subst e2
        rw [if_pos rfl] at hm
        simp only [List.length_map, hj, if_true, Option.some.injEq] at hm
        subst hm
        intro k hk
        rcases hk with ⟨e3, _⟩ | ⟨_, e3, _⟩
        · exact hne e3
        · exact e3 rfl
      · rw [if_neg e2, List.getElem?_map, Option.map_eq_some_iff] at hm
        obtain ⟨y, hy, rfl⟩ := hm
        have : (fun k => (m = i ∧ (F i k ∨ F j k)) ∨ (m ≠ i ∧ m ≠ j ∧ F m k)) = F m := by
          funext k
          have h1 : m ≠ i := fun h => e h.symm
          have h2 : m ≠ j := fun h => e2 h.symm
          simp [h1, h2]
        rw [this]
        exact hg m y (fun h => e h.symm) (fun h => e2 h.symm) hy (h.holds m y hy)
  apart := fun m n k hm hn hmn h1 h2 => by
    simp at hm hn
    rcases h1 with ⟨rfl, h1⟩ | ⟨a1, a2, h1⟩ <;> rcases h2 with ⟨rfl, h2⟩ | ⟨b1, b2, h2⟩
    · exact hmn rfl
    · rcases h1 with h1 | h1
      · exact h.apart _ _ k hm hn hmn h1 h2
      · exact h.apart _ _ k hj hn (fun e => b2 e.symm) h1 h2
    · rcases h2 with h2 | h2
      · exact h.apart _ _ k hm hn hmn h1 h2
      · exact h.apart _ _ k hm hj a2 h1 h2
    · exact h.apart _ _ k hm hn hmn h1 h2
  lt := fun m k hm h1 => by
    simp at hm
    rcases h1 with ⟨rfl, h1 | h1⟩ | ⟨_, _, h1⟩
    · exact h.lt _ k hm h1
    · exact h.lt _ k hj h1
    · exact h.lt _ k hm h1
  notI := fun m k hm h1 => by
    simp at hm
    rcases h1 with ⟨rfl, h1 | h1⟩ | ⟨_, _, h1⟩
    · exact h.notI _ k hm h1
    · exact h.notI _ k hj h1
    · exact h.notI _ k hm h1
  new := fun m k hm h1 => by
    simp at hm
    rcases h1 with ⟨rfl, h1 | h1⟩ | ⟨_, _, h1⟩
    · exact h.new _ k hm h1
    · exact h.new _ k hj h1
    · exact h.new _ k hm h1
  I0 := h.I0
  Ilt := h.Ilt
  Inew := h.Inew
  size := h.size
  os := h.os
  tape := h.tape
  output := h.output
  frame := h.frame

/-- A family of no blocks. -/
theorem Mem.noFam (h : Mem cx res ρ I F w) (T : TypeId) (t : Ty) : Mem cx (res ++ [.fam T t []]) (ρ ++ [famV]) I (fun j k => j ≠ res.length ∧ F j k) w where
  len := by simp [h.len]
  ones := fun j v hv => by
    rw [getElem?_snoc] at hv
    split at hv
    · cases hv; rfl
    · exact h.ones j v hv
  holds := fun j x hr => by
    rw [getElem?_snoc] at hr
    split at hr
    · rename_i hj
      cases hr
      refine ⟨by rw [hj, ← h.len]; simp, ⟨fun b n xs hm => by simp at hm, by simp, fun k => by simp [hj]⟩⟩
    · rename_i hj
      have := Res.keep (fun _ _ h => rho_snoc (u := famV) h) (fun _ h => h) (fun _ _ => rfl) (fun _ _ => rfl) x (h.holds j x hr)
      have hF : (fun k => j ≠ res.length ∧ F j k) = F j := by funext k; simp [hj]
      rw [hF]; exact this
  apart := fun i j k hi hj hne h1 h2 => by
    simp at hi hj
    exact h.apart i j k (by omega) (by omega) hne h1.2 h2.2
  lt := fun i k hi h1 => by simp at hi; exact h.lt i k (by omega) h1.2
  notI := fun i k hi h1 => by simp at hi; exact h.notI i k (by omega) h1.2
  new := fun i k hi h1 => by simp at hi; exact h.new i k (by omega) h1.2
  I0 := h.I0
  Ilt := h.Ilt
  Inew := h.Inew
  size := h.size
  os := h.os
  tape := h.tape
  output := h.output
  frame := h.frame

theorem Ok.noFam {ss : List SV} {vs : List Value} (h : Ok cx S a w sv ss vs) (T : TypeId) (t : Ty) : Ok cx (S.push (.fam T t [])) a w sv ss vs := by
  obtain ⟨ρ, I, F, hM, hf, hs, hd⟩ := h
  exact ⟨_, I, _, hM.noFam T t, hf.keep (fun _ _ h => rho_snoc h) (fun _ h => h) (fun _ _ => rfl), StkOk.keep (fun _ _ h => rho_snoc h) (fun _ h => h) (fun _ _ => rfl) _ hs, SV.denL_keep (fun _ _ h => rho_snoc h) (fun _ h => h) (fun _ _ => rfl) _ hd⟩
end

/-- Where the last family of a type stands. -/
def lastFam (T : TypeId) : Nat → List Res → Option Nat → Option Nat
  | _, [], acc => acc
  | i, r :: l, acc => match r with
    | .fam T' _ _ => match Nat.beq T' T with
      | true => lastFam T (i + 1) l (some i)
      | false => lastFam T (i + 1) l acc
    | _ => lastFam T (i + 1) l acc

/-! ### An own row taken in -/
def St.adR (S : St) (j i : Nat) (e : TypeId) (t : Ty) (h : Hd) (os' : List (Nat × (Nat × List t.den))) : St :=
  { S.sub j (.hd e h) with res := ((S.res.map (Res.sub j (.hd e h))).set j .gone).set i (.fam e t os') }

section
variable {cx : Cx} {S : St} {w : World} {a : Act} {sv : List Act}

theorem Ok.adR (h : Ok cx S a w sv [] []) {j i : Nat} {e : TypeId} {t : Ty} {xs : List t.den} {os : List (Nat × (Nat × List t.den))} (hj : S.res[j]? = some (.row e t xs)) (hi : S.res[i]? = some (.fam e t os)) (hs1 : t.sz = 1) :
    ∃ hd os', AppPost os nilHd xs hd os' ∧ Ok cx (S.adR j i e t hd os') a w sv [] [] := by
  obtain ⟨ρ, I, F, hM, hf, hs, hd⟩ := h
  have hjl := (List.getElem?_eq_some_iff.1 hj).1
  have hil := (List.getElem?_eq_some_iff.1 hi).1
  have hne : j ≠ i := fun e => by subst e; rw [hj] at hi; cases hi
  obtain ⟨v, cells, h1, h2, h3, h4⟩ := hM.holds _ _ hj
  obtain ⟨hroot, hF⟩ := hM.holds _ _ hi
  have fin : ∀ (hd : Hd) (os' : List (Nat × (Nat × List t.den))), AppPost os nilHd xs hd os' → v = hdV hd → hd.ok → FamOk I w e t os' (fun k => F i k ∨ F j k) → ∃ hd os', AppPost os nilHd xs hd os' ∧ Ok cx (S.adR j i e t hd os') a w sv [] [] := by
    intro hd os' hap hv hok hF'
    have hr : ∀ u, ρ[j]? = some u → SV.den ρ I w (.hd e hd) u := fun u hu => by
      rw [hu] at h1; cases h1
      unfold SV.den; exact ⟨hv, hok⟩
    have hM' := hM.move hil hjl hne (.fam e t os') (Res.sub j (.hd e hd)) (fun m x _ hm hx hh => Res.keepS hm (fun _ _ _ h => h) (fun _ _ _ h => h) (fun _ h => h) (fun _ _ => rfl) hr (fun _ _ => rfl) x hh) ⟨hroot, hF'⟩
    exact ⟨hd, os', hap, ρ, I, _, hM', hf.sub (fun _ _ _ h => h) (fun _ _ _ h => h) (fun _ h => h) (fun _ _ => rfl) hr, StkOk.sub (fun _ _ _ h => h) (fun _ _ _ h => h) (fun _ h => h) (fun _ _ => rfl) hr _ hs, by simp [SV.denL]⟩
  rw [hs1] at h2
  rcases h2.2 with ⟨rfl, hx⟩ | ⟨g, cap, cur, rfl, _, hh, hnc, hcm, hcs, htk⟩
  · have hxs : xs = [] := List.eq_nil_of_length_eq_zero hx
    subst hxs
    refine fin nilHd os ⟨by simp [hdIn, nilHd], by simp [rdH, nilHd], .inl rfl, fun _ _ _ => rfl, fun _ h => h, fun _ h => .inl h, hF.nodup⟩ rfl (by simp [Hd.ok, nilHd, maxLen]) ⟨hF.rd, hF.nodup, fun k => ?_⟩
    constructor
    · rintro (h | h)
      · exact (hF.foot k).1 h
      · have := (h4 k).1 h; simp [Value.ownBlock] at this
    · intro h; exact .inl ((hF.foot k).2 h)
  · have hFj : F j g := (h4 g).2 rfl
    have hgn : g ∉ os.map (·.1) := fun hm => hM.apart j i g hjl hil hne hFj ((hF.foot g).2 hm)
    have hgl : lookN os g = none := by
      cases hl : lookN os g with
      | none => rfl
      | some u => exact absurd (lookN_some_key.1 (by rw [hl]; simp)) hgn
    rw [Nat.mul_one] at hcs htk
    refine fin ⟨some g, 0, xs.length, cap⟩ ((g, (cap, xs)) :: os) ⟨?_, ?_, .inr ⟨g, rfl, hgl⟩, ?_, ?_, ?_, ?_⟩ rfl ⟨hnc, hcm, fun e => by simp at e⟩ ⟨?_, ?_, ?_⟩
    · exact ⟨cap, xs, by simp [lookN], by simp, by simp, hnc⟩
    · simp [rdH, lookN, nilHd]
    · intro g2 _ hg2
      have : ¬ g = g2 := fun e => by subst e; exact hg2 hgl
      simp [lookN, this]
    · intro g2 hg2
      simp only [lookN]
      split
      · simp
      · exact hg2
    · intro g2 hg2
      simp only [lookN] at hg2
      split at hg2
      · rename_i e; right; rw [e]
      · exact .inl hg2
    · simp only [List.map_cons, List.nodup_cons]; exact ⟨hgn, hF.nodup⟩
    · intro b n ys hm
      rcases List.mem_cons.1 hm with e1 | hm
      · cases e1
        exact ⟨cur, hh, by rw [hs1]; omega, hnc, by rw [hs1, Nat.mul_one, htk]; exact h3⟩
      · exact hF.rd b n ys hm
    · simp only [List.map_cons, List.nodup_cons]; exact ⟨hgn, hF.nodup⟩
    · intro k
      rw [hF.foot k, h4 k]
      simp only [Value.ownBlock, Option.some.injEq, List.map_cons, List.mem_cons]
      constructor
      · rintro (h | h)
        · exact .inr h
        · exact .inl h.symm
      · rintro (h | h)
        · exact .inr h.symm
        · exact .inl h
end

/-! ### An own block taken in -/
def adF (T : TypeId) (b : Nat) : Nat → SV
  | 0 => .adr T (some b)
  | off + 1 => .fp T b 0 0 (off + 1)
def St.adB (S : St) (q i : Nat) (T : TypeId) (t : Ty) (b : Nat) (os' : List (Nat × (Nat × List t.den))) : St :=
  { S.subP q (adF T b) with res := ((S.res.map (Res.subP q (adF T b))).set q .gone).set i (.fam T t os') }

section
variable {cx : Cx} {S : St} {w : World} {a : Act} {sv : List Act}

theorem Ok.adB {ss : List SV} {vs0 : List Value} (h : Ok cx S a w sv ss vs0) {q i : Nat} {T : TypeId} {t : Ty} {cs : List SV} {y : t.den} {os : List (Nat × (Nat × List t.den))} (hq : S.res[q]? = some (.blk T cs)) (hi : S.res[i]? = some (.fam T t os)) (him : implode t cs = some (y, [])) :
    ∃ b, lookN os b = none ∧ Ok cx (S.adB q i T t b ((b, (1, [y])) :: os)) a w sv (SV.subPL q (adF T b) ss) vs0 := by
  obtain ⟨ρ, I, F, hM, hf, hs, hd⟩ := h
  have hql := (List.getElem?_eq_some_iff.1 hq).1
  have hil := (List.getElem?_eq_some_iff.1 hi).1
  have hne : q ≠ i := fun e => by subst e; rw [hq] at hi; cases hi
  obtain ⟨b, vs, h1, h2, h3, h4⟩ := hM.holds _ _ hq
  obtain ⟨hroot, hF⟩ := hM.holds _ _ hi
  have hgn : b ∉ os.map (·.1) := fun hm => hM.apart q i b hql hil hne ((h4 b).2 rfl) ((hF.foot b).2 hm)
  have hgl : lookN os b = none := by
    cases hl : lookN os b with
    | none => rfl
    | some u => exact absurd (lookN_some_key.1 (by rw [hl]; simp)) hgn
  obtain ⟨c1, c2, hvs, hRd, hnil⟩ := implode_den t h3 him
  unfold SV.denL at hnil
  subst hnil
  rw [List.append_nil] at hvs
  subst hvs
  have hlen := Rd.length t hRd
  have hfd : ∀ b' off, ρ[q]? = some (.pointer (some ⟨b', 0, none⟩)) → SV.den ρ I w (adF T b off) (.pointer (some ⟨b', off, none⟩)) := by
    intro b' off hb
    rw [h1] at hb
    simp only [Option.some.injEq, Value.pointer.injEq, Addr.mk.injEq, and_true] at hb
    subst hb
    cases off with
    | zero => simp only [adF]; unfold SV.den; rfl
    | succ n => simp only [adF]; unfold SV.den; simp
  have hF' : FamOk I w T t ((b, (1, [y])) :: os) (fun k => F i k ∨ F q k) := by
    refine ⟨fun b2 n xs hm => ?_, ?_, fun k => ?_⟩
    · rcases List.mem_cons.1 hm with e1 | hm
      · cases e1
        refine ⟨_, h2, by simp [hlen], by simp, ?_⟩
        simp only [List.length_singleton, Nat.one_mul]
        rw [show List.take t.sz vs.toArray.toList = vs by rw [← hlen]; simp]
        exact ⟨vs, [], by simp, hRd, rfl⟩
      · exact hF.rd b2 n xs hm
    · simp only [List.map_cons, List.nodup_cons]; exact ⟨hgn, hF.nodup⟩
    · rw [hF.foot k, h4 k]
      simp only [List.map_cons, List.mem_cons]
      constructor
      · rintro (h | h)
        · exact .inr h
        · exact .inl h
      · rintro (h | h)
        · exact .inr h
        · exact .inl h
  have hM' := hM.move hil hql hne (.fam T t ((b, (1, [y])) :: os)) (Res.subP q (adF T b)) (fun m x _ hm hx hh => Res.holdsP hfd x hh) ⟨hroot, hF'⟩
  exact ⟨b, hgl, ρ, I, _, hM', hf.subP hfd, StkOk.subP hfd _ hs, SV.denL_subP hfd ss hd⟩
end

/-! ### What is put into a map, or into a block: its rows are taken in, or let go -/
def takeIn (v : St → SV) : Nat → St → (St → Prop) → Prop
  | 0, S, k => k S
  | n + 1, S, k => match SV.rowIn (v S) with
    | none => k S
    | some j => match S.res[j]? with
      | some (.row e t xs) => match lastFam e 0 S.res none with
        | none => takeIn v n (S.frz j t xs) k
        | some i => match S.res[i]? with
          | some (.fam e' t' os) => match Nat.beq e' e, decEq t' t, Nat.beq t.sz 1 with
            | true, .isTrue h, true => ∀ hd os', AppPost os nilHd (h ▸ xs) hd os' → takeIn v n (S.adR j i e' t' hd os') k
            | _, _, _ => False
          | _ => False
      | _ => k S

def cellsAt (q : Nat) (S : St) : SV := match S.res[q]? with
  | some (.blk _ cs) => .agg cs
  | _ => .any

/-- A value that is to be put into a map: what it points to is taken in. -/
def takeV (v : St → SV) (S : St) (k : St → Prop) : Prop :=
  match v S with
  | .ptr q off => match S.res[q]?, off with
    | some (.blk T _), 0 => match lastFam T 0 S.res none with
      | none => k S
      | some i => takeIn (cellsAt q) 8 S fun S => match S.res[q]?, S.res[i]? with
        | some (.blk T' cs), some (.fam T2 t os) => match Nat.beq T2 T', implode t cs with
          | true, some (y, []) => ∀ b, lookN os b = none → k (S.adB q i T2 t b ((b, (1, [y])) :: os))
          | _, _ => False
        | _, _ => False
    | _, _ => k S
  | _ => takeIn v 8 S k

section
variable {cx : Cx} {S : St} {w : World} {a : Act} {sv : List Act}

theorem takeIn_ok (v : St → SV) : (n : Nat) → {S : St} → {k : St → Prop} → Ok cx S a w sv [] [] → takeIn v n S k → ∃ S', Ok cx S' a w sv [] [] ∧ k S'
  | 0, S, k, h, hk => ⟨S, h, hk⟩
  | n + 1, S, k, h, hk => by
    unfold takeIn at hk
    split at hk
    · exact ⟨S, h, hk⟩
    · rename_i j hj
      split at hk
      · rename_i e t xs hr
        split at hk
        · have := h.frz hr
          exact takeIn_ok v n this hk
        · rename_i i hl
          split at hk
          · rename_i e' t' os hi
            split at hk
            · rename_i h0 b1 hteq b2
              obtain rfl : e' = e := Nat.eq_of_beq_eq_true b1
              subst h0
              obtain ⟨hd, os', h1, h2⟩ := h.adR hr hi (Nat.eq_of_beq_eq_true b2)
              exact takeIn_ok v n h2 (hk hd os' h1)
            · exact hk.elim
          · exact hk.elim
      · exact ⟨S, h, hk⟩

theorem takeV_ok {v : St → SV} {k : St → Prop} (h : Ok cx S a w sv [] []) (hk : takeV v S k) : ∃ S', Ok cx S' a w sv [] [] ∧ k S' := by
  unfold takeV at hk
  split at hk
  · split at hk
    · split at hk
      · exact ⟨S, h, hk⟩
      · rename_i i hl
        obtain ⟨S1, h1, h2⟩ := takeIn_ok _ 8 h hk
        split at h2
        · rename_i T' cs T2 t os hq hi
          split at h2
          · rename_i y b1 him
            obtain rfl : T2 = T' := Nat.eq_of_beq_eq_true b1
            obtain ⟨b, g1, g2⟩ := h1.adB hq hi him
            exact ⟨_, g2, h2 b g1⟩
          · exact h2.elim
        · exact h2.elim
    · exact ⟨S, h, hk⟩
  · exact takeIn_ok v 8 h hk
end

/-! ### Appending -/
def sappendH (P : Program) (S : St) (t t' : TypeId) (e' : TypeId) (h : Hd) (x : SV) (k : SV → St → Prop) : Prop :=
  match Nat.beq t t', P.underlying t with
  | true, some (.slice e) => match P.info? e, findFam e 0 S.res with
    | some inf, some i => match inf.zero, S.res[i]? with
      | some z, some (.fam T ty os) => match Nat.beq T e, Nat.beq z.cells.size inf.size, Nat.ble 1 inf.bytes, Nat.beq inf.size 1, Nat.beq ty.sz 1, sdata S ty x with
        | true, true, true, true, true, some ys => HdIn os h ∧ ((h.len + ys.length) * inf.bytes ≤ 140737488355328 ∧ ∀ h' os', AppPost os h ys h' os' → k (.hd e' h') { S with res := S.res.set i (.fam T ty os') })
        | _, _, _, _, _, _ => False
      | _, _ => False
    | _, _ => False
  | _, _ => False

section
variable {P : Program} {cx : Cx} {S : St} {ρ : List Value} {I : Nat → Prop} {F : Nat → Nat → Prop} {w : World} {a : Act} {sv : List Act}

theorem sappendH_sound {s : Operand} {e' : TypeId} {h : Hd} (hok : Ok cx S a w sv [.hd e' h] [a.eval s]) {o : Oper} {c : Call} {x : Operand} {t t' : TypeId} (ho : o.op = .call c) (hc : c.callee = .builtin .append) (hargs : c.args.toList = [s, x]) (htys : c.argTypes.toList = [t, t'])
    {k : SV → St → Prop} (hk : sappendH P S t t' e' h (S.fr.ev x) k) : EffOk P cx sv a w o k := by
  have hae : c.args = #[s, x] := by apply Array.ext'; simpa using hargs
  have hte : c.argTypes = #[t, t'] := by apply Array.ext'; simpa using htys
  obtain ⟨ρ, I, F, hM, hf, hs, hs0⟩ := hok
  unfold SV.denL at hs0
  obtain ⟨_, _, e0, hsd0, _⟩ := hs0
  simp only [List.cons.injEq] at e0
  obtain ⟨rfl, _⟩ := e0
  unfold SV.den at hsd0
  obtain ⟨hse, hhok⟩ := hsd0
  unfold sappendH at hk
  split at hk
  rotate_left
  · exact hk.elim
  rename_i e htt hu
  obtain rfl : t = t' := Nat.eq_of_beq_eq_true htt
  split at hk
  rotate_left
  · exact hk.elim
  rename_i inf i hi hfi
  split at hk
  rotate_left
  · exact hk.elim
  rename_i z T ty os hz hr
  split at hk
  rotate_left
  · exact hk.elim
  rename_i ys b0 b1 b2 b3 b4 hdat
  obtain rfl : T = e := Nat.eq_of_beq_eq_true b0
  have hzs : z.cells.size = inf.size := Nat.eq_of_beq_eq_true b1
  have hb1 : 1 ≤ inf.bytes := Nat.le_of_ble_eq_true b2
  have hi1 : inf.size = 1 := Nat.eq_of_beq_eq_true b3
  have ht1 : ty.sz = 1 := Nat.eq_of_beq_eq_true b4
  obtain ⟨⟨hin⟩, hbytes, hk⟩ := hk
  have hil := (List.getElem?_eq_some_iff.1 hr).1
  obtain ⟨hroot, hF⟩ := hM.holds _ _ hr
  obtain ⟨A, cc, news, hxv, hlc, hcm, hrn, hsrc⟩ := sdata_src hM (Fr.ev_den hf x) hdat
  obtain ⟨h', os', w', F', hrun, hok', hap, hF', hfr, hsize, hos, htape, hout, hnew⟩ := run_appH (P := P) hF ht1 (fun k hk => hM.lt i k hil hk) (fun k hk => hM.notI i k hil hk) hM.Ilt (t := t) (rt := o.type) hu hi hz hzs hi1 hb1 hhok hin (A := A) (c := cc) hrn (fun hne => hsrc hne) hbytes
  have hsame : ∀ k, I k → w'.heap[k]? = w.heap[k]? := fun k hk => hfr k (hM.Ilt k hk) (fun hF => hM.notI i k hil hF hk)
  have hM' := Mem.change (w' := w') (ρ' := ρ) hM hil (.fam T ty os') F' id rfl hM.ones (fun k hk hnf => hfr k hk hnf) hsize hos htape hout hnew
    (fun j y hji hy hh => Res.keep (fun _ _ h => h) (fun _ h => h) hsame (fun k hk => hfr k (hM.lt j k (List.getElem?_eq_some_iff.1 hy).1 hk) (fun hF => hM.apart j i k (List.getElem?_eq_some_iff.1 hy).1 hil hji hk hF)) y hh) ⟨hroot, hF'⟩
  rw [List.map_id] at hM'
  refine ⟨.value (hdV h'), hdV h', w', .hd e' h', { S with res := S.res.set i (.fam T ty os') }, ?_, .inl rfl, ⟨ρ, I, _, hM', hf.keep (fun _ _ h => h) (fun _ h => h) hsame, StkOk.keep (fun _ _ h => h) (fun _ h => h) hsame _ hs, ?_⟩, hk h' os' hap⟩
  · simp only [execOp, ho, resolve, hc, invoke, builtin, Sem.run_bind, Sem.run_pure, Result.andThen_ok, hae, hte, List.map_toArray, List.map_cons, List.map_nil, hse, hxv, hrun]
  · unfold SV.denL SV.den
    exact ⟨_, [], rfl, ⟨rfl, hok'⟩, by simp [SV.denL]⟩
end

/-! ### A part of a block cleared -/
def clrH {α : Type _} (os : List (Nat × (Nat × List α))) (h : Hd) (y : α) : List (Nat × (Nat × List α)) := match h.b with
  | some g => match lookN os g with
    | some e => putN os g (e.1, e.2.take h.off ++ List.replicate h.len y ++ e.2.drop (h.off + h.len))
    | none => os
  | none => os
theorem putN_same {α : Type _} : (l : List (Nat × α)) → {k : Nat} → {v : α} → lookN l k = some v → putN l k v = l
  | [], _, _, h => by simp [lookN] at h
  | x :: l, k, v, h => by
    unfold lookN at h
    unfold putN
    split at h
    · rename_i e; rw [if_pos e]; cases h; subst e; rfl
    · rename_i e; rw [if_neg e, putN_same l h]
def sclearH (P : Program) (S : St) (t : TypeId) (h : Hd) (k : SV → St → Prop) : Prop :=
  match P.underlying t with
  | some (.slice e) => match zcells P e, findFam e 0 S.res with
    | some zs, some i => match S.res[i]? with
      | some (.fam T ty os) => match Nat.beq T e, Nat.beq ty.sz 1, implode ty zs with
        | true, true, some (y, []) => HdIn os h ∧ k (.tup []) { S with res := S.res.set i (.fam T ty (clrH os h y)) }
        | _, _, _ => False
      | _ => False
    | _, _ => False
  | _ => False

section
variable {P : Program} {cx : Cx} {S : St} {ρ : List Value} {I : Nat → Prop} {F : Nat → Nat → Prop} {w : World} {a : Act} {sv : List Act}
theorem sclearH_sound (h : Ok cx S a w sv [] []) {o : Oper} {c : Call} {t : TypeId} {x : Operand} {e' : TypeId} {hh : Hd} (ho : o.op = .call c) (hc : c.callee = .builtin .clear) (hargs : c.args.toList = [x]) (htys : c.argTypes.toList = [t]) (hx : S.fr.ev x = .hd e' hh)
    {k : SV → St → Prop} (hk : sclearH P S t hh k) : EffOk P cx sv a w o k := by
  have hae : c.args = #[x] := by apply Array.ext'; simpa using hargs
  have hte : c.argTypes = #[t] := by apply Array.ext'; simpa using htys
  have hrun : ∀ {v' : Value} {w' : World}, (Builtin.clear_ #[t] o.type #[a.eval x]).run P w = .ok v' w' → (execOp a.eval o).run P w = .ok (.value v') w' := by
    intro v' w' hr
    simp only [execOp, ho, resolve, hc, invoke, builtin, Sem.run_bind, Sem.run_pure, Result.andThen_ok, hae, hte, List.map_toArray, List.map_cons, List.map_nil, hr]
  obtain ⟨ρ, I, F, hM, hf, hs, _⟩ := h
  unfold sclearH at hk
  split at hk
  rotate_left
  · exact hk.elim
  rename_i e hu
  split at hk
  rotate_left
  · exact hk.elim
  rename_i zs i hz hfi
  split at hk
  rotate_left
  · exact hk.elim
  rename_i T ty os hr
  split at hk
  rotate_left
  · exact hk.elim
  rename_i y b0 b1 him
  obtain rfl : T = e := Nat.eq_of_beq_eq_true b0
  have ht1 : ty.sz = 1 := Nat.eq_of_beq_eq_true b1
  obtain ⟨⟨hin⟩, hk⟩ := hk
  have hil := (List.getElem?_eq_some_iff.1 hr).1
  obtain ⟨hroot, hF⟩ := hM.holds _ _ hr
  obtain ⟨z, hzr, rfl⟩ := zcells_run hz
  obtain ⟨c1, c2, hzc, hRd, hnil⟩ := implode_den ty (cSVs_den ρ I w z.cells.toList) him
  unfold SV.denL at hnil
  subst hnil
  rw [List.append_nil] at hzc
  subst hzc
  have hpd := Fr.ev_den hf x
  rw [hx] at hpd
  unfold SV.den at hpd
  obtain ⟨hv, hhok⟩ := hpd
  rcases Nat.eq_zero_or_pos hh.len with h0 | h0
  · have hsame : clrH os hh y = os := by
      unfold clrH
      split
      · split
        · rename_i g hb e hl
          have : e.2.take hh.off ++ List.replicate hh.len y ++ e.2.drop (hh.off + hh.len) = e.2 := by rw [h0]; simp
          rw [this]
          exact putN_same os hl
        · rfl
      · rfl
    rw [hsame] at hk
    have hset : S.res.set i (.fam T ty os) = S.res := by
      apply List.ext_getElem?
      intro j
      by_cases ej : j = i
      · subst ej; rw [List.getElem?_set_self hil, hr]
      · rw [List.getElem?_set_ne (by omega)]
    rw [hset] at hk
    refine ⟨.value (.tuple #[]), .tuple #[], w, .tup [], S, hrun ?_, .inl rfl, ⟨ρ, I, F, hM, hf, hs, ?_⟩, hk⟩
    · rw [hv, hdV, h0]
      cases (hh.b.map fun g => (⟨g, hh.off, none⟩ : Addr)) <;> simp [Builtin.clear_, run_underlying hu]
    · unfold SV.denL SV.den; exact ⟨_, [], rfl, ⟨[], rfl, by simp [SV.denL]⟩, by simp [SV.denL]⟩
  · obtain ⟨b, off, len, cap⟩ := hh
    simp only at h0
    cases b with
    | none => have : len = 0 := hin; omega
    | some g =>
    obtain ⟨n, xs, hl, i1, i2, i3⟩ := hin
    simp only at i1 i2 i3
    obtain ⟨cur, h1, h2, h3, h4⟩ := hF.rd g n xs (lookN_mem hl)
    rw [ht1, Nat.mul_one] at h2 h4
    have hzl := Rd.length ty hRd
    rw [ht1] at hzl
    obtain ⟨us, hus⟩ : ∃ us, (List.replicate len z.cells.toList).flatten = us := ⟨_, rfl⟩
    have hul : us.length = len := by rw [← hus, List.length_flatten, List.map_replicate, List.sum_replicate_nat, hzl, Nat.mul_one]
    have hone : ∀ u ∈ us, u.oneCell' = true := by
      intro u hu
      rw [← hus] at hu
      obtain ⟨l, hl, hul⟩ := List.mem_flatten.1 hu
      rw [List.eq_of_mem_replicate hl] at hul
      exact Rd.one ty hRd u hul
    have hst := run_storeCells_at (P := P) g off T us 0 cur w h1 (by omega) hone
    simp only [Nat.add_zero] at hst
    obtain ⟨w', hw'⟩ : ∃ w', w.setRow g (cur.toList.take off ++ us ++ cur.toList.drop (off + us.length)).toArray = w' := ⟨_, rfl⟩
    rw [hw'] at hst
    have hbF : F i g := (hF.foot g).2 (List.mem_map.2 ⟨_, lookN_mem hl, rfl⟩)
    have hother : ∀ k, k ≠ g → w'.heap[k]? = w.heap[k]? := fun k hk => by rw [← hw']; exact setRow_other w g k _ hk
    have hsame : ∀ k, I k → w'.heap[k]? = w.heap[k]? := fun m hm => hother m (fun e => hM.notI i m hil (by rw [e]; exact hbF) hm)
    have hnew : w'.heap[g]? = some (.cells (cur.toList.take off ++ us ++ cur.toList.drop (off + us.length)).toArray T (0, 0)) := by rw [← hw']; exact setRow_heap w g _ _ T _ h1
    have hcur : cur.toList.length = n := by simpa using h2
    have hclr : clrH os ⟨some g, off, len, cap⟩ y = putN os g (n, xs.take off ++ List.replicate len y ++ xs.drop (off + len)) := by
      simp only [clrH, hl]
    have hlen2 : (xs.take off ++ List.replicate len y ++ xs.drop (off + len)).length = xs.length := by
      simp only [List.length_append, List.length_take, List.length_replicate, List.length_drop]; omega
    have hFam : FamOk I w' T ty (clrH os ⟨some g, off, len, cap⟩ y) (F i) := by
      rw [hclr]
      refine ⟨fun b2 n2 xs2 hm => ?_, by rw [putN_keys]; exact hF.nodup, fun k => by rw [putN_keys]; exact hF.foot k⟩
      rcases putN_mem hF.nodup hm with e | ⟨hm, hne⟩
      · cases e
        refine ⟨_, hnew, by rw [ht1]; simp; omega, by rw [hlen2]; exact h3, ?_⟩
        rw [hlen2, ht1, Nat.mul_one]
        have hL : (cur.toList.take off ++ us ++ cur.toList.drop (off + us.length)).take xs.length = (cur.toList.take xs.length).take off ++ us ++ (cur.toList.take xs.length).drop (off + len) := by
          generalize cur.toList = L at *
          have e1 : (List.take xs.length L).take off = L.take off := by rw [List.take_take, Nat.min_eq_left (by omega)]
          rw [e1, List.append_assoc, List.append_assoc]
          have e2 : xs.length = (L.take off).length + (us.length + (xs.length - (off + us.length))) := by
            rw [List.length_take, Nat.min_eq_left (by omega)]; omega
          conv => lhs; rw [e2]
          rw [List.take_length_add_append, List.take_length_add_append, List.drop_take, hul]
        show RdL I w' ty _ (List.take xs.length (cur.toList.take off ++ us ++ cur.toList.drop (off + us.length)))
        rw [hL]
        have k1 := RdL.takeE ty off xs h4
        have k2 := RdL.dropE ty (off + len) xs h4
        rw [ht1, Nat.mul_one] at k1 k2
        have k3 := RdL.replicate ty y hRd len
        rw [hus] at k3
        exact RdL.append ty _ _ (RdL.append ty _ _ (RdL.keep (fun _ h => h) hsame ty _ k1) (RdL.keep (fun _ h => h) hsame ty _ k3)) (RdL.keep (fun _ h => h) hsame ty _ k2)
      · obtain ⟨cur2, k1, k2, k3, k4⟩ := hF.rd b2 n2 xs2 hm
        exact ⟨cur2, (hother b2 hne).trans k1, k2, k3, RdL.keep (fun _ h => h) hsame ty xs2 k4⟩
    have hM' := Mem.change (w' := w') (ρ' := ρ) hM hil (.fam T ty (clrH os ⟨some g, off, len, cap⟩ y)) (F i) id rfl hM.ones
      (fun m _ hnf => hother m (fun e => hnf (by rw [e]; exact hbF))) (by rw [← hw']; simp) (by rw [← hw']; rfl) (by rw [← hw']; rfl) (by rw [← hw']; rfl)
      (fun k hk => ⟨.inl hk, by rw [← hw']; simp; exact hM.lt i k hil hk⟩)
      (fun j' y' hji hy hh => Res.keep (fun _ _ h => h) (fun _ h => h) hsame (fun m hm => hother m (fun e => hM.apart j' i m (List.getElem?_eq_some_iff.1 hy).1 hil hji hm (by rw [e]; exact hbF))) y' hh)
      ⟨hroot, hFam⟩
    rw [List.map_id] at hM'
    refine ⟨.value (.tuple #[]), .tuple #[], w', .tup [], { S with res := S.res.set i (.fam T ty (clrH os ⟨some g, off, len, cap⟩ y)) }, hrun ?_, .inl rfl, ⟨ρ, I, _, hM', hf.keep (fun _ _ h => h) (fun _ h => h) hsame, StkOk.keep (fun _ _ h => h) (fun _ h => h) hsame _ hs, ?_⟩, hk⟩
    · rw [hv, hdV]
      obtain ⟨m, hm⟩ : ∃ m, len = m + 1 := ⟨len - 1, by omega⟩
      subst hm
      rw [← hus, ← zeroList] at hst
      simp [Builtin.clear_, run_underlying hu, hzr, hst]
    · unfold SV.denL SV.den; exact ⟨_, [], rfl, ⟨[], rfl, by simp [SV.denL]⟩, by simp [SV.denL]⟩
end

/-! ### Families to begin with -/
def famsOf (P : Program) : Nat → Ty → List (TypeId × Ty)
  | 0, _ => []
  | n + 1, t => match t with
    | .hd e => match tyOf P 20 e with
      | some te => [(e, te)]
      | none => []
    | .adr T => match tyOf P 20 T with
      | some tt => (T, tt) :: famsOf P n tt
      | none => []
    | .pair a b => famsOf P n a ++ famsOf P n b
    | _ => []
def pushFams : List (TypeId × Ty) → St → St
  | [], S => S
  | (T, t) :: l, S => pushFams l (S.push (.fam T t []))
theorem pushFams_ok {cx : Cx} {w : World} {a : Act} {sv : List Act} {ss : List SV} {vs : List Value} : (l : List (TypeId × Ty)) → {S : St} → Ok cx S a w sv ss vs → Ok cx (pushFams l S) a w sv ss vs
  | [], _, h => h
  | (T, t) :: l, _, h => pushFams_ok l (h.noFam T t)
/-- The families that a map's values want. -/
def mapFams (P : Program) (T : TypeId) : List (TypeId × Ty) := match P.underlying T with
  | some (.map _ et) => match tyOf P 20 et with
    | some vt => famsOf P 30 vt
    | none => []
  | _ => []
end Go.Proofs.Ytfdcmbaoekjkgaa.Gx
namespace Go.Proofs.Ytfdcmbaoekjkgaa.Gx
open Go.RowKit
set_option linter.unusedSimpArgs false
set_option linter.unusedVariables false

section
variable {P : Program} {cx : Cx} {S : St} {ρ : List Value} {I : Nat → Prop} {F : Nat → Nat → Prop} {w : World} {a : Act} {sv : List Act}

theorem run_app {t ty e : TypeId} {inf : TypeInfo} {z : Value} (ht : P.underlying t = some (.slice e)) (hi : P.info? e = some inf) (hz : inf.zero = some z) (hzs : z.cells.size = inf.size) (hsz : 0 < inf.size) (hb1 : 1 ≤ inf.bytes)
    {v : Value} {n : Nat} {xs : List Value} (hown : w.ownsRow 0 e inf.size v n xs) {A : Option Addr} {m c : Nat} {news : List Value} (hl : news.length = m * inf.size)
    (hsrc : m ≠ 0 → ∃ ad : Addr, A = some ad ∧ ∀ j u, news[j]? = some u → w.cell? (ad.add j) = some u) (h1 : ∀ u ∈ news, u.oneCell' = true) (hbytes : (n + m) * inf.bytes ≤ 140737488355328) :
    ∃ v' w', (Builtin.append_ #[t, t] ty #[v, .slice A m c]).run P w = .ok v' w' ∧ w'.ownsRow 0 e inf.size v' (n + m) (xs ++ news) ∧ w.grownBy w' v.ownBlock ∧
      (∀ k, v'.ownBlock = some k → v.ownBlock = some k ∨ w.heap.size ≤ k) ∧ v'.oneCell' = true := by
  have hnm : n + m ≤ 140737488355328 := Nat.le_trans (Nat.le_mul_of_pos_right _ hb1) hbytes
  have h63 : n + m ≤ maxLen := by simp only [maxLen]; omega
  by_cases hm : m = 0
  · subst hm
    have hn : news = [] := List.eq_nil_of_length_eq_zero (by simpa using hl)
    subst hn
    refine ⟨v, w, ?_, by simpa using hown, ⟨rfl, rfl, rfl, Nat.le_refl _, fun _ _ _ => rfl⟩, fun k hk => .inl hk, ?_⟩
    · obtain ⟨B, c', rfl, hle, _⟩ := ownsRow_len hown
      cases B <;> cases A <;> simp [Builtin.append_, run_underlying ht, Go.sizeOf, typeInfo, hi, Builtin.lenOf, Builtin.firstCells, loadCells, loadCellsFrom, storeCells, hle]
    · obtain ⟨B, c', rfl, hle, _⟩ := ownsRow_len hown
      rfl
  · obtain ⟨ad, rfl, hnews⟩ := hsrc hm
    obtain ⟨v', w', hr, ho, hg, _⟩ := run_append_own (P := P) w 0 t ty e inf z inf.size inf.bytes ht hi hz rfl rfl hzs hsz v n xs hown ad m c news hl hnews h1 h63 hbytes (Nat.zero_le _)
    have hone : v'.oneCell' = true := by obtain ⟨B, c', rfl, _⟩ := ownsRow_len ho; rfl
    refine ⟨v', w', hr, ho, hg, ?_, hone⟩
    rcases hown.2 with ⟨rfl, rfl⟩ | ⟨g, cap, cur, rfl, hbg, hgc, hnc, hcm, hcs, htake⟩
    · have hr2 := run_append_nil (P := P) w t ty e inf z ht hi hz ad m c news hl hnews (by omega) (by simp only [Nat.zero_add] at hnm; omega) (by have hb := hbytes; simp only [Nat.zero_add] at hb; omega)
      rw [hr] at hr2
      cases hr2
      intro k hk
      simp only [Value.ownBlock, Option.some.injEq] at hk
      omega
    · by_cases hroom : n + m ≤ cap
      · obtain ⟨w2, hr2, _⟩ := run_append_fits (P := P) w 0 t ty e inf inf.size ht hi rfl g n cap xs hown ad m c news hl hnews h1 hroom
        rw [hr] at hr2
        cases hr2
        intro k hk
        exact .inl hk
      · have holds : ∀ j u, xs[j]? = some u → w.cell? ((⟨g, 0, none⟩ : Addr).add j) = some u := hown.cells (g := g) rfl
        have hr2 := run_append_grow (P := P) w t ty e inf z ht hi hz ⟨g, 0, none⟩ n cap xs hown.1 holds ad m c news hl hnews (by omega) (by omega) (growslice_fits (by omega) hbytes)
        rw [hr] at hr2
        cases hr2
        intro k hk
        simp only [Value.ownBlock, Option.some.injEq] at hk
        omega

def St.grow (S : St) (i : Nat) (r : Res) : St := { S.sub i .any with res := (S.res.map (Res.sub i .any)).set i r }

def sappend (P : Program) (S : St) (t t' : TypeId) (s x : SV) (k : SV → St → Prop) : Prop :=
  match Nat.beq t t', P.underlying t with
  | true, some (.slice e) => match P.info? e with
    | some inf => match inf.zero with
      | some z => match Nat.beq z.cells.size inf.size, Nat.ble 1 inf.bytes with
        | true, true => (match s with
          | .row i => match S.res[i]? with
            | some (.row e' ty xs) => match Nat.beq e' e, Nat.beq inf.size ty.sz, sdata S ty x with
              | true, true, some ys => (xs.length + ys.length) * inf.bytes ≤ 140737488355328 ∧ k (.row i) (S.grow i (.row e' ty (xs ++ ys)))
              | _, _, _ => False
            | _ => False
          | .val (.slice none 0 0) => match tyOf P 20 e with
            | some ty => match Nat.beq inf.size ty.sz, sdata S ty x with
              | true, some ys => ys.length * inf.bytes ≤ 140737488355328 ∧ k (.row S.res.length) (S.push (.row e ty ys))
              | _, _ => False
            | none => False
          | _ => False)
        | _, _ => False
      | none => False
    | none => False
  | _, _ => False

theorem sappend_sound {s : Operand} {s0 : SV} (h : Ok cx S a w sv [s0] [a.eval s]) {o : Oper} {c : Call} {x : Operand} {t t' : TypeId} (ho : o.op = .call c) (hc : c.callee = .builtin .append) (hargs : c.args.toList = [s, x]) (htys : c.argTypes.toList = [t, t'])
    {k : SV → St → Prop} (hk : sappend P S t t' s0 (S.fr.ev x) k) : EffOk P cx sv a w o k := by
  have hae : c.args = #[s, x] := by apply Array.ext'; simpa using hargs
  have hte : c.argTypes = #[t, t'] := by apply Array.ext'; simpa using htys
  obtain ⟨ρ, I, F, hM, hf, hs, hs0⟩ := h
  unfold SV.denL at hs0
  obtain ⟨_, _, e0, hsd0, _⟩ := hs0
  simp only [List.cons.injEq] at e0
  obtain ⟨rfl, _⟩ := e0
  unfold sappend at hk
  split at hk
  · rename_i e htt hu
    obtain rfl : t = t' := Nat.eq_of_beq_eq_true htt
    split at hk
    · rename_i inf hi
      split at hk
      · rename_i z hz
        split at hk
        · rename_i b1 b2
          have hzs : z.cells.size = inf.size := Nat.eq_of_beq_eq_true b1
          have hb1 : 1 ≤ inf.bytes := Nat.le_of_ble_eq_true b2
          have hrun : ∀ {v1 v2 v' : Value} {w' : World}, a.eval s = v1 → a.eval x = v2 → (Builtin.append_ #[t, t] o.type #[v1, v2]).run P w = .ok v' w' → (execOp a.eval o).run P w = .ok (.value v') w' := by
            intro v1 v2 v' w' e1 e2 hr
            simp only [execOp, ho, resolve, hc, invoke, builtin, Sem.run_bind, Sem.run_pure, Result.andThen_ok, hae, hte, List.map_toArray, List.map_cons, List.map_nil, e1, e2, hr]
          split at hk
          · rename_i i
            split at hk
            · rename_i e' ty xs hres
              split at hk
              · rename_i ys b3 b4 hdat
                obtain rfl : e' = e := Nat.eq_of_beq_eq_true b3
                have hsz : inf.size = ty.sz := Nat.eq_of_beq_eq_true b4
                obtain ⟨hbytes, hk⟩ := hk
                have hil := (List.getElem?_eq_some_iff.1 hres).1
                have hsd := hsd0
                unfold SV.den at hsd
                obtain ⟨v, cells, h1, h2, h3, h4⟩ := hM.holds _ _ hres
                rw [hsd.1] at h1
                obtain hve : a.eval s = v := by simpa using h1
                obtain ⟨A, cc, news, hxv, hlc, hcm, hrn, hsrc⟩ := sdata_src hM (Fr.ev_den hf x) hdat
                have hln := RdL.length ty ys hrn
                obtain ⟨v', w', hr, ho', hg, hob, hone⟩ := run_app (P := P) (w := w) (t := t) (ty := o.type) hu hi hz hzs (by rw [hsz]; exact Ty.sz_pos ty) hb1 (by rw [hsz]; exact h2) (A := A) (m := ys.length) (c := cc) (news := news) (by rw [hsz]; exact hln)
                  (fun hne => hsrc (fun e => hne (by rw [e]; rfl))) (RdL.one ty ys hrn) hbytes
                rw [hsz] at ho'
                have hob2 : ∀ k, v.ownBlock = some k ↔ F i k := fun k => (h4 k).symm
                have hsameI : ∀ k, I k → w'.heap[k]? = w.heap[k]? := fun k hk => hg.block k (hM.Ilt k hk) (fun e => hM.notI i k hil ((h4 k).2 e.symm) hk)
                have hρ1 : ∀ (j : Nat) u, j ≠ i → ρ[j]? = some u → (ρ.set i v')[j]? = some u := fun j u hj hu => by rw [List.getElem?_set_ne (by omega)]; exact hu
                have hρ2 : ∀ (j : Nat) u, NoSl u → ρ[j]? = some u → (ρ.set i v')[j]? = some u := fun j u hn hj => by
                  refine hρ1 j _ (fun e => ?_) hj
                  subst e
                  rw [hsd.1, hve] at hj
                  obtain ⟨B, c', rfl, _⟩ := ownsRow_len h2
                  cases hj
                  exact hn _ _ _ rfl
                have hiρ : i < ρ.length := by rw [hM.len]; exact hil
                have hM' := Mem.change (w' := w') (ρ' := ρ.set i v') hM hil (.row e' ty (xs ++ ys)) (fun k => v'.ownBlock = some k) (Res.sub i .any) (by simp)
                  (fun j u hu => by
                    by_cases e : j = i
                    · subst e; rw [List.getElem?_set_self hiρ] at hu; cases hu; exact hone
                    · rw [List.getElem?_set_ne (by omega)] at hu; exact hM.ones j u hu)
                  (fun k hk hnf => hg.block k hk (fun e => hnf ((h4 k).2 e.symm))) hg.size hg.os hg.tape hg.output
                  (fun k hk => ⟨(hob k hk).elim (fun h => .inl ((h4 k).2 h)) .inr, (ho'.lt k hk).2⟩)
                  (fun j y hji hy hh => Res.keepS hji hρ1 hρ2 (fun _ h => h) hsameI (fun _ _ => by simp [SV.den]) (fun k hk => hg.block k (hM.lt j k (List.getElem?_eq_some_iff.1 hy).1 hk) (fun e => hM.apart j i k (List.getElem?_eq_some_iff.1 hy).1 hil hji hk ((h4 k).2 e.symm))) y hh)
                  ⟨v', cells ++ news, List.getElem?_set_self hiρ, by rw [List.length_append]; exact ho', RdL.append ty _ _ (RdL.keep (fun _ h => h) hsameI ty _ h3) (RdL.keep (fun _ h => h) hsameI ty _ hrn), fun k => Iff.rfl⟩
                refine ⟨.value v', v', w', .row i, S.grow i (.row e' ty (xs ++ ys)), hrun hve hxv hr, .inl rfl, ⟨ρ.set i v', I, _, hM', ?_, ?_, ?_⟩, hk⟩
                · exact hf.sub hρ1 hρ2 (fun _ h => h) hsameI (fun _ _ => by simp [SV.den])
                · exact StkOk.sub hρ1 hρ2 (fun _ h => h) hsameI (fun _ _ => by simp [SV.den]) _ hs
                · unfold SV.denL SV.den
                  exact ⟨v', [], rfl, ⟨List.getElem?_set_self hiρ, own_ne ho'⟩, by simp [SV.denL]⟩
              · exact hk.elim
            · exact hk.elim
          · split at hk
            · rename_i ty hty
              split at hk
              · rename_i ys b4 hdat
                have hsz : inf.size = ty.sz := Nat.eq_of_beq_eq_true b4
                obtain ⟨hbytes, hk⟩ := hk
                have hsd := hsd0
                unfold SV.den at hsd
                obtain ⟨A, cc, news, hxv, hlc, hcm, hrn, hsrc⟩ := sdata_src hM (Fr.ev_den hf x) hdat
                have hln := RdL.length ty ys hrn
                have hnil : w.ownsRow 0 e inf.size (.slice none 0 0) 0 [] := World.ownsRow_nil w 0 e inf.size
                obtain ⟨v', w', hr, ho', hg, hob, hone⟩ := run_app (P := P) (w := w) (t := t) (ty := o.type) hu hi hz hzs (by rw [hsz]; exact Ty.sz_pos ty) hb1 hnil (A := A) (m := ys.length) (c := cc) (news := news) (by rw [hsz]; exact hln)
                  (fun hne => hsrc (fun e => hne (by rw [e]; rfl))) (RdL.one ty ys hrn) (by rw [Nat.zero_add]; exact hbytes)
                rw [hsz, Nat.zero_add, List.nil_append] at ho'
                have hb : Below w.heap.size w w' := ⟨hg.os, hg.tape, hg.output, hg.size, fun k hk => hg.block k hk (by simp [Value.ownBlock])⟩
                have hfresh : ∀ k, v'.ownBlock = some k → w.heap.size ≤ k := fun k hk => (hob k hk).elim (fun h => by simp [Value.ownBlock] at h) id
                have hsameI : ∀ k, I k → w'.heap[k]? = w.heap[k]? := fun k hk => hb.block k (hM.Ilt k hk)
                have hnew : (ρ ++ [v'])[S.res.length]? = some v' := by rw [getElem?_snoc, if_pos hM.len.symm]
                have hrow : Res.holds cx.lp (ρ ++ [v']) I w' S.res.length (fun k => v'.ownBlock = some k) (.row e ty ys) := ⟨v', news, hnew, ho', RdL.keep (fun _ h => h) hsameI ty _ hrn, fun k => Iff.rfl⟩
                have hM' : Mem cx (S.res ++ [.row e ty ys]) (ρ ++ [v']) I (fun j => if j = S.res.length then (fun k => v'.ownBlock = some k) else F j) w' := by
                  refine ⟨by simp [hM.len], ?_, ?_, ?_, ?_, ?_, ?_, hM.I0, fun k hk => Nat.lt_of_lt_of_le (hM.Ilt k hk) hb.size, hM.Inew, Nat.le_trans hM.size hb.size, hb.os.trans hM.os, hb.tape.trans hM.tape, hb.output.trans hM.output, fun k hk hm => (hb.block k (by have := hM.size; omega)).trans (hM.frame k hk hm)⟩
                  · intro j u hj
                    rw [getElem?_snoc] at hj
                    split at hj
                    · cases hj; exact hone
                    · exact hM.ones j u hj
                  · intro j r hj
                    rw [getElem?_snoc] at hj
                    by_cases e1 : j = S.res.length
                    · rw [if_pos e1] at hj; cases hj; simp only [e1, if_true]; exact hrow
                    · rw [if_neg e1] at hj
                      simp only [e1, if_false]
                      exact Res.keep (fun _ _ h => rho_snoc h) (fun _ h => h) hsameI (fun k hk => hb.block k (hM.lt j k (List.getElem?_eq_some_iff.1 hj).1 hk)) r (hM.holds j r hj)
                  · intro j j' k hj hj' hne g1 g2
                    simp at hj hj'
                    by_cases e1 : j = S.res.length
                    · rw [if_pos e1] at g1; rw [if_neg (by omega)] at g2
                      have := hM.lt j' k (by omega) g2; have := hfresh k g1; omega
                    · rw [if_neg e1] at g1
                      by_cases e2 : j' = S.res.length
                      · rw [if_pos e2] at g2
                        have := hM.lt j k (by omega) g1; have := hfresh k g2; omega
                      · rw [if_neg e2] at g2; exact hM.apart j j' k (by omega) (by omega) hne g1 g2
                  · intro j k hj g1
                    simp at hj
                    by_cases e1 : j = S.res.length
                    · rw [if_pos e1] at g1; exact (ho'.lt k g1).2
                    · rw [if_neg e1] at g1; exact Nat.lt_of_lt_of_le (hM.lt j k (by omega) g1) hb.size
                  · intro j k hj g1 g2
                    simp at hj
                    by_cases e1 : j = S.res.length
                    · rw [if_pos e1] at g1; have := hM.Ilt k g2; have := hfresh k g1; omega
                    · rw [if_neg e1] at g1; exact hM.notI j k (by omega) g1 g2
                  · intro j k hj g1
                    simp at hj
                    by_cases e1 : j = S.res.length
                    · rw [if_pos e1] at g1; right; have := hfresh k g1; have := hM.size; omega
                    · rw [if_neg e1] at g1; exact hM.new j k (by omega) g1
                refine ⟨.value v', v', w', .row S.res.length, S.push (.row e ty ys), hrun hsd hxv hr, .inl rfl, ⟨ρ ++ [v'], I, _, hM', ?_, ?_, ?_⟩, hk⟩
                · exact hf.keep (fun _ _ h => rho_snoc h) (fun _ h => h) hsameI
                · exact StkOk.keep (fun _ _ h => rho_snoc h) (fun _ h => h) hsameI _ hs
                · unfold SV.denL SV.den
                  exact ⟨v', [], rfl, ⟨hnew, own_ne ho'⟩, by simp [SV.denL]⟩
              · exact hk.elim
            · exact hk.elim
          · exact hk.elim
        · exact hk.elim
      · exact hk.elim
    · exact hk.elim
  · exact hk.elim

def seff (P : Program) (S : St) (o : Oper) (k : SV → St → Prop) : Prop :=
  match o.op with
  | .alloc t => salloc P S t k
  | .box t x => sbox S t (S.fr.ev x) k
  | .store t p x => match S.fr.ev p with
    | .elt _ _ _ _ => sstoreE P S t (S.fr.ev p) (S.fr.ev x) k
    | .adr _ _ => takeV (fun S => S.fr.ev x) S fun S => sstoreF P S t (S.fr.ev p) (S.fr.ev x) k
    | .fp _ _ _ _ _ => takeV (fun S => S.fr.ev x) S fun S => sstoreF P S t (S.fr.ev p) (S.fr.ev x) k
    | _ => sstore P (cutOp S x) t ((cutOp S x).fr.ev p) ((cutOp S x).fr.ev x) k
  | .buildSlice t len parts => sbuildSlice P (fzOps (parts.toList.map (·.2)) 8 S) t len (parts.toList.map fun p => (p.1, (fzOps (parts.toList.map (·.2)) 8 S).fr.ev p.2)) k
  | .call c => match c.callee, c.args.toList, c.argTypes.toList with
    | .builtin .append, [s, x], [t, t'] => cutW (S.fr.ev s) S fun s0 S' => match s0 with
      | .hd e' h => sappendH P S' t t' e' h (S'.fr.ev x) k
      | s0 => sappend P S' t t' s0 (S'.fr.ev x) k
    | .builtin .delete, [m, key], [t, _] => smapdel P S t (S.fr.ev m) (S.fr.ev key) k
    | .builtin .clear, [x], [t] => match S.fr.ev x with
      | .hd _ h => sclearH P S t h k
      | _ => sclear P S t (S.fr.ev x) k
    | _, _, _ => False
  | .makeMap t r => match r with
    | none => smakemap P S t fun s S' => k s (pushFams (mapFams P t) S')
    | some r => match S.fr.ev r with
      | .int _ _ => smakemap P S t fun s S' => k s (pushFams (mapFams P t) S')
      | _ => False
  | .mapUpdate t m key x => takeV (fun S => S.fr.ev x) S fun S => smapset P S t (S.fr.ev m) (S.fr.ev key) (S.fr.ev x) k
  | .insert t m key x => takeV (fun S => S.fr.ev x) S fun S => smapset P S t (S.fr.ev m) (S.fr.ev key) (S.fr.ev x) k
  | .range t x => srange P S t (S.fr.ev x) k
  | .next x false => snext S (S.fr.ev x) k
  | _ => False

theorem effFams {o : Oper} {k : SV → St → Prop} (l : List (TypeId × Ty)) (h : EffOk P cx sv a w o fun s S' => k s (pushFams l S')) : EffOk P cx sv a w o k := by
  obtain ⟨r, v, w', s, S', h1, h2, h3, h4⟩ := h
  exact ⟨r, v, w', s, _, h1, h2, pushFams_ok l h3, h4⟩

theorem seff_sound (h : Ok cx S a w sv [] []) {o : Oper} {k : SV → St → Prop} (hk : seff P S o k) : EffOk P cx sv a w o k := by
  unfold seff at hk
  split at hk
  · rename_i t ho; exact salloc_sound h ho hk
  · rename_i t x ho; exact sbox_sound h ho hk
  · rename_i t p x ho
    split at hk
    · exact sstoreE_sound h ho hk
    · obtain ⟨S', h1, h2⟩ := takeV_ok h hk
      exact sstoreF_sound h1 ho h2
    · obtain ⟨S', h1, h2⟩ := takeV_ok h hk
      exact sstoreF_sound h1 ho h2
    · exact sstore_sound (cutOp_ok h x) ho hk
  · rename_i t len parts ho; exact sbuildSlice_sound (fzOps_ok _ 8 h) ho hk
  · rename_i c ho
    split at hk
    · rename_i s x t t' hc hargs htys
      obtain ⟨ρ, I, F, hM, hf, hs, _⟩ := h
      have h1 : Ok cx S a w sv [S.fr.ev s] [a.eval s] := ⟨ρ, I, F, hM, hf, hs, by unfold SV.denL; exact ⟨_, [], rfl, Fr.ev_den hf s, by simp [SV.denL]⟩⟩
      obtain ⟨s0, S', h2, h3⟩ := cutW_ok h1 hk
      split at h3
      · exact sappendH_sound h2 ho hc hargs htys h3
      · exact sappend_sound h2 ho hc hargs htys h3
    · rename_i m key t t' hc hargs htys
      exact smapdel_sound h ho hc hargs htys hk
    · rename_i x t hc hargs htys
      split at hk
      · rename_i e' hh hx
        exact sclearH_sound h ho hc hargs htys hx hk
      · exact sclear_sound h ho hc hargs htys hk
    · exact hk.elim
  · rename_i t r ho
    split at hk
    · exact effFams (mapFams P t) (smakemap_sound h (r := none) ho (fun r hr => by cases hr) hk)
    · rename_i r
      split at hk
      · rename_i kk n hr
        refine effFams (mapFams P t) (smakemap_sound h (r := some r) ho (fun r' hr' => ?_) hk)
        cases hr'
        obtain ⟨ρ, I, F, hM, hf, hs, _⟩ := h
        have := Fr.ev_den hf r
        rw [hr] at this
        unfold SV.den at this
        exact ⟨kk, n, this⟩
      · exact hk.elim
  · rename_i t m key x ho
    obtain ⟨S', h1, h2⟩ := takeV_ok h hk
    exact smapset_sound h1 (.inl ho) h2
  · rename_i t m key x ho
    obtain ⟨S', h1, h2⟩ := takeV_ok h hk
    exact smapset_sound h1 (.inr ho) h2
  · rename_i t x ho; exact srange_sound h ho hk
  · rename_i x ho; exact snext_sound h ho hk
  · exact hk.elim
end
end Go.Proofs.Ytfdcmbaoekjkgaa.Gx
namespace Go.Proofs.Ytfdcmbaoekjkgaa.Gx
open Go.RowKit
set_option linter.unusedSimpArgs false
set_option linter.unusedVariables false

/-- The fence that lets all in; r: the loop whose round it is, if any. -/
def Wf (r : Option Nat) : Fence := { Fence.wide with round := r }

theorem callsIn_Wf {r : Option Nat} {n : Nat} {P : Program} {f : FuncId} {args : Array Value} {w : World} {R : Ending → World → Prop} : CallsIn (Wf r) n P f args w R ↔ Calls P f args w R :=
  callsIn_wide (n := n)

abbrev Spec := List SV → St → (SV → St → Prop) → Prop

def SpecOk (P : Program) (f : FuncId) (sp : Spec) : Prop :=
  ∀ (cx : Cx) (S : St) (a : Act) (w : World) (sv : List Act) (ss : List SV) (vs : List Value) (K : SV → St → Prop), Ok cx S a w sv ss vs → sp ss S K →
    Calls P f vs.toArray w fun e w' => ∃ v s S', e = .returned v ∧ Ok cx S' a w' sv [s] [v] ∧ K s S'

/-- The same, of those surroundings alone that are told. -/
def SpecOkAt (P : Program) (φ : Cx → Prop) (f : FuncId) (sp : Spec) : Prop :=
  ∀ (cx : Cx) (S : St) (a : Act) (w : World) (sv : List Act) (ss : List SV) (vs : List Value) (K : SV → St → Prop), φ cx → Ok cx S a w sv ss vs → sp ss S K →
    Calls P f vs.toArray w fun e w' => ∃ v s S', e = .returned v ∧ Ok cx S' a w' sv [s] [v] ∧ K s S'

/-- What a call of yield comes to: a round. -/
def YOk (P : Program) (φ : Cx → Prop) (Y : Nat → Spec) : Prop :=
  ∀ (cx : Cx) (S : St) (a : Act) (w : World) (sv : List Act) (i : Nat) (ss : List SV) (v0 : Value) (vs : List Value) (k : SV → St → Prop), φ cx → Ok cx S a w sv (.yld i :: ss) (v0 :: vs) → Y i ss S k →
    ∃ (l : Nat) (r : Loop), v0 = .func (.yield l) #[] #[] ∧ w.heap[l]? = some (.loop r) ∧ vs.length = r.params.size ∧
      ∀ n, RoundIn (Wf none) n P l r.fn ((r.params.zip vs.toArray).foldl (fun t (p, v) => t.setIfInBounds p v) r.tmps) r.assign r.body w fun e w' => ∃ v s S', e = .returned v ∧ Ok cx S' a w' sv [s] [v] ∧ k s S'

/-- A function with a body. -/
def hasBody (P : Program) (f : FuncId) : Bool :=
  match P.funcs[f]? with
  | some fn => fn.body.isSome && !(fn.name == "runtime.NumGoroutine")
  | none => false

def Specs := FuncId → Option Spec

def Specs.ok (P : Program) (σ : Specs) : Prop := ∀ f sp, σ f = some sp → hasBody P f = true ∧ SpecOk P f sp

def vop (P : Program) (σ : Specs) (Y : Option (Nat → Spec)) (S : St) (o : Oper) (k : SV → St → Prop) : Prop :=
  match o.op with
  | .call c => match c.callee with
    | .value f => match S.fr.ev f with
      | .fn g caps => match σ g with
        | some sp => sp (c.args.toList.map S.fr.ev ++ caps) S k
        | none => False
      | .yld i => match Y with
        | some Y => Y i (c.args.toList.map S.fr.ev) S k
        | none => False
      | _ => False
    | .builtin .append => seff P S o k
    | .builtin .clear => seff P S o k
    | .builtin .delete => seff P S o k
    | .builtin _ => spure P S o (fun s => k s S)
    | _ => False
  | .alloc _ => seff P S o k
  | .box _ _ => seff P S o k
  | .store _ _ _ => seff P S o k
  | .buildSlice _ _ _ => seff P S o k
  | .makeMap _ _ => seff P S o k
  | .mapUpdate _ _ _ _ => seff P S o k
  | .insert _ _ _ _ => seff P S o k
  | .range _ _ => seff P S o k
  | .next _ _ => seff P S o k
  | _ => spure P S o (fun s => k s S)

/-- Slots whose truth is known as soon as it is there. -/
def litS (cs : List Nat) (d : Nat) (s : SV) : SV := match cs.any (Nat.beq d) with
  | true => match s with
    | .bool b => match b with
      | true => .lit true
      | false => .lit false
    | s => s
  | false => s
theorem litS_den {ρ : List Value} {I : Nat → Prop} {w : World} {cs : List Nat} {d : Nat} {s : SV} {v : Value} (h : SV.den ρ I w s v) : SV.den ρ I w (litS cs d s) v := by
  unfold litS
  split
  · split
    · rename_i b
      unfold SV.den at h
      cases b <;> (unfold SV.den; exact h)
    · exact h
  · exact h
def putS (S : St) (d : Option Tmp) (s : SV) : Option St :=
  match d with
  | none => some S
  | some d => match Nat.blt d S.fr.n with
    | true => some { S with fr := { S.fr with tm := (d, litS S.fr.cs d s) :: S.fr.tm } }
    | false => none

section
variable {P : Program} {σ : Specs} {Y : Option (Nat → Spec)} {φ : Cx → Prop} {cx : Cx} {S : St} {ρ : List Value} {I : Nat → Prop} {F : Nat → Nat → Prop} {w : World} {a : Act} {sv : List Act}

theorem putS_ok {S' : St} {d : Option Tmp} {s : SV} {v : Value} (h : Ok cx S a w sv [s] [v]) (hp : putS S d s = some S') : Ok cx S' (a.put d v) w sv [] [] := by
  obtain ⟨ρ, I, F, hM, hf, hs, hd⟩ := h
  unfold putS at hp
  split at hp
  · cases hp
    exact ⟨ρ, I, F, hM, hf, hs, by simp [SV.denL]⟩
  · rename_i d
    split at hp
    · rename_i hlt
      cases hp
      have hlt' : d < S.fr.n := Nat.lt_of_succ_le (Nat.le_of_ble_eq_true hlt)
      unfold SV.denL at hd
      obtain ⟨v', vs', e, h1, _⟩ := hd
      simp only [List.cons.injEq] at e
      obtain ⟨rfl, _⟩ := e
      refine ⟨ρ, I, F, hM, ⟨by simp [Act.put, hf.1], fun t => ?_, hf.2.2⟩, hs, by simp [SV.denL]⟩
      simp only [getT, Act.put]
      by_cases e : d = t
      · subst e
        simp only [beq_self_eq_true, cond_true]
        rw [Array.getD_eq_getD_getElem?, Array.getElem?_setIfInBounds_self_of_lt (by rw [hf.1]; exact hlt')]
        exact litS_den h1
      · have e' : (d == t) = false := by simpa using e
        simp only [e', cond_false]
        rw [Array.getD_eq_getD_getElem?, Array.getElem?_setIfInBounds_ne e, ← Array.getD_eq_getD_getElem?]
        exact hf.2.1 t
    · cases hp

theorem semAt_exec (r : Option Nat) (ρ : Operand → Value) (o : Oper) (h : ∀ c, o.op ≠ .defer c) : Oper.semAt r ρ o = execOp ρ o := by
  cases r with
  | none => rfl
  | some l => exact Oper.semAt_some l ρ o h

theorem hasBody_call {f : FuncId} (h : hasBody P f = true) (args : Array Value) (w : World) : (callFunc f args).run P w = .ok (.enter f args) w := by
  unfold hasBody at h
  split at h
  · rename_i fn hf
    simp only [Bool.and_eq_true, Bool.not_eq_true'] at h
    obtain ⟨h1, h2⟩ := h
    have h3 : fn.body.isNone = false := by cases hb : fn.body <;> simp_all
    have h4 : ¬ fn.name = "runtime.NumGoroutine" := by simpa using h2
    have h5 : ¬ fn.body = none := by intro e; rw [e] at h3; cases h3
    simp [callFunc, hf, h4, h5]
  · cases h

theorem vop_sound (hσ : σ.ok P) (hφ : φ cx) (hy : ∀ Y', Y = some Y' → YOk P φ Y') {r : Option Nat} {n : Nat} {o : Oper} {k : SV → St → Prop} (h : Ok cx S a w sv [] []) (hv : vop P σ Y S o k) {next : Act → World → Prop} {Q : Exit → Act → World → Prop}
    (hn : ∀ s S' v w', Ok cx S' a w' sv [s] [v] → k s S' → next (a.put o.dst v) w') : o.wpIn (Wf r) n P a w next Q := by
  have pureCase : (∀ c, o.op ≠ .defer c) → spure P S o (fun s => k s S) → o.wpIn (Wf r) n P a w next Q := by
    intro hnd hp
    obtain ⟨ρ, I, F, hM, hf, hs, _⟩ := h
    obtain ⟨v, s, h1, h2, h3⟩ := spure_sound hM hf hp
    refine ⟨fun _ _ => trivial, ?_⟩
    rw [semAt_exec _ _ _ hnd, h3 w (Same.refl w)]
    exact hn s S v w ⟨ρ, I, F, hM, hf, hs, by unfold SV.denL; exact ⟨v, [], rfl, h1, by simp [SV.denL]⟩⟩ h2
  have effCase : (∀ c, o.op ≠ .defer c) → seff P S o k → o.wpIn (Wf r) n P a w next Q := by
    intro hnd hp
    obtain ⟨rr, v, w', s, S', h1, h2, h3, h4⟩ := seff_sound h hp
    refine ⟨fun _ _ => trivial, ?_⟩
    rw [semAt_exec _ _ _ hnd, h1]
    rcases h2 with rfl | ⟨rfl, rfl⟩
    · exact hn s S' v w' h3 h4
    · exact hn s S' _ w' h3 h4
  unfold vop at hv
  split at hv
  · rename_i c ho
    have hnd : ∀ c, o.op ≠ .defer c := fun c' => by rw [ho]; simp
    split at hv
    · rename_i f hc
      split at hv
      · rename_i g caps hg
        split at hv
        · rename_i sp hsp
          obtain ⟨hb, hok⟩ := hσ g sp hsp
          obtain ⟨ρ, I, F, hM, hf, hs, _⟩ := h
          have hfd := Fr.ev_den hf f
          rw [hg] at hfd
          unfold SV.den at hfd
          obtain ⟨cv, hfe, hcv⟩ := hfd
          have hargs := SV.denL_append _ _ (Fr.evs_den hf c.args.toList) hcv
          have hcall := hok cx S a w sv _ _ k ⟨ρ, I, F, hM, hf, hs, hargs⟩ hv
          refine ⟨fun _ _ => trivial, ?_⟩
          rw [semAt_exec _ _ _ hnd]
          have hrun : (execOp a.eval o).run P w = .ok (.enter g (c.args.toList.map a.eval ++ cv).toArray) w := by
            have hres : (resolve a.eval c o.type).run P w = .ok { target := .fn (.func g) cv.toArray, args := c.args.map a.eval } w := by
              simp only [resolve, hc, hfe, Deferred.ofValue]
              simp
            simp only [execOp, ho, Sem.run_bind, hres, Result.andThen_ok, invoke]
            rw [hasBody_call hb]
            congr 2
            apply Array.ext'
            simp
          rw [hrun, Oper.uponIn_enter]
          refine ⟨fun hd => by simp [Wf, Fence.wide] at hd, ?_⟩
          rw [callsIn_Wf]
          refine hcall.mono ?_
          rintro e w' ⟨v, s, S', rfl, h1, h2⟩
          exact hn s S' v w' h1 h2
        · exact hv.elim
      · rename_i i hg
        split at hv
        · rename_i Y' 
          obtain ⟨ρ, I, F, hM, hf, hs, _⟩ := h
          have hfd := Fr.ev_den hf f
          rw [hg] at hfd
          have hok : Ok cx S a w sv (.yld i :: c.args.toList.map S.fr.ev) (a.eval f :: c.args.toList.map a.eval) := ⟨ρ, I, F, hM, hf, hs, by unfold SV.denL; exact ⟨_, _, rfl, hfd, Fr.evs_den hf _⟩⟩
          obtain ⟨l, rec, hfe, hl, hlen, hround⟩ := hy Y' rfl cx S a w sv i _ _ _ k hφ hok hv
          refine ⟨fun _ _ => trivial, ?_⟩
          rw [semAt_exec _ _ _ hnd]
          have hres : (resolve a.eval c o.type).run P w = .ok { target := .fn (.yield l) #[], args := c.args.map a.eval } w := by
            simp only [resolve, hc, hfe, Deferred.ofValue]
            simp
          have hlen' : (c.args.map a.eval).size = rec.params.size := by rw [← hlen]; simp
          have hmap : c.args.map a.eval = (c.args.toList.map a.eval).toArray := by apply Array.ext'; simp
          have hrun : (execOp a.eval o).run P w = .ok (.round l rec.fn ((rec.params.zip (c.args.toList.map a.eval).toArray).foldl (fun t (p, v) => t.setIfInBounds p v) rec.tmps) rec.assign rec.body) w := by
            simp only [execOp, ho, Sem.run_bind, hres, Result.andThen_ok, invoke]
            rw [run_yield hl hlen', hmap]
          rw [hrun, Oper.uponIn_round]
          refine ⟨fun hd => by simp [Wf, Fence.wide] at hd, ?_⟩
          have hround' : RoundIn (Wf r) (n - 1) P l rec.fn ((rec.params.zip (c.args.toList.map a.eval).toArray).foldl (fun t (p, v) => t.setIfInBounds p v) rec.tmps) rec.assign rec.body w
              (fun e w' => ∃ v s S', e = .returned v ∧ Ok cx S' a w' sv [s] [v] ∧ k s S') := hround (n - 1)
          refine hround'.mono ?_
          rintro e w' ⟨v, s, S', rfl, h1, h2⟩
          exact hn s S' v w' h1 h2
        · exact hv.elim
      · exact hv.elim
    · exact effCase hnd hv
    · exact effCase hnd hv
    · exact effCase hnd hv
    · exact pureCase hnd hv
    · exact hv.elim
  · rename_i t ho; exact effCase (fun c' => by rw [ho]; simp) hv
  · rename_i t x ho; exact effCase (fun c' => by rw [ho]; simp) hv
  · rename_i t x y ho; exact effCase (fun c' => by rw [ho]; simp) hv
  · rename_i t x y ho; exact effCase (fun c' => by rw [ho]; simp) hv
  · rename_i ho; exact effCase (fun c' => by rw [ho]; simp) hv
  · rename_i ho; exact effCase (fun c' => by rw [ho]; simp) hv
  · rename_i ho; exact effCase (fun c' => by rw [ho]; simp) hv
  · rename_i ho; exact effCase (fun c' => by rw [ho]; simp) hv
  · rename_i ho; exact effCase (fun c' => by rw [ho]; simp) hv
  · refine pureCase (fun c' e => ?_) hv
    rw [show spure P S o (fun s => k s S) = False by unfold spure; rw [e]] at hv
    exact hv

/-! ### Regions -/
inductive Gd where
  | yes
  | no
  | both (b want : Bool) (d : Tmp)
  | bad

def gdOf (ops : Array Oper) (S : St) (o : Oper) : Gd :=
  match o.guard with
  | none => .yes
  | some (j, want) => match (ops[j]?).bind (·.dst) with
    | none => .no
    | some d => match getT S.fr.tm d with
      | .lit b => match b, want with
        | true, true => .yes
        | false, false => .yes
        | _, _ => .no
      | .bool b => .both b want d
      | .undef => .no
      | _ => .bad

def vops (P : Program) (σ : Specs) (Y : Option (Nat → Spec)) (ops : Array Oper) : List Oper → St → (St → Prop) → Prop
  | [], S, K => K S
  | o :: rest, S, K => match gdOf ops S o with
    | .yes => vop P σ Y S o fun s S' => match putS S' o.dst s with
      | some S2 => vops P σ Y ops rest S2 K
      | none => False
    | .no => match putS S o.dst .undef with
      | some S2 => vops P σ Y ops rest S2 K
      | none => False
    | .both b want d =>
      (b = want → match putS S (some d) (.lit want) with
        | some S1 => vop P σ Y S1 o fun s S' => match putS S' o.dst s with
          | some S2 => vops P σ Y ops rest S2 K
          | none => False
        | none => False) ∧
      (b = !want → match putS S (some d) (.lit (!want)) with
        | some S1 => match putS S1 o.dst .undef with
          | some S2 => vops P σ Y ops rest S2 K
          | none => False
        | none => False)
    | .bad => False

theorem getD_bool {tm : Array Value} {d : Nat} {b : Bool} (h : tm.getD d Go.undef = .bool b) : tm[d]? = some (.bool b) := by
  rw [Array.getD_eq_getD_getElem?] at h
  cases hx : tm[d]? with
  | none => rw [hx] at h; simp [Go.undef] at h
  | some v => rw [hx] at h; simp at h; rw [h]

theorem put_same (a : Act) {d : Tmp} {v : Value} (h : a.tmps[d]? = some v) : a.put (some d) v = a := by
  unfold Act.put
  have : a.tmps.setIfInBounds d v = a.tmps := by
    apply Array.ext_getElem?
    intro i
    rw [Array.getElem?_setIfInBounds]
    split
    · rename_i e; subst e; split
      · exact h.symm
      · rename_i hlt; rw [Array.getElem?_eq_none (by omega)] at h; cases h
    · rfl
  simp only [this]

theorem vops_sound (hσ : σ.ok P) (hφ : φ cx) (hy : ∀ Y', Y = some Y' → YOk P φ Y') {r : Option Nat} {n : Nat} {ops : Array Oper} {Q : Exit → Act → World → Prop} (K : St → Prop) : (l : List Oper) → (S : St) → (a : Act) → (w : World) → Ok cx S a w sv [] [] → vops P σ Y ops l S K →
    (∀ S' a' w', Ok cx S' a' w' sv [] [] → K S' → Q .normal a' w') → wpListIn (Wf r) n P ops Q l a w
  | [], S, a, w, h, hv, hq => hq S a w h hv
  | o :: rest, S, a, w, h, hv, hq => by
    have goYes : ∀ S1, Ok cx S1 a w sv [] [] → Region.wanted o (yielded ops a.tmps) = true →
        (vop P σ Y S1 o fun s S' => match putS S' o.dst s with | some S2 => vops P σ Y ops rest S2 K | none => False) → wpListIn (Wf r) n P ops Q (o :: rest) a w := by
      intro S1 h1 hw hv1
      unfold wpListIn
      rw [if_pos hw]
      refine vop_sound hσ hφ hy h1 hv1 (fun s S' v w' h2 hk => ?_)
      split at hk
      · rename_i S2 hp
        exact vops_sound hσ hφ hy K rest S2 _ w' (putS_ok h2 hp) hk hq
      · exact hk.elim
    have goNo : ∀ S1, Ok cx S1 a w sv [] [] → Region.wanted o (yielded ops a.tmps) = false →
        (match putS S1 o.dst .undef with | some S2 => vops P σ Y ops rest S2 K | none => False) → wpListIn (Wf r) n P ops Q (o :: rest) a w := by
      intro S1 h1 hw hv1
      unfold wpListIn
      rw [if_neg (by rw [hw]; simp)]
      refine ⟨fun _ _ => trivial, ?_⟩
      split at hv1
      · rename_i S2 hp
        obtain ⟨ρ, I, F, hM, hf, hs, _⟩ := h1
        exact vops_sound hσ hφ hy K rest S2 _ w (putS_ok ⟨ρ, I, F, hM, hf, hs, by simp [SV.denL, SV.den]⟩ hp) hv1 hq
      · exact hv1.elim
    have h0 := h
    obtain ⟨ρ, I, F, hM, hf, hs, _⟩ := h
    unfold vops at hv
    split at hv
    · rename_i hg
      refine goYes S h0 ?_ hv
      unfold gdOf at hg
      unfold Region.wanted
      split at hg
      · rename_i e; rw [e]
      · rename_i j want e
        rw [e]
        split at hg
        · cases hg
        · rename_i d hd
          split at hg
          · rename_i b hb
            have := hf.2.1 d
            rw [hb] at this
            unfold SV.den at this
            have hy : yielded ops a.tmps j = some b := by simp [yielded, hd, getD_bool this]
            simp only [hy]
            split at hg <;> first | rfl | cases hg
          · cases hg
          · cases hg
          · cases hg
    · rename_i hg
      refine goNo S h0 ?_ hv
      unfold gdOf at hg
      unfold Region.wanted
      split at hg
      · cases hg
      · rename_i j want e
        rw [e]
        split at hg
        · rename_i hd
          have hy : yielded ops a.tmps j = none := by simp [yielded, hd]
          simp only [hy]; rfl
        · rename_i d hd
          split at hg
          · rename_i b hb
            have := hf.2.1 d
            rw [hb] at this
            unfold SV.den at this
            have hy : yielded ops a.tmps j = some b := by simp [yielded, hd, getD_bool this]
            simp only [hy]
            cases b <;> cases want <;> first | rfl | cases hg
          · cases hg
          · rename_i hb
            have := hf.2.1 d
            rw [hb] at this
            unfold SV.den at this
            have hy : yielded ops a.tmps j = none := by
              rw [Array.getD_eq_getD_getElem?] at this
              simp only [yielded, hd, Option.bind_some]
              cases hx : a.tmps[d]? with
              | none => rfl
              | some v => rw [hx] at this; simp at this; rw [this]; rfl
            simp only [hy]; rfl
          · cases hg
    · rename_i b want d hg
      have hbd : a.tmps[d]? = some (.bool b) ∧ yielded ops a.tmps (match o.guard with | some (j, _) => j | none => 0) = some b ∧ ∃ j, o.guard = some (j, want) := by
        unfold gdOf at hg
        split at hg
        · cases hg
        · rename_i j want' e
          split at hg
          · cases hg
          · rename_i d' hd
            split at hg
            · split at hg <;> cases hg
            · rename_i b' hb
              cases hg
              have := hf.2.1 d
              rw [hb] at this
              unfold SV.den at this
              exact ⟨getD_bool this, by simp [e, yielded, hd, getD_bool this], j, e⟩
            · cases hg
            · cases hg
      obtain ⟨h1, h2, j, hj⟩ := hbd
      rw [hj] at h2
      simp only at h2
      by_cases hbw : b = want
      · have hv1 := hv.1 hbw
        split at hv1
        · rename_i S1 hp
          refine goYes S1 ?_ ?_ hv1
          · have := putS_ok (a := a) (v := .bool b) (s := .lit want) ⟨ρ, I, F, hM, hf, hs, by simp [SV.denL, SV.den, hbw]⟩ hp
            rwa [put_same a h1] at this
          · unfold Region.wanted; rw [hj]; show (yielded ops a.tmps j == some want) = true; rw [h2, hbw]; simp
        · exact hv1.elim
      · have hbn : b = !want := by cases b <;> cases want <;> simp_all
        have hv1 := hv.2 hbn
        split at hv1
        · rename_i S1 hp
          refine goNo S1 ?_ ?_ hv1
          · have := putS_ok (a := a) (v := .bool b) (s := .lit (!want)) ⟨ρ, I, F, hM, hf, hs, by simp [SV.denL, SV.den, hbn]⟩ hp
            rwa [put_same a h1] at this
          · unfold Region.wanted; rw [hj]; show (yielded ops a.tmps j == some want) = false; rw [h2]; simp [hbw]
        · exact hv1.elim
    · exact hv.elim

theorem vregion_sound (hσ : σ.ok P) (hφ : φ cx) (hy : ∀ Y', Y = some Y' → YOk P φ Y') {r : Option Nat} {n : Nat} {id : Nat} {ops : Array Oper} {Q : Exit → Act → World → Prop} {K : St → Prop} (h : Ok cx S a w sv [] []) (hv : vops P σ Y ops ops.toList S K)
    (hq : ∀ S' a' w', Ok cx S' a' w' sv [] [] → K S' → Q .normal a' w') : (Code.region id ops false).wpIn (Wf r) n P Q a w :=
  wpIn_region_list (vops_sound hσ hφ hy K _ S a w h hv hq)
end
end Go.Proofs.Ytfdcmbaoekjkgaa.Gx
namespace Go.Proofs.Ytfdcmbaoekjkgaa.Gx
open Go.RowKit
set_option linter.unusedSimpArgs false
set_option linter.unusedVariables false

/-- What a function asks of its arguments, and what it gives. -/
abbrev PSpec := List SV → Option (Prop × SV)

def PSpecOk (P : Program) (f : FuncId) (q : PSpec) : Prop :=
  ∀ (ρ : List Value) (I : Nat → Prop) (w : World), (∀ k, I k → k < w.heap.size) → ∀ (ss : List SV) (vs : List Value) (pre : Prop) (s : SV), SV.denL ρ I w ss vs → q ss = some (pre, s) → pre →
    Calls P f vs.toArray w fun e w' => ∃ v, e = .returned v ∧ Below w.heap.size w w' ∧ SV.den [] (fun k => I k ∨ (w.heap.size ≤ k ∧ k < w'.heap.size)) w' s v

/-- Own rows among the arguments are let go. -/
def frzL : Nat → List SV → St → (List SV → St → Prop) → Prop
  | 0, ss, S, k => k ss S
  | n + 1, ss, S, k => match SV.rowInL ss with
    | none => k ss S
    | some i => match S.res[i]? with
      | some (.row _ t xs) => frzL n (SV.subL i (.rs t xs) ss) (S.frz i t xs) k
      | _ => False

def pspec (q : PSpec) : Spec := fun ss S k => frzL 8 ss S fun ss' S' => match q ss' with
  | some (pre, s) => pre ∧ k s S'
  | none => False

section
variable {P : Program} {cx : Cx} {S : St} {ρ : List Value} {I : Nat → Prop} {F : Nat → Nat → Prop} {w : World} {a : Act} {sv : List Act}

theorem frzL_ok : (n : Nat) → (ss : List SV) → (S : St) → (vs : List Value) → (k : List SV → St → Prop) → Ok cx S a w sv ss vs → frzL n ss S k → ∃ ss' S', Ok cx S' a w sv ss' vs ∧ k ss' S'
  | 0, ss, S, vs, k, h, hk => ⟨ss, S, h, hk⟩
  | n + 1, ss, S, vs, k, h, hk => by
    simp only [frzL] at hk
    split at hk
    · exact ⟨ss, S, h, hk⟩
    · rename_i i hi
      split at hk
      · rename_i e t xs hr
        exact frzL_ok n _ _ vs k (h.frz hr) hk
      · exact hk.elim

/-- A call that only computes: the state stays, the result comes. -/
theorem Ok.call {ss : List SV} {vs : List Value} (h : Ok cx S a w sv ss vs) {f : FuncId} {q : PSpec} (hq : PSpecOk P f q) {pre : Prop} {s : SV} (hqs : q ss = some (pre, s)) (hp : pre) :
    Calls P f vs.toArray w fun e w' => ∃ v, e = .returned v ∧ Ok cx S a w' sv [s] [v] := by
  obtain ⟨ρ, I, F, hM, hf, hs, hd⟩ := h
  refine (hq ρ I w hM.Ilt ss vs pre s hd hqs hp).mono ?_
  rintro e w' ⟨v, rfl, hb, hr⟩
  have hsame : ∀ k, I k → w'.heap[k]? = w.heap[k]? := fun k hk => hb.block k (hM.Ilt k hk)
  refine ⟨v, rfl, ρ, _, F, hM.below hb, hf.keep (fun _ _ h => h) (fun _ h => .inl h) hsame, StkOk.keep (fun _ _ h => h) (fun _ h => .inl h) hsame _ hs, ?_⟩
  unfold SV.denL
  exact ⟨v, [], rfl, SV.den_keep (fun i v h => by simp at h) (fun _ h => h) (fun _ _ => rfl) s hr, by simp [SV.denL]⟩

theorem pspec_ok {f : FuncId} {q : PSpec} (hq : PSpecOk P f q) : SpecOk P f (pspec q) := by
  intro cx S a w sv ss vs K h hk
  obtain ⟨ss', S', h', hk'⟩ := frzL_ok 8 ss S vs _ h hk
  split at hk'
  · rename_i pre s hqs
    refine (h'.call hq hqs hk'.1).mono ?_
    rintro e w' ⟨v, rfl, h2⟩
    exact ⟨v, s, S', rfl, h2, hk'.2⟩
  · exact hk'.elim

/-! ### Regions that draw their order -/
def SV.exact : SV → Bool
  | .int _ _ | .bool _ | .lit _ | .str _ | .adr _ _ => true
  | _ => false

theorem SV.exact_eq {s : SV} (he : s.exact = true) {ρ ρ' : List Value} {I I' : Nat → Prop} {w w' : World} {v v' : Value} (h : SV.den ρ I w s v) (h' : SV.den ρ' I' w' s v') : v = v' := by
  cases s with
  | int _ _ => unfold SV.den at h h'; rw [h, h']
  | bool _ => unfold SV.den at h h'; rw [h, h']
  | lit _ => unfold SV.den at h h'; rw [h, h']
  | str _ => unfold SV.den at h h'; rw [h.1, h'.1]
  | adr _ _ => unfold SV.den at h h'; rw [h, h']
  | _ => simp [SV.exact] at he

def PSpecs := FuncId → Option PSpec

def PSpecs.ok (P : Program) (π : PSpecs) : Prop := ∀ f q, π f = some q → hasBody P f = true ∧ PSpecOk P f q

def vqop (P : Program) (π : PSpecs) (S : St) (o : Oper) (k : SV → Prop) : Prop :=
  match o.op with
  | .call c => match c.callee with
    | .value f => match S.fr.ev f with
      | .fn g caps => match π g with
        | some q => match q (c.args.toList.map S.fr.ev ++ caps) with
          | some (pre, s) => match s.exact with
            | true => pre ∧ k s
            | false => False
          | none => False
        | none => False
      | _ => False
    | .builtin .append => False
    | .builtin _ => spure P S o k
    | _ => False
  | .alloc _ => False
  | .box _ _ => False
  | .store _ _ _ => False
  | .buildSlice _ _ _ => False
  | _ => spure P S o k

def vqops (P : Program) (π : PSpecs) (ops : Array Oper) : List Oper → St → (St → Prop) → Prop
  | [], S, K => K S
  | o :: rest, S, K => match gdOf ops S o with
    | .yes => vqop P π S o fun s => match putS S o.dst s with
      | some S2 => vqops P π ops rest S2 K
      | none => False
    | .no => match putS S o.dst .undef with
      | some S2 => vqops P π ops rest S2 K
      | none => False
    | .both b want d =>
      (b = want → match putS S (some d) (.lit want) with
        | some S1 => vqop P π S1 o fun s => match putS S1 o.dst s with
          | some S2 => vqops P π ops rest S2 K
          | none => False
        | none => False) ∧
      (b = !want → match putS S (some d) (.lit (!want)) with
        | some S1 => match putS S1 o.dst .undef with
          | some S2 => vqops P π ops rest S2 K
          | none => False
        | none => False)
    | .bad => False

theorem hasBody_calls {f : FuncId} (h : hasBody P f = true) {args : Array Value} {w : World} : True := trivial

theorem vqop_sound {π : PSpecs} (hπ : π.ok P) {o : Oper} {k : SV → Prop} (hM : Mem cx S.res ρ I F w) (hf : FrOk ρ I w S.fr a) (hv : vqop P π S o k) {next : Act → Prop}
    (hn : ∀ s v, SV.den ρ I w s v → k s → next (a.put o.dst v)) : o.quiet P a (fun w' => Below w.heap.size w w') next := by
  have pureCase : spure P S o k → o.quiet P a (fun w' => Below w.heap.size w w') next := by
    intro hp
    obtain ⟨v, s, h1, h2, h3⟩ := spure_sound hM hf hp
    refine ⟨v, fun w' hw' => ?_, hn s v h1 h2⟩
    unfold Oper.quietAt
    rw [h3 w' (fun k hk => hw'.block k hk)]
    exact ⟨rfl, rfl⟩
  unfold vqop at hv
  split at hv
  · rename_i c ho
    split at hv
    · rename_i f hc
      split at hv
      · rename_i g caps hg
        split at hv
        · rename_i q hq
          split at hv
          · rename_i pre s hqs
            split at hv
            · rename_i hex
              obtain ⟨hb, hok⟩ := hπ g q hq
              have hfd := Fr.ev_den hf f
              rw [hg] at hfd
              unfold SV.den at hfd
              obtain ⟨cv, hfe, hcv⟩ := hfd
              have hargs := SV.denL_append _ _ (Fr.evs_den hf c.args.toList) hcv
              have hrun : ∀ w', (execOp a.eval o).run P w' = .ok (.enter g (c.args.toList.map a.eval ++ cv).toArray) w' := by
                intro w'
                have hres : (resolve a.eval c o.type).run P w' = .ok { target := .fn (.func g) cv.toArray, args := c.args.map a.eval } w' := by
                  simp only [resolve, hc, hfe, Deferred.ofValue]
                  simp
                simp only [execOp, ho, Sem.run_bind, hres, Result.andThen_ok, invoke]
                rw [hasBody_call hb]
                congr 2
                apply Array.ext'
                simp
              obtain ⟨hpre, hk⟩ := hv
              -- the value is the same in every world: it is what the result is
              have hval : ∃ v, ∀ (ρ : List Value) (I : Nat → Prop) (w : World) (u : Value), SV.den ρ I w s u → u = v := by
                cases s with
                | int kk n => exact ⟨.int kk n, fun ρ I w u h => by unfold SV.den at h; exact h⟩
                | bool b => exact ⟨.bool b, fun ρ I w u h => by unfold SV.den at h; exact h⟩
                | lit b => exact ⟨.bool b, fun ρ I w u h => by unfold SV.den at h; exact h⟩
                | str b => exact ⟨.string b, fun ρ I w u h => by unfold SV.den at h; exact h.1⟩
                | adr T x => exact ⟨padr x, fun ρ I w u h => by unfold SV.den at h; exact h⟩
                | _ => simp [SV.exact] at hex
              obtain ⟨v, hv⟩ := hval
              have hcalls : ∀ w', Below w.heap.size w w' → Calls P g (c.args.toList.map a.eval ++ cv).toArray w' (fun e w'' => e = .returned v ∧ Below w.heap.size w w'') := by
                intro w' hw'
                have hsame : ∀ k, I k → w'.heap[k]? = w.heap[k]? := fun k hk => hw'.block k (hM.Ilt k hk)
                refine (hok ρ I w' (fun k hk => Nat.lt_of_lt_of_le (hM.Ilt k hk) hw'.size) _ _ pre s (SV.denL_keep (fun _ _ h => h) (fun _ h => h) hsame _ hargs) hqs hpre).mono ?_
                rintro e w'' ⟨u, rfl, hb', hd⟩
                exact ⟨by rw [hv _ _ _ _ hd], hw'.trans (hb'.mono hw'.size)⟩
              refine ⟨v, fun w' hw' => ?_, ?_⟩
              · unfold Oper.quietAt
                rw [hrun w']
                exact ⟨rfl, hcalls w' hw'⟩
              · refine hn s v ?_ hk
                -- the result's own meaning, read off one call
                cases s with
                | int kk n => unfold SV.den; exact (hv [] I w (.int kk n) (by unfold SV.den; rfl)).symm
                | bool b => unfold SV.den; exact (hv [] I w (.bool b) (by unfold SV.den; rfl)).symm
                | lit b => unfold SV.den; exact (hv [] I w (.bool b) (by unfold SV.den; rfl)).symm
                | adr T x => unfold SV.den; exact (hv [] I w (padr x) (by unfold SV.den; rfl)).symm
                | str b =>
                  -- some call returns it, so that its length is within bounds
                  obtain ⟨e, w', fr, ⟨⟨u, _, _, hd⟩, _⟩⟩ := hok ρ I w hM.Ilt _ _ pre (.str b) hargs hqs hpre []
                  unfold SV.den at hd ⊢
                  exact ⟨(hv [] I w (.string b) (by unfold SV.den; exact ⟨rfl, hd.2⟩)).symm, hd.2⟩
                | _ => simp [SV.exact] at hex
            · exact hv.elim
          · exact hv.elim
        · exact hv.elim
      · exact hv.elim
    · exact hv.elim
    · exact pureCase hv
    · exact hv.elim
  · exact hv.elim
  · exact hv.elim
  · exact hv.elim
  · exact hv.elim
  · exact pureCase hv

theorem putS_fr {S S' : St} {d : Option Tmp} {s : SV} {v : Value} (hf : FrOk ρ I w S.fr a) (hd : SV.den ρ I w s v) (hp : putS S d s = some S') : FrOk ρ I w S'.fr (a.put d v) ∧ S'.res = S.res ∧ S'.stk = S.stk := by
  unfold putS at hp
  split at hp
  · cases hp; exact ⟨hf, rfl, rfl⟩
  · rename_i d
    split at hp
    · rename_i hlt
      cases hp
      have hlt' : d < S.fr.n := Nat.lt_of_succ_le (Nat.le_of_ble_eq_true hlt)
      refine ⟨⟨by simp [Act.put, hf.1], fun t => ?_, hf.2.2⟩, rfl, rfl⟩
      simp only [getT, Act.put]
      by_cases e : d = t
      · subst e
        simp only [beq_self_eq_true, cond_true]
        rw [Array.getD_eq_getD_getElem?, Array.getElem?_setIfInBounds_self_of_lt (by rw [hf.1]; exact hlt')]
        exact litS_den hd
      · have e' : (d == t) = false := by simpa using e
        simp only [e', cond_false]
        rw [Array.getD_eq_getD_getElem?, Array.getElem?_setIfInBounds_ne e, ← Array.getD_eq_getD_getElem?]
        exact hf.2.1 t
    · cases hp

/-- What a guard's look tells. -/
theorem gdOf_spec {ops : Array Oper} {o : Oper} (hf : FrOk ρ I w S.fr a) :
    match gdOf ops S o with
    | .yes => Region.wanted o (yielded ops a.tmps) = true
    | .no => Region.wanted o (yielded ops a.tmps) = false
    | .both b want d => a.tmps[d]? = some (.bool b) ∧ Region.wanted o (yielded ops a.tmps) = (b == want)
    | .bad => True := by
  unfold gdOf Region.wanted
  cases hg : o.guard with
  | none => simp
  | some p =>
    obtain ⟨j, want⟩ := p
    simp only
    cases hd : (ops[j]?).bind (·.dst) with
    | none => simp [yielded, hd]
    | some d =>
      simp only
      have hden := hf.2.1 d
      cases hs : getT S.fr.tm d <;> rw [hs] at hden <;> simp only
      · unfold SV.den at hden
        rw [Array.getD_eq_getD_getElem?] at hden
        cases hx : a.tmps[d]? with
        | none => simp [yielded, hd, hx]
        | some v => rw [hx] at hden; simp at hden; subst hden; simp [yielded, hd, hx, Go.undef]
      · rename_i b
        unfold SV.den at hden
        have hb := getD_bool hden
        refine ⟨hb, ?_⟩
        simp [yielded, hd, hb]
      · rename_i b
        unfold SV.den at hden
        have hb := getD_bool hden
        cases b <;> cases want <;> simp [yielded, hd, hb]

theorem vqops_sound {π : PSpecs} (hπ : π.ok P) {ops : Array Oper} (K : St → Prop) {Q : Act → Prop} : (l : List Oper) → (S : St) → (a : Act) → Mem cx S.res ρ I F w → FrOk ρ I w S.fr a → vqops P π ops l S K →
    (∀ S' a', S'.res = S.res → S'.stk = S.stk → FrOk ρ I w S'.fr a' → K S' → Q a') → wpQuiet P ops (fun w' => Below w.heap.size w w') Q l a
  | [], S, a, hM, hf, hv, hq => hq S a rfl rfl hf hv
  | o :: rest, S, a, hM, hf, hv, hq => by
    have goYes : ∀ S1, S1.res = S.res → S1.stk = S.stk → FrOk ρ I w S1.fr a → Region.wanted o (yielded ops a.tmps) = true →
        (vqop P π S1 o fun s => match putS S1 o.dst s with | some S2 => vqops P π ops rest S2 K | none => False) → wpQuiet P ops (fun w' => Below w.heap.size w w') Q (o :: rest) a := by
      intro S1 e1 e2 h1 hw hv1
      unfold wpQuiet
      rw [if_pos hw]
      refine vqop_sound hπ (by rw [e1]; exact hM) h1 hv1 (fun s v h2 hk => ?_)
      split at hk
      · rename_i S2 hp
        obtain ⟨g1, g2, g3⟩ := putS_fr h1 h2 hp
        exact vqops_sound hπ K rest S2 _ (by rw [g2, e1]; exact hM) g1 hk (fun S' a' k1 k2 k3 k4 => hq S' a' (by rw [k1, g2, e1]) (by rw [k2, g3, e2]) k3 k4)
      · exact hk.elim
    have goNo : ∀ S1, S1.res = S.res → S1.stk = S.stk → FrOk ρ I w S1.fr a → Region.wanted o (yielded ops a.tmps) = false →
        (match putS S1 o.dst .undef with | some S2 => vqops P π ops rest S2 K | none => False) → wpQuiet P ops (fun w' => Below w.heap.size w w') Q (o :: rest) a := by
      intro S1 e1 e2 h1 hw hv1
      unfold wpQuiet
      rw [if_neg (by rw [hw]; simp)]
      split at hv1
      · rename_i S2 hp
        obtain ⟨g1, g2, g3⟩ := putS_fr (v := Go.undef) h1 (by simp [SV.den]) hp
        exact vqops_sound hπ K rest S2 _ (by rw [g2, e1]; exact hM) g1 hv1 (fun S' a' k1 k2 k3 k4 => hq S' a' (by rw [k1, g2, e1]) (by rw [k2, g3, e2]) k3 k4)
      · exact hv1.elim
    have hg := gdOf_spec (ops := ops) (o := o) hf
    unfold vqops at hv
    split at hv
    · rename_i e; rw [e] at hg; exact goYes S rfl rfl hf hg hv
    · rename_i e; rw [e] at hg; exact goNo S rfl rfl hf hg hv
    · rename_i b want d e
      rw [e] at hg
      obtain ⟨h1, h2⟩ := hg
      by_cases hbw : b = want
      · have hv1 := hv.1 hbw
        split at hv1
        · rename_i S1 hp
          obtain ⟨g1, g2, g3⟩ := putS_fr (a := a) (v := .bool b) hf (by simp [SV.den, hbw]) hp
          rw [put_same a h1] at g1
          exact goYes S1 g2 g3 g1 (by rw [h2, hbw]; simp) hv1
        · exact hv1.elim
      · have hbn : b = !want := by cases b <;> cases want <;> simp_all
        have hv1 := hv.2 hbn
        split at hv1
        · rename_i S1 hp
          obtain ⟨g1, g2, g3⟩ := putS_fr (a := a) (v := .bool b) hf (by simp [SV.den, hbn]) hp
          rw [put_same a h1] at g1
          exact goNo S1 g2 g3 g1 (by rw [h2]; simp [hbw]) hv1
        · exact hv1.elim
    · exact hv.elim

theorem vqregion_sound {π : PSpecs} (hπ : π.ok P) {n : Nat} {id : Nat} {ops : Array Oper} {Q : Exit → Act → World → Prop} {K : St → Prop} (hm : P.follows .mixedOrders = true) (hB : Region.lexB .any ops = true)
    (h : Ok cx S a w sv [] []) (hv : vqops P π ops ops.toList S K) (hq : ∀ S' a' w', Ok cx S' a' w' sv [] [] → K S' → Q .normal a' w') : (Code.region id ops true).wpIn (Wf none) n P Q a w := by
  refine wpIn_wide.2 ?_
  obtain ⟨ρ, I, F, hM, hf, hs, _⟩ := h
  refine wp_region_quiet (C := fun w' => Below w.heap.size w w') hm hB ⟨rfl, rfl, rfl, Nat.le_refl _, fun _ _ => rfl⟩ ?_
  refine vqops_sound hπ K ops.toList S a hM hf hv (fun S' a' e1 e2 h1 hk w' hw' => ?_)
  have hsame : ∀ k, I k → w'.heap[k]? = w.heap[k]? := fun k hk => hw'.block k (hM.Ilt k hk)
  refine hq S' a' w' ⟨ρ, fun k => I k ∨ (w.heap.size ≤ k ∧ k < w'.heap.size), F, by rw [e1]; exact hM.below hw', h1.keep (fun _ _ h => h) (fun _ h => .inl h) hsame, by rw [e2]; exact StkOk.keep (fun _ _ h => h) (fun _ h => .inl h) hsame _ hs, by simp [SV.denL]⟩ hk
end
end Go.Proofs.Ytfdcmbaoekjkgaa.Gx
namespace Go.Proofs.Ytfdcmbaoekjkgaa.Gx
open Go.RowKit
set_option linter.unusedSimpArgs false
set_option linter.unusedVariables false

/-! ### A state that says less -/
mutual
def SV.wf (m : Nat) : SV → Bool
  | .ptr i _ => Nat.blt i m
  | .row i => Nat.blt i m
  | .yld i => Nat.blt i m
  | .mp i => Nat.blt i m
  | .elt i _ _ _ => Nat.blt i m
  | .win i _ _ _ => Nat.blt i m
  | .fn _ caps => SV.wfL m caps
  | .agg cs => SV.wfL m cs
  | .tup cs => SV.wfL m cs
  | _ => true
def SV.wfL (m : Nat) : List SV → Bool
  | [] => true
  | s :: ss => SV.wf m s && SV.wfL m ss
end

mutual
/-- s says all that t says. -/
def svLe : SV → SV → Prop
  | _, .any => True
  | .bool c, .bool b => c = b
  | .lit c, .bool b => c = b
  | .bool c, .lit b => c = b
  | .lit c, .lit b => c = b
  | .int k' m, .int k n => match decEq k' k with
    | .isTrue _ => m = n
    | .isFalse _ => False
  | .ptr i o, .ptr j p => match Nat.beq i j, Nat.beq o p with
    | true, true => True
    | _, _ => False
  | .row i, .row j => match Nat.beq i j with
    | true => True
    | false => False
  | .yld i, .yld j => match Nat.beq i j with
    | true => True
    | false => False
  | .undef, .undef => True
  | .fn f cs, .fn g ds => match Nat.beq f g with
    | true => svLeL cs ds
    | false => False
  | .str s, .str t => s = t
  | .rs t' xs, .rs t ys => match decEq t' t with
    | .isTrue h => h ▸ xs = ys
    | .isFalse _ => False
  | .val (.slice none 0 0), .rs _ ys => ys = []
  | .ev, .rs _ ys => ys = []
  | .mp i, .mp j => match Nat.beq i j with
    | true => True
    | false => False
  | .adr T x, .adr T' y => match Nat.beq T T' with
    | true => x = y
    | false => False
  | .val (.pointer none), .adr _ y => y = none
  | .hd e h, .hd e' h' => match Nat.beq e e' with
    | true => h = h'
    | false => False
  | .val (.slice none 0 0), .hd _ h' => h' = nilHd
  | .agg cs, .agg ds => svLeL cs ds
  | .tup cs, .tup ds => svLeL cs ds
  | s, t => s = t
def svLeL : List SV → List SV → Prop
  | [], [] => True
  | s :: ss, t :: ts => svLe s t ∧ svLeL ss ts
  | _, _ => False
end

def tmLe (s t : List (Nat × SV)) : List (Nat × SV) → Prop
  | [] => True
  | (i, _) :: l => svLe (getT s i) (getT t i) ∧ tmLe s t l

def frLe (f g : Fr) : Prop :=
  match Nat.beq f.n g.n, decide (f.dfr = g.dfr) with
  | true, true => tmLe f.tm g.tm g.tm
  | _, _ => False

def stkLe : List Fr → List Fr → Prop
  | [], [] => True
  | f :: l, g :: k => frLe f g ∧ stkLe l k
  | _, _ => False

def mapLe {vt' vt : Ty} (h : vt' = vt) (es' : List (Int × vt'.den)) (es : List (Int × vt.den)) (it' it : Option (Nat × Option Int × List Int)) : Prop :=
  h ▸ es' = es ∧ (match it', it with
    | some (i, c', l'), some (j, c, l) => match Nat.beq i j with
      | true => c' = c ∧ l' = l
      | false => False
    | none, none => True
    | _, _ => False)

def resLe (s t : Res) : Prop :=
  match t with
  | .gone => True
  | .blk ty cs => match s with
    | .blk ty' cs' => match Nat.beq ty' ty with
      | true => svLeL cs' cs
      | false => False
    | _ => False
  | .row e ty ys => match s with
    | .row e' ty' xs => match Nat.beq e' e with
      | true => svLe (.rs ty' xs) (.rs ty ys)
      | false => False
    | _ => False
  | .loop fr ps st pd => match s with
    | .loop fr' ps' st' pd' => match decide (ps' = ps), decide (st' = st), decide (pd' = pd) with
      | true, true, true => frLe fr' fr
      | _, _, _ => False
    | _ => False
  | .dfr => match s with
    | .dfr => True
    | _ => False
  | .dfrs => match s with
    | .dfrs => True
    | _ => False
  | .rsv => match s with
    | .rsv => True
    | _ => False
  | .ro ty cs => match s with
    | .ro ty' cs' => match Nat.beq ty' ty with
      | true => svLeL cs' cs
      | false => False
    | _ => False
  | .mv _ _ _ _ => False
  | .was => False
  | .junk => False
  | .fam T t os => match s with
    | .fam T' t' os' => match Nat.beq T' T, decEq t' t with
      | true, .isTrue h => h ▸ os' = os
      | _, _ => False
    | _ => False
  | .cust t R x => match s with
    | .cust t' R' x' => match decEq t' t with
      | .isTrue h => (h ▸ R') = R ∧ (h ▸ x') = x
      | _ => False
    | _ => False
  | .mit j => match s with
    | .mit i => match Nat.beq i j with
      | true => True
      | false => False
    | _ => False
  | .mapr kk ag vt es it => match s with
    | .mapr kk' ag' vt' es' it' => match decEq kk' kk, decEq ag' ag, decEq vt' vt with
      | .isTrue _, .isTrue _, .isTrue h => mapLe h es' es it' it
      | _, _, _ => False
    | _ => False

def resLeL : List Res → List Res → Prop
  | _, [] => True
  | s :: ss, t :: ts => resLe s t ∧ resLeL ss ts
  | [], _ :: _ => False

def Res.wf (m : Nat) : Res → Bool
  | .blk _ cs => SV.wfL m cs
  | .ro _ cs => SV.wfL m cs
  | .loop fr _ _ _ => fr.tm.all fun p => SV.wf m p.2
  | .mapr _ _ _ _ it => match it with
    | some (j, _) => Nat.blt j m
    | none => true
  | _ => true

structure stLe (S T : St) : Prop where
  n : S.fr.n = T.fr.n
  dfr : S.fr.dfr = T.fr.dfr
  stk : stkLe S.stk T.stk
  tm : tmLe S.fr.tm T.fr.tm T.fr.tm
  res : resLeL S.res T.res
  wft : (T.fr.tm.all fun p => SV.wf T.res.length p.2) = true
  wfr : (T.res.all (Res.wf T.res.length)) = true
  wfs : (T.stk.all fun f => f.tm.all (fun p => SV.wf T.res.length p.2) && f.dfr.all (Nat.blt · T.res.length)) = true
  wfd : (T.fr.dfr.all (Nat.blt · T.res.length)) = true

section
variable {P : Program} {cx : Cx} {S T : St} {ρ : List Value} {I : Nat → Prop} {F : Nat → Nat → Prop} {w : World} {a : Act} {sv : List Act}

mutual
theorem SV.den_take {m : Nat} : (s : SV) → {v : Value} → SV.wf m s = true → SV.den ρ I w s v → SV.den (ρ.take m) I w s v
  | .any, _, _, _ => by simp [SV.den]
  | .undef, _, _, h => by simpa [SV.den] using h
  | .int _ _, _, _, h => by simpa [SV.den] using h
  | .bool _, _, _, h => by simpa [SV.den] using h
  | .lit _, _, _, h => by simpa [SV.den] using h
  | .str _, _, _, h => by simpa [SV.den] using h
  | .rs t xs, _, _, h => by unfold SV.den at h ⊢; exact h
  | .pto t x off, _, _, h => by unfold SV.den at h ⊢; exact h
  | .ptr i off, _, hw, h => by
    unfold SV.den at h ⊢
    simp only [SV.wf] at hw
    have hlt : i < m := Nat.lt_of_succ_le (Nat.le_of_ble_eq_true hw)
    obtain ⟨b, h1, h2⟩ := h
    exact ⟨b, by rw [List.getElem?_take, if_pos hlt]; exact h1, h2⟩
  | .row i, _, hw, h => by
    unfold SV.den at h ⊢
    simp only [SV.wf] at hw
    have hlt : i < m := Nat.lt_of_succ_le (Nat.le_of_ble_eq_true hw)
    rw [List.getElem?_take, if_pos hlt]; exact h
  | .elt i j sz off, _, hw, h => by
    unfold SV.den at h ⊢
    simp only [SV.wf] at hw
    have hlt : i < m := Nat.lt_of_succ_le (Nat.le_of_ble_eq_true hw)
    obtain ⟨g, n, c, h1, h2⟩ := h
    exact ⟨g, n, c, by rw [List.getElem?_take, if_pos hlt]; exact h1, h2⟩
  | .win i lo hi sz, _, hw, h => by
    unfold SV.den at h ⊢
    simp only [SV.wf] at hw
    have hlt : i < m := Nat.lt_of_succ_le (Nat.le_of_ble_eq_true hw)
    obtain ⟨A, n, c, h1, h2⟩ := h
    exact ⟨A, n, c, by rw [List.getElem?_take, if_pos hlt]; exact h1, h2⟩
  | .yld i, _, hw, h => by
    unfold SV.den at h ⊢
    simp only [SV.wf] at hw
    have hlt : i < m := Nat.lt_of_succ_le (Nat.le_of_ble_eq_true hw)
    obtain ⟨l, h1, h2⟩ := h
    exact ⟨l, by rw [List.getElem?_take, if_pos hlt]; exact h1, h2⟩
  | .mp i, _, hw, h => by
    unfold SV.den at h ⊢
    simp only [SV.wf] at hw
    have hlt : i < m := Nat.lt_of_succ_le (Nat.le_of_ble_eq_true hw)
    obtain ⟨l, h1, h2⟩ := h
    exact ⟨l, by rw [List.getElem?_take, if_pos hlt]; exact h1, h2⟩
  | .adr _ _, _, _, h => by simpa [SV.den] using h
  | .hd _ _, _, _, h => by unfold SV.den at h ⊢; exact h
  | .fp _ _ _ _ _, _, _, h => by unfold SV.den at h ⊢; exact h
  | .ev, _, _, h => by unfold SV.den at h ⊢; exact h
  | .fn f caps, _, hw, h => by
    unfold SV.den at h ⊢
    obtain ⟨vs, h1, h2⟩ := h
    exact ⟨vs, h1, SV.denL_takeW caps (by simpa [SV.wf] using hw) h2⟩
  | .agg cs, _, hw, h => by
    unfold SV.den at h ⊢
    obtain ⟨vs, h1, h2⟩ := h
    exact ⟨vs, h1, SV.denL_takeW cs (by simpa [SV.wf] using hw) h2⟩
  | .tup cs, _, hw, h => by
    unfold SV.den at h ⊢
    obtain ⟨vs, h1, h2⟩ := h
    exact ⟨vs, h1, SV.denL_takeW cs (by simpa [SV.wf] using hw) h2⟩
  | .val _, _, _, h => by simpa [SV.den] using h
theorem SV.denL_takeW {m : Nat} : (ss : List SV) → {vs : List Value} → SV.wfL m ss = true → SV.denL ρ I w ss vs → SV.denL (ρ.take m) I w ss vs
  | [], _, _, h => by simpa [SV.denL] using h
  | s :: ss, _, hw, h => by
    simp only [SV.wfL, Bool.and_eq_true] at hw
    unfold SV.denL at h ⊢
    obtain ⟨v, vs', e, h1, h2⟩ := h
    exact ⟨v, vs', e, SV.den_take s hw.1 h1, SV.denL_takeW ss hw.2 h2⟩
end

mutual
theorem svLe_den : {s t : SV} → {v : Value} → svLe s t → SV.den ρ I w s v → SV.den ρ I w t v := by
  intro s t v h hd
  unfold svLe at h
  split at h
  · simp [SV.den]
  · subst h; exact hd
  · subst h; unfold SV.den at hd ⊢; exact hd
  · subst h; unfold SV.den at hd ⊢; exact hd
  · subst h; exact hd
  · split at h
    · rename_i e _
      subst e; subst h; exact hd
    · exact h.elim
  · split at h
    · rename_i e1 e2
      rw [← Nat.eq_of_beq_eq_true e1, ← Nat.eq_of_beq_eq_true e2]; exact hd
    · exact h.elim
  · split at h
    · rename_i e1
      rw [← Nat.eq_of_beq_eq_true e1]; exact hd
    · exact h.elim
  · split at h
    · rename_i e1
      rw [← Nat.eq_of_beq_eq_true e1]; exact hd
    · exact h.elim
  · exact hd
  · split at h
    · rename_i e1
      rw [← Nat.eq_of_beq_eq_true e1]
      unfold SV.den at hd ⊢
      obtain ⟨vs, h1, h2⟩ := hd
      exact ⟨vs, h1, svLeL_den h h2⟩
    · exact h.elim
  · subst h; exact hd
  · split at h
    · rename_i e _
      subst e
      simp only at h
      subst h
      exact hd
    · exact h.elim
  · subst h
    unfold SV.den at hd ⊢
    subst hd
    exact nil_reads I w _
  · subst h
    unfold SV.den at hd ⊢
    obtain ⟨A, rfl⟩ := hd
    exact ⟨A, 0, rfl, Nat.le_refl _, Nat.zero_le _, fun i x hx => by simp at hx⟩
  · split at h
    · rename_i e1
      rw [← Nat.eq_of_beq_eq_true e1]; exact hd
    · exact h.elim
  · split at h
    · rename_i e1
      subst h
      unfold SV.den at hd ⊢; exact hd
    · exact h.elim
  · subst h
    unfold SV.den at hd ⊢
    subst hd
    rfl
  · split at h
    · subst h
      unfold SV.den at hd ⊢; exact hd
    · exact h.elim
  · subst h
    unfold SV.den at hd ⊢
    subst hd
    exact ⟨rfl, by simp [Hd.ok, nilHd, maxLen]⟩
  · unfold SV.den at hd ⊢
    obtain ⟨vs, h1, h2⟩ := hd
    exact ⟨vs, h1, svLeL_den h h2⟩
  · unfold SV.den at hd ⊢
    obtain ⟨vs, h1, h2⟩ := hd
    exact ⟨vs, h1, svLeL_den h h2⟩
  · subst h; exact hd
theorem svLeL_den : {ss ts : List SV} → {vs : List Value} → svLeL ss ts → SV.denL ρ I w ss vs → SV.denL ρ I w ts vs
  | [], [], _, _, hd => hd
  | s :: ss, t :: ts, _, h, hd => by
    simp only [svLeL] at h
    unfold SV.denL at hd ⊢
    obtain ⟨v, vs', e, h1, h2⟩ := hd
    exact ⟨v, vs', e, svLe_den h.1 h1, svLeL_den h.2 h2⟩
  | [], _ :: _, _, h, _ => by simp [svLeL] at h
  | _ :: _, [], _, h, _ => by simp [svLeL] at h
end

theorem resLeL_get : {ss ts : List Res} → resLeL ss ts → ∀ (i : Nat) t, ts[i]? = some t → ∃ s, ss[i]? = some s ∧ resLe s t
  | _, [], _, i, t, h => by simp at h
  | s :: ss, t :: ts, h, i, u, hu => by
    simp only [resLeL] at h
    cases i with
    | zero => simp at hu; subst hu; exact ⟨s, rfl, h.1⟩
    | succ i => simpa using resLeL_get h.2 i u (by simpa using hu)
  | [], _ :: _, h, _, _, _ => by simp [resLeL] at h

theorem resLeL_len : {ss ts : List Res} → resLeL ss ts → ts.length ≤ ss.length
  | _, [], _ => by simp
  | s :: ss, t :: ts, h => by simp only [resLeL] at h; simpa using resLeL_len h.2
  | [], _ :: _, h => by simp [resLeL] at h

theorem tmLe_get {s t : List (Nat × SV)} : (l : List (Nat × SV)) → tmLe s t l → ∀ i, (∃ v, (i, v) ∈ l) → svLe (getT s i) (getT t i)
  | [], _, i, ⟨v, hv⟩ => by simp at hv
  | (j, u) :: l, h, i, ⟨v, hv⟩ => by
    simp only [tmLe] at h
    rcases List.mem_cons.1 hv with e | hv
    · cases e; exact h.1
    · exact tmLe_get l h.2 i ⟨v, hv⟩

theorem getT_mem : (l : List (Nat × SV)) → (i : Nat) → getT l i = .any ∨ ∃ v, (i, v) ∈ l ∧ getT l i = v
  | [], _ => .inl rfl
  | (j, u) :: l, i => by
    simp only [getT]
    by_cases e : j = i
    · subst e; right; exact ⟨u, by simp, by simp⟩
    · have e' : (j == i) = false := by simpa using e
      rw [e']; simp only [cond_false]
      rcases getT_mem l i with h | ⟨v, h1, h2⟩
      · exact .inl h
      · exact .inr ⟨v, List.mem_cons_of_mem _ h1, h2⟩

theorem TmOk.take {m : Nat} {fr : Fr} {tmps : Array Value} (h : TmOk ρ I w fr tmps) (hw : (fr.tm.all fun p => SV.wf m p.2) = true) : TmOk (ρ.take m) I w fr tmps := by
  refine ⟨h.1, fun t => ?_⟩
  rcases getT_mem fr.tm t with e | ⟨v, h1, h2⟩
  · rw [e]; simp [SV.den]
  · refine SV.den_take _ ?_ (h.2 t)
    rw [h2]
    exact (List.all_eq_true.1 hw) _ h1

theorem FrOk.take {m : Nat} {fr : Fr} (h : FrOk ρ I w fr a) (hw : (fr.tm.all fun p => SV.wf m p.2) = true) (hd : (fr.dfr.all (Nat.blt · m)) = true) : FrOk (ρ.take m) I w fr a := by
  refine ⟨h.1, fun t => ?_, ?_⟩
  · rcases getT_mem fr.tm t with e | ⟨v, h1, h2⟩
    · rw [e]; simp [SV.den]
    · refine SV.den_take _ ?_ (h.2.1 t)
      rw [h2]
      exact (List.all_eq_true.1 hw) _ h1
  · have : ∀ (l : List Nat) (ds : List Deferred), (l.all (Nat.blt · m)) = true → DfrOk ρ l ds → DfrOk (ρ.take m) l ds := by
      intro l
      induction l with
      | nil => intro ds _ h; exact h
      | cons i l ih =>
        intro ds hl h
        simp only [List.all_cons, Bool.and_eq_true] at hl
        obtain ⟨D, ds', v, e, h1, h2⟩ := h
        have hlt : i < m := Nat.lt_of_succ_le (Nat.le_of_ble_eq_true hl.1)
        exact ⟨D, ds', v, e, ⟨by rw [List.getElem?_take, if_pos hlt]; exact h1.1, h1.2⟩, ih _ hl.2 h2⟩
    exact this _ _ hd h.2.2

theorem StkOk.take {m : Nat} : (l : List Fr) → {sv : List Act} → (l.all fun f => f.tm.all (fun p => SV.wf m p.2) && f.dfr.all (Nat.blt · m)) = true → StkOk ρ I w l sv → StkOk (ρ.take m) I w l sv
  | [], _, _, h => h
  | fr :: l, _, hw, h => by
    simp only [List.all_cons, Bool.and_eq_true] at hw
    obtain ⟨a, sv', e, h1, h2⟩ := h
    exact ⟨a, sv', e, h1.take hw.1.1 hw.1.2, StkOk.take l (by simpa [Bool.and_eq_true] using hw.2) h2⟩

theorem frLe_tm {f g : Fr} (h : frLe f g) : f.n = g.n ∧ f.dfr = g.dfr ∧ ∀ t v, SV.den ρ I w (getT f.tm t) v → SV.den ρ I w (getT g.tm t) v := by
  unfold frLe at h
  split at h
  · rename_i e1 e2
    refine ⟨Nat.eq_of_beq_eq_true e1, of_decide_eq_true e2, fun t v hv => ?_⟩
    rcases getT_mem g.tm t with e | ⟨u, h1, h2⟩
    · rw [e]; simp [SV.den]
    · exact svLe_den (tmLe_get _ h t ⟨u, h1⟩) hv
  · exact h.elim

theorem StkOk.le : {l k : List Fr} → {sv : List Act} → StkOk ρ I w l sv → stkLe l k → StkOk ρ I w k sv
  | [], [], _, h, _ => h
  | f :: l, g :: k, _, h, hl => by
    obtain ⟨a, sv', e, h1, h2⟩ := h
    simp only [stkLe] at hl
    obtain ⟨k1, k2, k3⟩ := frLe_tm (ρ := ρ) (I := I) (w := w) hl.1
    exact ⟨a, sv', e, ⟨by rw [← k1]; exact h1.1, fun t => k3 t _ (h1.2.1 t), by rw [← k2]; exact h1.2.2⟩, StkOk.le h2 hl.2⟩
  | [], _ :: _, _, _, hl => by simp [stkLe] at hl
  | _ :: _, [], _, _, hl => by simp [stkLe] at hl

theorem Ok.weaken (h : Ok cx S a w sv [] []) (hl : stLe S T) : Ok cx T a w sv [] [] := by
  obtain ⟨ρ, I, F, hM, hf, hs, _⟩ := h
  have hlen := resLeL_len hl.res
  refine ⟨ρ.take T.res.length, I, fun i k => F i k ∧ T.res[i]? ≠ some .gone, ?_, ?_, ?_, by simp [SV.denL]⟩
  · refine ⟨by rw [List.length_take, hM.len]; omega, fun i v hv => ?_, ?_, ?_, ?_, ?_, ?_, hM.I0, hM.Ilt, hM.Inew, hM.size, hM.os, hM.tape, hM.output, hM.frame⟩
    · rw [List.getElem?_take] at hv
      split at hv
      · exact hM.ones i v hv
      · cases hv
    · intro i t ht
      have hit := (List.getElem?_eq_some_iff.1 ht).1
      obtain ⟨s, h1, h2⟩ := resLeL_get hl.res i t ht
      have hh := hM.holds i s h1
      have hwf : Res.wf T.res.length t = true := (List.all_eq_true.1 hl.wfr) t (List.mem_of_getElem? ht)
      have hrho : ∀ v, ρ[i]? = some v → (ρ.take T.res.length)[i]? = some v := fun v hv => by rw [List.getElem?_take, if_pos hit]; exact hv
      by_cases hg : t = .gone
      · subst hg
        intro k hk
        exact hk.2 ht
      · have hF : (fun k => F i k ∧ T.res[i]? ≠ some .gone) = F i := by
          funext k
          simp only [eq_iff_iff, and_iff_left_iff_imp]
          intro _ e
          rw [ht] at e
          cases e
          exact hg rfl
        rw [hF]
        unfold resLe at h2
        split at h2
        · exact absurd rfl hg
        · rename_i ty cs
          split at h2
          · rename_i ty' cs'
            split at h2
            · rename_i e1
              obtain rfl := Nat.eq_of_beq_eq_true e1
              obtain ⟨b, vs, g1, g2, g3, g4⟩ := hh
              exact ⟨b, vs, hrho _ g1, g2, SV.denL_takeW _ (by simpa [Res.wf] using hwf) (svLeL_den h2 g3), g4⟩
            · exact h2.elim
          · exact h2.elim
        · rename_i e ty ys
          split at h2
          · rename_i e' ty' xs
            split at h2
            · rename_i e1
              obtain rfl := Nat.eq_of_beq_eq_true e1
              simp only [svLe] at h2
              split at h2
              · rename_i et _
                subst et
                simp only at h2
                subst h2
                obtain ⟨v, cells, g1, g2, g3, g4⟩ := hh
                exact ⟨v, cells, hrho _ g1, g2, g3, g4⟩
              · exact h2.elim
            · exact h2.elim
          · exact h2.elim
        · rename_i fr ps st pd
          split at h2
          · rename_i fr' ps' st' pd'
            split at h2
            · rename_i e1 e2 e3
              obtain rfl := of_decide_eq_true e1
              obtain rfl := of_decide_eq_true e2
              obtain rfl := of_decide_eq_true e3
              obtain ⟨l, r, g1, g2, g3, g4, g5, g6, g7, g8⟩ := hh
              obtain ⟨k1, _, k2⟩ := frLe_tm h2
              exact ⟨l, r, hrho _ g1, g2, g3, g4, g5, g6, TmOk.take ⟨by rw [← k1]; exact g7.1, fun t => k2 t _ (g7.2 t)⟩ (by simpa [Res.wf] using hwf), g8⟩
            · exact h2.elim
          · exact h2.elim
        · split at h2
          · obtain ⟨b, g1, g2, g3⟩ := hh
            exact ⟨b, hrho _ g1, g2, g3⟩
          · exact h2.elim
        · split at h2
          · obtain ⟨Ds, g1, g2, g3, g4⟩ := hh
            exact ⟨Ds, hrho _ g1, g2, g3, g4⟩
          · exact h2.elim
        · split at h2
          · exact ⟨hrho _ hh.1, hh.2⟩
          · exact h2.elim
        · rename_i ty cs
          split at h2
          · rename_i ty' cs'
            split at h2
            · rename_i e1
              obtain rfl := Nat.eq_of_beq_eq_true e1
              obtain ⟨b, vs, g1, g2, g3, g4, g5⟩ := hh
              exact ⟨b, vs, hrho _ g1, g2, SV.denL_takeW _ (by simpa [Res.wf] using hwf) (svLeL_den h2 g3), g4, g5⟩
            · exact h2.elim
          · exact h2.elim
        · exact h2.elim
        · exact h2.elim
        · exact h2.elim
        · split at h2
          · split at h2
            · rename_i e0 b1 _
              obtain rfl := Nat.eq_of_beq_eq_true b1
              subst e0
              simp only at h2
              subst h2
              exact ⟨hrho _ hh.1, hh.2⟩
            · exact h2.elim
          · exact h2.elim
        · split at h2
          · split at h2
            · rename_i e1 _
              subst e1
              obtain ⟨v, g1, g2⟩ := hh
              obtain ⟨q1, q2⟩ := h2
              simp only at q1 q2
              subst q1; subst q2
              exact ⟨v, hrho _ g1, g2⟩
            · exact h2.elim
          · exact h2.elim
        · split at h2
          · split at h2
            · obtain ⟨⟨r, g1⟩, g2⟩ := hh
              exact ⟨⟨r, hrho _ g1⟩, g2⟩
            · exact h2.elim
          · exact h2.elim
        · rename_i kk ag vt es it
          split at h2
          · rename_i kk' ag' vt' es' it'
            split at h2
            · rename_i e1 e2 e3 _ _ _
              subst e1; subst e2; subst e3
              obtain ⟨b, ents, clock, ro, g1, g2, g3, g4⟩ := hh
              obtain ⟨q1, q2⟩ := h2
              simp only at q1 q2
              subst q1
              refine ⟨b, ents, clock, ro, hrho _ g1, g2, g3, ?_⟩
              cases it' with
              | none =>
                cases it with
                | none => exact g4
                | some p => exact q2.elim
              | some p' =>
                cases it with
                | none => exact q2.elim
                | some p =>
                  obtain ⟨i', c', l'⟩ := p'
                  obtain ⟨j, c, l⟩ := p
                  simp only at q2
                  split at q2
                  · rename_i eb
                    obtain rfl := Nat.eq_of_beq_eq_true eb
                    obtain ⟨rfl, rfl⟩ := q2
                    obtain ⟨r, k1, k2, k3, k4⟩ := g4
                    have hj : i' < T.res.length := Nat.lt_of_succ_le (by simpa [Res.wf, Nat.blt] using hwf)
                    exact ⟨r, k1, by rw [List.getElem?_take, if_pos hj]; exact k2, k3, k4⟩
                  · exact q2.elim
            · exact h2.elim
          · exact h2.elim
    · intro i j k hi hj hne h1 h2; exact hM.apart i j k (by omega) (by omega) hne h1.1 h2.1
    · intro i k hi h1; exact hM.lt i k (by omega) h1.1
    · intro i k hi h1; exact hM.notI i k (by omega) h1.1
    · intro i k hi h1; exact hM.new i k (by omega) h1.1
  · have h1 : FrOk ρ I w T.fr a := by
      refine ⟨by rw [← hl.n]; exact hf.1, fun t => ?_, by rw [← hl.dfr]; exact hf.2.2⟩
      rcases getT_mem T.fr.tm t with e | ⟨v, h1, h2⟩
      · rw [e]; simp [SV.den]
      · exact svLe_den (tmLe_get _ hl.tm t ⟨v, h1⟩) (hf.2.1 t)
    exact h1.take hl.wft hl.wfd
  · exact StkOk.take _ hl.wfs (hs.le hl.stk)
end
end Go.Proofs.Ytfdcmbaoekjkgaa.Gx
namespace Go.Proofs.Ytfdcmbaoekjkgaa.Gx
open Go.RowKit
set_option linter.unusedSimpArgs false
set_option linter.unusedVariables false

section
variable {P : Program} {cx : Cx} {S : St} {res : List Res} {ρ : List Value} {I : Nat → Prop} {F : Nat → Nat → Prop} {w : World} {a : Act} {sv : List Act}

theorem Mem.lpc (h : Mem cx res ρ I F w) {lp' : Lp} (hl : ∀ (i : Nat) fr ps st pd, res[i]? = some (.loop fr ps st pd) → lp' i = cx.lp i) : Mem { cx with lp := lp' } res ρ I F w where
  len := h.len
  ones := h.ones
  holds := fun i r hr => by
    have := h.holds i r hr
    cases r with
    | loop fr ps st pd =>
      obtain ⟨l, r, h1, h2, h3, h4⟩ := this
      exact ⟨l, r, h1, h2, (hl i _ _ _ _ hr).trans h3, h4⟩
    | _ => exact this
  apart := h.apart
  lt := h.lt
  notI := h.notI
  new := h.new
  I0 := h.I0
  Ilt := h.Ilt
  Inew := h.Inew
  size := h.size
  os := h.os
  tape := h.tape
  output := h.output
  frame := h.frame

/-- The record is written anew. -/
theorem Ok.record {ss : List SV} {vs : List Value} (h : Ok cx S a w sv ss vs) {j : Nat} {fr : Fr} {ps : List Tmp} {st : LoopState} {pd : Option X} (hj : S.res[j]? = some (.loop fr ps st pd)) :
    ∃ l r, (∀ v, (∃ ρ I F, Mem cx S.res ρ I F w ∧ FrOk ρ I w S.fr a ∧ StkOk ρ I w S.stk sv ∧ SV.denL ρ I w ss vs ∧ ρ[j]? = some v) → True) ∧ w.heap[l]? = some (.loop r) ∧ r.state = st ∧ r.pending = pd.map X.code ∧ cx.lp j = some (r.assign, r.body, l) ∧ r.params.toList = ps ∧
      (∃ ρ I F, Mem cx S.res ρ I F w ∧ FrOk ρ I w S.fr a ∧ StkOk ρ I w S.stk sv ∧ SV.denL ρ I w ss vs ∧ ρ[j]? = some (.pointer (some ⟨l, 0, none⟩)) ∧ TmOk ρ I w fr r.tmps) ∧
      (∀ (r' : Loop) st' pd', r'.assign = r.assign → r'.body = r.body → r'.params = r.params → r'.tmps = r.tmps → r'.state = st' → r'.pending = pd'.map X.code →
        Ok cx { S with res := S.res.set j (.loop fr ps st' pd') } a (w.putObj l (.loop r')) sv ss vs) ∧
      (∀ (r' : Loop), Ok cx { S with res := S.res.set j .gone } a (w.putObj l (.loop r')) sv ss vs) := by
  obtain ⟨ρ, I, F, hM, hf, hs, hd⟩ := h
  obtain ⟨l, r, h1, h2, h3, h4, h5, h6, h7, h8⟩ := hM.holds j _ hj
  have hjl := (List.getElem?_eq_some_iff.1 hj).1
  refine ⟨l, r, fun _ _ => trivial, h2, h5, h6, h3, h4, ⟨ρ, I, F, hM, hf, hs, hd, h1, h7⟩, ?_⟩
  have hother : ∀ (o : Obj) k, k ≠ l → (w.putObj l o).heap[k]? = w.heap[k]? := fun o k hk => World.putObj_heap_other hk
  have hsame : ∀ (o : Obj) k, I k → (w.putObj l o).heap[k]? = w.heap[k]? := fun o k hk => hother o k (fun e => hM.notI j k hjl ((h8 k).2 e) hk)
  have hl : l < w.heap.size := hM.lt j l hjl ((h8 l).2 rfl)
  have key : ∀ (o : Obj) (x : Res) (Fi : Nat → Prop), (∀ k, Fi k → k = l) → x.holds cx.lp ρ I (w.putObj l o) j Fi → Ok cx { S with res := S.res.set j x } a (w.putObj l o) sv ss vs := by
    intro o x Fi hFi hx
    have hM' := Mem.change (w' := w.putObj l o) (ρ' := ρ) hM hjl x Fi id rfl hM.ones (fun k _ hnf => hother o k (fun e => hnf ((h8 k).2 e))) (by simp [World.putObj]) rfl rfl rfl
      (fun k hk => ⟨.inl ((h8 k).2 (hFi k hk)), by rw [hFi k hk]; simp [World.putObj]; exact hl⟩)
      (fun i y hji hy hh => Res.keep (fun _ _ h => h) (fun _ h => h) (hsame o) (fun k hk => hother o k (fun e => hM.apart i j k (List.getElem?_eq_some_iff.1 hy).1 hjl hji hk ((h8 k).2 e))) y hh) hx
    rw [List.map_id] at hM'
    exact ⟨ρ, I, _, hM', hf.keep (fun _ _ h => h) (fun _ h => h) (hsame o), StkOk.keep (fun _ _ h => h) (fun _ h => h) (hsame o) _ hs, SV.denL_keep (fun _ _ h => h) (fun _ h => h) (hsame o) _ hd⟩
  refine ⟨fun r' st' pd' e1 e2 e3 e4 e5 e6 => key _ _ (fun k => k = l) (fun k hk => hk) ?_, fun r' => key _ _ (fun _ => False) (fun k hk => hk.elim) (fun k hk => hk)⟩
  refine ⟨l, r', h1, World.putObj_heap_same hl, by rw [e1, e2]; exact h3, by rw [e3]; exact h4, e5, e6, ?_, fun k => Iff.rfl⟩
  rw [e4]
  exact ⟨h7.1, fun t => SV.den_keep (fun _ _ h => h) (fun _ h => h) (hsame _) _ (h7.2 t)⟩

/-! ### Rounds -/
def bindP : List Tmp → List SV → List (Nat × SV) → List (Nat × SV)
  | p :: ps, s :: ss, tm => bindP ps ss ((p, s) :: tm)
  | _, _, tm => tm

def bindV (ps : List Tmp) (vs : List Value) (t : Array Value) : Array Value := (ps.zip vs).foldl (fun t (p, v) => t.setIfInBounds p v) t

theorem bindV_fold (ps : Array Tmp) (vs : List Value) (t : Array Value) : (ps.zip vs.toArray).foldl (fun t (p, v) => t.setIfInBounds p v) t = bindV ps.toList vs t := by
  unfold bindV
  rw [← Array.foldl_toList]
  congr 1
  simp

theorem bindP_ok {n : Nat} : (ps : List Tmp) → (ss : List SV) → (vs : List Value) → (tm : List (Nat × SV)) → (t : Array Value) → SV.denL ρ I w ss vs → ps.length = ss.length → (∀ p ∈ ps, p < n) →
    t.size = n → (∀ d, SV.den ρ I w (getT tm d) (t.getD d Go.undef)) → (bindV ps vs t).size = n ∧ ∀ d, SV.den ρ I w (getT (bindP ps ss tm) d) ((bindV ps vs t).getD d Go.undef)
  | [], [], vs, tm, t, h, _, _, hn, ht => by
    cases vs with
    | nil => exact ⟨hn, ht⟩
    | cons v vs => simp [SV.denL] at h
  | p :: ps, s :: ss, vs, tm, t, h, hl, hp, hn, ht => by
    unfold SV.denL at h
    obtain ⟨v, vs', rfl, h1, h2⟩ := h
    have hpn : p < n := hp p (by simp)
    have := bindP_ok (n := n) ps ss vs' ((p, s) :: tm) (t.setIfInBounds p v) h2 (by simpa using hl) (fun q hq => hp q (by simp [hq])) (by simp [hn]) (fun d => by
      simp only [getT]
      by_cases e : p = d
      · subst e
        simp only [beq_self_eq_true, cond_true]
        rw [Array.getD_eq_getD_getElem?, Array.getElem?_setIfInBounds_self_of_lt (by rw [hn]; exact hpn)]
        exact h1
      · have e' : (p == d) = false := by simpa using e
        simp only [e', cond_false]
        rw [Array.getD_eq_getD_getElem?, Array.getElem?_setIfInBounds_ne e, ← Array.getD_eq_getD_getElem?]
        exact ht d)
    exact this
  | [], s :: ss, _, _, _, _, hl, _, _, _ => by simp at hl
  | p :: ps, [], _, _, _, _, hl, _, _, _ => by simp at hl

def roundS (fr : Fr) (ps : List Tmp) (ss : List SV) (S : St) : St := { fr := { n := fr.n, tm := bindP ps ss fr.tm, dfr := [], cs := fr.cs }, stk := S.fr :: S.stk, res := S.res }

/-- The caller's state as it goes on. -/
def leaveS (S : St) (k : St → Prop) : Prop :=
  match S.stk with
  | fr :: l => k { fr := fr, stk := l, res := S.res }
  | [] => False

def X.going : X → Bool
  | .normal => true
  | _ => false

/-- A round, by what is to be shown of its two codes. -/
def rnd (j : Nat) (va vb : St → (X → St → Prop) → Prop) : Nat → Spec := fun i args S k =>
  match Nat.beq i j with
  | false => False
  | true => match S.res[j]? with
    | some (.loop fr ps .ready none) => match Nat.beq args.length ps.length && ps.all (Nat.blt · fr.n) with
      | false => False
      | true => va (roundS fr ps args S) fun e S2 => match e with
        | .normal => match S2.res[j]? with
          | some (.loop fr2 ps2 .ready none) => vb { S2 with res := S2.res.set j (.loop fr2 ps2 .busy none) } fun e S4 => match S4.res[j]? with
            | some (.loop fr4 ps4 _ _) => leaveS { S4 with res := S4.res.set j (.loop fr4 ps4 (bif e.going then .ready else .done) (bif e.going then none else some e)) } (k (.lit e.going))
            | _ => False
          | _ => False
        | _ => False
    | _ => False

theorem leave_ok {k : St → Prop} {a0 : Act} {ss : List SV} {vs : List Value} (h : ∃ ρ I F, Mem cx S.res ρ I F w ∧ StkOk ρ I w S.stk (a0 :: sv) ∧ SV.denL ρ I w ss vs) (hl : leaveS S k) : ∃ S', Ok cx S' a0 w sv ss vs ∧ k S' := by
  unfold leaveS at hl
  split at hl
  · rename_i fr l hstk
    obtain ⟨ρ2, I2, F2, hM2, hs2, hd2⟩ := h
    rw [hstk] at hs2
    obtain ⟨a1, sv1, e1, k1, k2⟩ := hs2
    cases e1
    exact ⟨{ fr := fr, stk := l, res := S.res }, ⟨ρ2, I2, F2, hM2, k1, k2, hd2⟩, hl⟩
  · exact hl.elim

theorem rnd_ok {j : Nat} {va vb : St → (X → St → Prop) → Prop} {asg body : Code}
    (ha : ∀ (cx : Cx) (sv : List Act) (l : Nat) (n : Nat) (S : St) (a : Act) (w : World) (K : X → St → Prop) (Q : Exit → Act → World → Prop), Ok cx S a w sv [] [] → va S K → (∀ e S' a' w', Ok cx S' a' w' sv [] [] → K e S' → Q e.out a' w') → asg.wpIn (Wf (some l)) n P Q a w)
    (hb : ∀ (cx : Cx) (sv : List Act) (l : Nat) (n : Nat) (S : St) (a : Act) (w : World) (K : X → St → Prop) (Q : Exit → Act → World → Prop), Ok cx S a w sv [] [] → vb S K → (∀ e S' a' w', Ok cx S' a' w' sv [] [] → K e S' → Q e.out a' w') → body.wpIn (Wf (some l)) n P Q a w) :
    YOk P (fun cx => ∃ l, cx.lp j = some (asg, body, l)) (rnd j va vb) := by
  intro cx S a w sv i ss v0 vs k hφ h hv
  obtain ⟨l0, hφ⟩ := hφ
  unfold rnd at hv
  split at hv
  · exact hv.elim
  · rename_i hij
    obtain rfl := Nat.eq_of_beq_eq_true hij
    split at hv
    · rename_i fr ps hres
      split at hv
      · exact hv.elim
      · rename_i hc
        simp only [Bool.and_eq_true] at hc
        have hlen := Nat.eq_of_beq_eq_true hc.1
        have hps : ∀ p ∈ ps, p < fr.n := fun p hp => Nat.lt_of_succ_le (Nat.le_of_ble_eq_true (List.all_eq_true.1 hc.2 p hp))
        obtain ⟨l, r, _, g2, g3, g4, g5, g6, ⟨ρ, I, F, hM, hf, hs, hd, hρ, htm⟩, _, _⟩ := h.record hres
        rw [hφ] at g5
        simp only [Option.some.injEq, Prod.mk.injEq] at g5
        obtain ⟨rfl, rfl, rfl⟩ := g5
        unfold SV.denL at hd
        obtain ⟨u, us, e, hu, hd'⟩ := hd
        simp only [List.cons.injEq] at e
        obtain ⟨rfl, rfl⟩ := e
        unfold SV.den at hu
        obtain ⟨l', hl', rfl⟩ := hu
        rw [hρ] at hl'
        cases hl'
        have hlen2 := SV.denL_length ss hd'
        refine ⟨l0, r, rfl, g2, by rw [hlen2, hlen, ← g6]; simp, fun n => ?_⟩
        rw [bindV_fold, g6]
        refine roundIn_of_wpIn (F := Wf none) trivial ?_
        obtain ⟨hb1, hb2⟩ := bindP_ok (ρ := ρ) (I := I) (w := w) ps ss vs fr.tm r.tmps hd' hlen.symm hps htm.1 htm.2
        have h1 : Ok cx (roundS fr ps ss S) { tmps := bindV ps vs r.tmps, defers := [] } w (a :: sv) [] [] := ⟨ρ, I, F, hM, ⟨hb1, hb2, rfl⟩, ⟨a, sv, rfl, hf, hs⟩, by simp [SV.denL]⟩
        refine ha cx (a :: sv) l0 n _ _ w _ _ h1 hv (fun e S2 a2 w2 h2 hk => ?_)
        split at hk
        · split at hk
          · rename_i fr2 ps2 hres2
            obtain ⟨l2, r2, _, q2, q3, q4, q5, q6, _, hset, _⟩ := h2.record hres2
            rw [hφ] at q5
            simp only [Option.some.injEq, Prod.mk.injEq] at q5
            obtain ⟨_, _, rfl⟩ := q5
            refine ⟨w2.putObj l0 (.loop { r2 with state := .busy }), run_beginRound q2 q3, ?_⟩
            have h3 := hset { r2 with state := .busy } .busy none rfl rfl rfl rfl rfl q4
            refine hb cx (a :: sv) l0 n _ _ _ _ _ h3 hk (fun e S4 a4 w4 h4 hk4 => ?_)
            split at hk4
            · rename_i fr4 ps4 st4 pd4 hres4
              obtain ⟨l4, r4, _, p2, p3, p4, p5, p6, _, hset4, _⟩ := h4.record hres4
              rw [hφ] at p5
              simp only [Option.some.injEq, Prod.mk.injEq] at p5
              obtain ⟨_, _, rfl⟩ := p5
              have fin : ∀ (jump : Option Code), jump = (bif e.going then none else some e).map X.code → jump.isNone = e.going →
                  ∃ v w', (Instr.endRound l0 jump).run P w4 = .ok v w' ∧ ∃ v' s S', Ending.returned v = Ending.returned v' ∧ Ok cx S' a w' sv [s] [v'] ∧ k s S' := by
                intro jump hj hg
                refine ⟨_, _, run_endRound jump p2, ?_⟩
                have h5 := hset4 { r4 with state := if jump.isNone then .ready else .done, pending := jump } (bif e.going then .ready else .done) (bif e.going then none else some e) rfl rfl rfl rfl (by rw [hg]; cases e.going <;> rfl) hj
                obtain ⟨ρ5, I5, F5, hM5, hf5, hs5, _⟩ := h5
                obtain ⟨S', k1, k2⟩ := leave_ok (ss := [.lit e.going]) (vs := [.bool jump.isNone]) ⟨ρ5, I5, F5, hM5, hs5, by simp [SV.denL, SV.den, hg]⟩ hk4
                exact ⟨_, _, S', rfl, k1, k2⟩
              cases e with
              | normal => exact fin none rfl rfl
              | ret => exact fin (some .ret) rfl rfl
              | exit id => exact fin (some (.exit id)) rfl rfl
            · exact hk4.elim
          · exact hk.elim
        · exact hk.elim
    · exact hv.elim
end
end Go.Proofs.Ytfdcmbaoekjkgaa.Gx
namespace Go.Proofs.Ytfdcmbaoekjkgaa.Gx
open Go.RowKit
set_option linter.unusedSimpArgs false
set_option linter.unusedVariables false

inductive Pt where
  | slot (d : Nat)
  | cell (i c : Nat)

def getPt (S : St) : Pt → SV
  | .slot d => getT S.fr.tm d
  | .cell i c => match S.res[i]? with
    | some (.blk _ cs) => (cs[c]?).getD .any
    | _ => .any

def setPt (S : St) (v : SV) : Pt → St
  | .slot d => { S with fr := { S.fr with tm := (d, v) :: S.fr.tm } }
  | .cell i c => match S.res[i]? with
    | some (.blk ty cs) => { S with res := S.res.set i (.blk ty (cs.set c v)) }
    | _ => S

def nilPt (S : St) (p : Pt) (e : TypeId) (t : Ty) : St :=
  match getPt S p with
  | .val (.slice none 0 0) => setPt { S with res := S.res ++ [.row e t []] } (.row S.res.length) p
  | _ => S

def frzPt (S : St) (p : Pt) : St :=
  match getPt S p with
  | .row i => match S.res[i]? with
    | some (.row _ t xs) => S.frz i t xs
    | _ => S
  | .val (.slice none 0 0) => S
  | _ => S

def nilS : List (Pt × TypeId × Ty) → St → St
  | [], S => S
  | (p, e, t) :: l, S => nilS l (nilPt S p e t)

/-- An own row takes another one's place. -/
def placeB : Res → Bool
  | .row _ _ _ => true
  | .was => true
  | _ => false

/-- The own row at j is known by the place i from now on. -/
def mvRow (S : St) (i j : Nat) : St :=
  match Nat.beq j i, S.res[i]?, S.res[j]? with
  | false, some ri, some (.row e t xs) => match placeB ri with
    | true =>
      { S.sub i .any with
        fr := (S.fr.sub i .any).sub j (.row i)
        stk := (S.stk.map (Fr.sub i .any)).map (Fr.sub j (.row i))
        res := (((S.res.map (Res.sub i .any)).map (Res.sub j (.row i))).set j .gone).set i (.row e t xs) }
    | false => S
  | _, _, _ => S

def mvPt (S : St) (p : Pt) (i : Nat) : St :=
  match getPt S p with
  | .row j => mvRow S i j
  | _ => S

def cutS : List Nat → St → St
  | [], S => S
  | d :: l, S => cutS l (cutPt S d)

def mvS : List (Pt × Nat) → St → St
  | [], S => S
  | (p, i) :: l, S => mvS l (mvPt S p i)

def frzS : List Pt → St → St
  | [], S => S
  | p :: l, S => frzS l (frzPt S p)

section
variable {P : Program} {cx : Cx} {S : St} {res : List Res} {ρ : List Value} {I : Nat → Prop} {F : Nat → Nat → Prop} {w : World} {a : Act} {sv : List Act}

theorem Mem.reholds (h : Mem cx res ρ I F w) {i : Nat} {r' : Res} (hr : i < res.length → r'.holds cx.lp ρ I w i (F i)) : Mem cx (res.set i r') ρ I F w where
  len := by simpa using h.len
  ones := h.ones
  holds := fun j r hj => by
    by_cases e : j = i
    · subst e
      have hl := (List.getElem?_eq_some_iff.1 hj).1
      rw [List.length_set] at hl
      rw [List.getElem?_set_self hl] at hj
      cases hj
      exact hr hl
    · rw [List.getElem?_set_ne (by omega)] at hj
      exact h.holds j r hj
  apart := fun i j k h1 h2 => h.apart i j k (by simpa using h1) (by simpa using h2)
  lt := fun i k h1 => h.lt i k (by simpa using h1)
  notI := fun i k h1 => h.notI i k (by simpa using h1)
  new := fun i k h1 => h.new i k (by simpa using h1)
  I0 := h.I0
  Ilt := h.Ilt
  Inew := h.Inew
  size := h.size
  os := h.os
  tape := h.tape
  output := h.output
  frame := h.frame

theorem Mem.nilRow (h : Mem cx res ρ I F w) (e : TypeId) (t : Ty) : Mem cx (res ++ [.row e t []]) (ρ ++ [.slice none 0 0]) I (fun i k => i ≠ res.length ∧ F i k) w where
  len := by simp [h.len]
  ones := fun i v hv => by
    rw [getElem?_snoc] at hv
    split at hv
    · cases hv; rfl
    · exact h.ones i v hv
  holds := fun i r hr => by
    rw [getElem?_snoc] at hr
    split at hr
    · rename_i hi
      cases hr
      refine ⟨.slice none 0 0, [], ?_, World.ownsRow_nil w 0 e t.sz, rfl, fun k => ?_⟩
      · rw [hi, ← h.len]; simp
      · simp [hi, Value.ownBlock]
    · rename_i hi
      have := Res.keep (fun _ _ h => rho_snoc (u := .slice none 0 0) h) (fun _ h => h) (fun _ _ => rfl) (fun _ _ => rfl) r (h.holds i r hr)
      have hF : (fun k => i ≠ res.length ∧ F i k) = F i := by funext k; simp [hi]
      rw [hF]; exact this
  apart := fun i j k hi hj hne h1 h2 => by
    simp at hi hj
    exact h.apart i j k (by omega) (by omega) hne h1.2 h2.2
  lt := fun i k hi h1 => by simp at hi; exact h.lt i k (by omega) h1.2
  notI := fun i k hi h1 => by simp at hi; exact h.notI i k (by omega) h1.2
  new := fun i k hi h1 => by simp at hi; exact h.new i k (by omega) h1.2
  I0 := h.I0
  Ilt := h.Ilt
  Inew := h.Inew
  size := h.size
  os := h.os
  tape := h.tape
  output := h.output
  frame := h.frame

theorem denL_set {v : SV} {u : Value} : (cs : List SV) → (c : Nat) → (vs : List Value) → SV.denL ρ I w cs vs → (∀ x, cs[c]? = some x → ∀ y, SV.den ρ I w x y → SV.den ρ I w v y) → SV.denL ρ I w (cs.set c v) vs
  | [], c, vs, h, _ => by simpa using h
  | s :: ss, 0, vs, h, hv => by
    unfold SV.denL at h
    obtain ⟨y, vs', rfl, h1, h2⟩ := h
    simp only [List.set_cons_zero]
    unfold SV.denL
    exact ⟨y, vs', rfl, hv s (by simp) y h1, h2⟩
  | s :: ss, c + 1, vs, h, hv => by
    unfold SV.denL at h
    obtain ⟨y, vs', rfl, h1, h2⟩ := h
    simp only [List.set_cons_succ]
    unfold SV.denL
    exact ⟨y, vs', rfl, h1, denL_set (u := u) ss c vs' h2 (fun x hx => hv x (by simpa using hx))⟩

theorem nilPt_ok (h : Ok cx S a w sv [] []) (p : Pt) (e : TypeId) (t : Ty) : Ok cx (nilPt S p e t) a w sv [] [] := by
  unfold nilPt
  split
  · rename_i hp
    obtain ⟨ρ, I, F, hM, hf, hs, hd⟩ := h
    have hM' := hM.nilRow e t
    have hk : ∀ (i : Nat) v, ρ[i]? = some v → (ρ ++ [Value.slice none 0 0])[i]? = some v := fun _ _ h => rho_snoc h
    have hnil : SV.den (ρ ++ [Value.slice none 0 0]) I w (.row S.res.length) (.slice none 0 0) := by
      unfold SV.den
      rw [← hM.len]; exact ⟨by simp, rfl⟩
    have hf' : FrOk (ρ ++ [Value.slice none 0 0]) I w S.fr a := hf.keep hk (fun _ h => h) (fun _ _ => rfl)
    have hs' := StkOk.keep hk (fun _ h => h) (fun _ _ => rfl) _ hs (w' := w) (I' := I)
    cases p with
    | slot d =>
      refine ⟨_, I, _, hM', ⟨hf'.1, fun t => ?_, hf'.2.2⟩, hs', by simp [SV.denL]⟩
      simp only [setPt, getT]
      by_cases e : d = t
      · subst e
        simp only [beq_self_eq_true, cond_true]
        have := hf'.2.1 d
        simp only [getPt] at hp
        rw [hp] at this
        unfold SV.den at this
        rw [this]; exact hnil
      · have e' : (d == t) = false := by simpa using e
        simp only [e', cond_false]
        exact hf'.2.1 t
    | cell i c =>
      simp only [setPt]
      simp only [getPt] at hp
      split at hp
      · rename_i ty cs hi
        have hil := (List.getElem?_eq_some_iff.1 hi).1
        have hi' : (S.res ++ [Res.row e t []])[i]? = some (.blk ty cs) := by rw [getElem?_snoc, if_neg (by omega)]; exact hi
        simp only [hi']
        refine ⟨_, I, _, hM'.reholds (fun _ => ?_), hf', hs', by simp [SV.denL]⟩
        obtain ⟨b, vs, g1, g2, g3, g4⟩ := hM'.holds i _ hi'
        refine ⟨b, vs, g1, g2, denL_set (u := .slice none 0 0) cs c vs g3 (fun x hx y hy => ?_), g4⟩
        rw [hx] at hp
        simp only [Option.getD_some] at hp
        subst hp
        unfold SV.den at hy
        subst hy
        exact hnil
      · cases hp
  · exact h

theorem frzPt_ok (h : Ok cx S a w sv [] []) (p : Pt) : Ok cx (frzPt S p) a w sv [] [] := by
  unfold frzPt
  split
  · split
    · rename_i hr
      have := h.frz hr
      simpa [SV.subL] using this
    · exact h
  · exact h
  · exact h

theorem nilS_ok : (l : List (Pt × TypeId × Ty)) → {S : St} → Ok cx S a w sv [] [] → Ok cx (nilS l S) a w sv [] []
  | [], _, h => h
  | (p, e, t) :: l, _, h => nilS_ok l (nilPt_ok h p e t)

theorem frzS_ok : (l : List Pt) → {S : St} → Ok cx S a w sv [] [] → Ok cx (frzS l S) a w sv [] []
  | [], _, h => h
  | p :: l, _, h => frzS_ok l (frzPt_ok h p)

theorem mvRow_ok (h : Ok cx S a w sv [] []) (i j : Nat) : Ok cx (mvRow S i j) a w sv [] [] := by
  unfold mvRow
  split
  · rename_i ri e t xs hb hi hj
    split
    · rename_i hpl
      have hji : j ≠ i := by rintro rfl; rw [Nat.beq_refl] at hb; cases hb
      obtain ⟨ρ, I, F, hM, hf, hs, hd⟩ := h
      have hil := (List.getElem?_eq_some_iff.1 hi).1
      have hjl := (List.getElem?_eq_some_iff.1 hj).1
      obtain ⟨Ai, ni, capi, i1⟩ : ∃ A n c, ρ[i]? = some (.slice A n c) := by
        have hh := hM.holds i _ hi
        cases ri with
        | row e0 t0 xs0 =>
          obtain ⟨vi, ci, i1, i2, _, i4⟩ := hh
          obtain ⟨Ai, capi, rfl, _⟩ := ownsRow_len i2
          exact ⟨_, _, _, i1⟩
        | was => exact hh.1
        | _ => simp [placeB] at hpl
      obtain ⟨vj, cj, j1, j2, j3, j4⟩ := hM.holds j _ hj
      obtain ⟨ρ', hρ'⟩ : ∃ ρ', ρ' = ρ.set i vj := ⟨_, rfl⟩
      have hilρ : i < ρ.length := by rw [hM.len]; exact hil
      have hne : ∀ (k : Nat) v, k ≠ i → ρ[k]? = some v → ρ'[k]? = some v := fun k v hk h => by rw [hρ', List.getElem?_set_ne (by omega)]; exact h
      have hp : ∀ (k : Nat) u, NoSl u → ρ[k]? = some u → ρ'[k]? = some u := fun k u hn h => hne k _ (fun e => by subst e; rw [i1] at h; cases h; exact hn _ _ _ rfl) h
      have hi' : ρ'[i]? = some vj := by rw [hρ', List.getElem?_set_self hilρ]
      have hany : ∀ v, ρ[i]? = some v → SV.den ρ' I w .any v := fun v _ => by simp [SV.den]
      have hrow : ∀ v, ρ'[j]? = some v → SV.den ρ' I w (.row i) v := fun v hv => by
        have := hne j vj hji j1
        rw [this] at hv
        cases hv
        unfold SV.den; exact ⟨hi', own_ne j2⟩
      have hid : ∀ (k : Nat) v, ρ'[k]? = some v → ρ'[k]? = some v := fun _ _ h => h
      have hfr := (hf.sub hne hp (fun _ h => h) (fun _ _ => rfl) hany).sub (i := j) (r := .row i) (fun k v _ h => h) (fun _ _ _ h => h) (fun _ h => h) (fun _ _ => rfl) hrow
      have hst := StkOk.sub (i := j) (r := .row i) (fun k v _ h => h) (fun _ _ _ h => h) (fun _ h => h) (fun _ _ => rfl) hrow _ (StkOk.sub hne hp (fun _ h => h) (fun _ _ => rfl) hany _ hs)
      refine ⟨ρ', I, fun k => if k = i then F j else if k = j then (fun _ => False) else F k, ?_, hfr, hst, by simp [SV.denL]⟩
      have hlen : ((((S.res.map (Res.sub i .any)).map (Res.sub j (.row i))).set j .gone).set i (.row e t xs)).length = S.res.length := by simp
      refine ⟨by rw [hlen, hρ']; simp [hM.len], ?_, ?_, ?_, ?_, ?_, ?_, hM.I0, hM.Ilt, hM.Inew, hM.size, hM.os, hM.tape, hM.output, hM.frame⟩
      · intro k v hv
        rw [hρ', List.getElem?_set] at hv
        split at hv
        · first
            | (split at hv
               · cases hv; exact hM.ones j _ j1
               · cases hv)
            | (cases hv; exact hM.ones j _ j1)
        · exact hM.ones k v hv
      · intro k r hr
        by_cases hki : k = i
        · subst hki
          rw [List.getElem?_set_self (by simpa using hil)] at hr
          cases hr
          simp only [if_true]
          exact ⟨vj, cj, hi', j2, j3, j4⟩
        · rw [List.getElem?_set_ne (by omega)] at hr
          by_cases hkj : k = j
          · subst hkj
            rw [List.getElem?_set_self (by simpa using hjl)] at hr
            cases hr
            simp only [hki, if_false, if_true]
            exact fun _ h => h
          · rw [List.getElem?_set_ne (by omega), List.getElem?_map, List.getElem?_map] at hr
            simp only [Option.map_map, Option.map_eq_some_iff, Function.comp] at hr
            obtain ⟨x, hx, rfl⟩ := hr
            simp only [hki, hkj, if_false]
            have h1 := Res.keepS (r := .any) hki hne hp (fun _ h => h) (fun _ _ => rfl) hany (fun _ _ => rfl) x (hM.holds k x hx)
            exact Res.keepS (r := .row i) hkj (fun k v _ h => h) (fun _ _ _ h => h) (fun _ h => h) (fun _ _ => rfl) hrow (fun _ _ => rfl) _ h1
      · intro k k' m hk hk' hkk h1 h2
        rw [hlen] at hk hk'
        by_cases a1 : k = i
        · subst a1
          by_cases a2 : k' = k
          · exact hkk a2.symm
          · by_cases a3 : k' = j
            · simp [a2, a3] at h2
              subst a3
              exact absurd h2 (by simp [a2])
            · simp [a2, a3] at h1 h2
              exact hM.apart j k' m hjl hk' (fun e => a3 e.symm) h1 h2
        · by_cases a3 : k = j
          · subst a3; simp [a1] at h1
          · by_cases a2 : k' = i
            · subst a2; simp [a1, a3] at h1 h2
              exact hM.apart k j m hk hjl a3 h1 h2
            · by_cases a4 : k' = j
              · subst a4; simp [a2] at h2
              · simp [a1, a2, a3, a4] at h1 h2
                exact hM.apart k k' m hk hk' hkk h1 h2
      · intro k m hk h1
        rw [hlen] at hk
        by_cases a1 : k = i
        · subst a1; simp at h1; exact hM.lt j m hjl h1
        · by_cases a3 : k = j
          · subst a3; simp [a1] at h1
          · simp [a1, a3] at h1; exact hM.lt k m hk h1
      · intro k m hk h1
        rw [hlen] at hk
        by_cases a1 : k = i
        · subst a1; simp at h1; exact hM.notI j m hjl h1
        · by_cases a3 : k = j
          · subst a3; simp [a1] at h1
          · simp [a1, a3] at h1; exact hM.notI k m hk h1
      · intro k m hk h1
        rw [hlen] at hk
        by_cases a1 : k = i
        · subst a1; simp at h1; exact hM.new j m hjl h1
        · by_cases a3 : k = j
          · subst a3; simp [a1] at h1
          · simp [a1, a3] at h1; exact hM.new k m hk h1
    · exact h
  · exact h

theorem mvPt_ok (h : Ok cx S a w sv [] []) (p : Pt) (i : Nat) : Ok cx (mvPt S p i) a w sv [] [] := by
  unfold mvPt
  split
  · exact mvRow_ok h i _
  · exact h

theorem cutS_ok : (l : List Nat) → {S : St} → Ok cx S a w sv [] [] → Ok cx (cutS l S) a w sv [] []
  | [], _, h => h
  | d :: l, _, h => cutS_ok l (cutPt_ok h d)

theorem mvS_ok : (l : List (Pt × Nat)) → {S : St} → Ok cx S a w sv [] [] → Ok cx (mvS l S) a w sv [] []
  | [], _, h => h
  | (p, i) :: l, _, h => mvS_ok l (mvPt_ok h p i)
end
end Go.Proofs.Ytfdcmbaoekjkgaa.Gx
