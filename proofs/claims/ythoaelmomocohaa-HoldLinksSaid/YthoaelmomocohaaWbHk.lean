/- What the functions of the program give, one by one, and the law. -/
import Derived.Test.YthoaelmomocohaaWaHk
namespace Go.Proofs.Ythoaelmomocohaa
open Go.Proofs.Ythoaelmomocohaa.Gx
set_option maxRecDepth 100000
set_option maxHeartbeats 4000000
set_option linter.unusedSimpArgs false
set_option linter.unusedVariables false
theorem one_wfT {α : Type} {inn : α → tblT.den} {ss : α → List SV} {pre : α → Prop} {r : α → SV} {out : α → tblT.den} (hr : ∀ x, SV.wf 1 (r x) = true) : ∀ A ∈ (turnsT α inn ss pre r out).alts, ∀ x y, SV.wf (A.outs x y).length (A.r x y) = true ∧ 1 ≤ (A.outs x y).length := by
  intro A hA
  obtain rfl := List.mem_singleton.1 hA
  exact fun x y => ⟨hr x, Nat.le_refl 1⟩
theorem one_wflT {α : Type} {inn : α → tblT.den} {ss : α → List SV} {pre : α → Prop} {r : α → SV} (hr : ∀ x, SV.wf 1 (r x) = true) : ∀ A ∈ (looksT α inn ss pre r).alts, ∀ x y, SV.wf (A.outs x y).length (A.r x y) = true ∧ 1 ≤ (A.outs x y).length := by
  intro A hA
  obtain rfl := List.mem_singleton.1 hA
  exact fun x y => ⟨hr x, Nat.le_refl 1⟩
theorem lenT_ok : lenTC.H.ok PP 23 := by
  refine lenTC.ok_of (one_wflT fun _ => rfl) ?_
  refine hc_of mixed (fn := Try.f23) (c := c23) rfl rfl lenTC.U (fun x => rfl) ?_
  rintro ⟨T, (y : TbIn)⟩ ⟨-, hrel⟩
  have hrel : TbRel T y := hrel
  refine ⟨e0, env_ok .., rfl, hold (lenT_vc T y) ?_⟩
  simp only [true_and, and_true]
  exact ⟨((), y, ()), hrel, by rw [rel_len hrel], rfl, rfl, rfl, rfl⟩
theorem hasT_ok : hasC.H.ok PP 21 := by
  refine hasC.ok_of (one_wflT fun _ => rfl) ?_
  refine hc_of mixed (fn := Try.f21) (c := c21) rfl rfl hasC.U (fun x => rfl) ?_
  rintro ⟨⟨T, inn, id⟩, (y : TbIn)⟩ ⟨-, hrel⟩
  have hrel : TbRel T y := hrel
  refine ⟨env PP [] [s35, s40] [] [] [], env_ok .., rfl, hold (hasT_vc T inn id y) ?_⟩
  simp only [true_and, and_true]
  have fin : ∀ b, b = hasT T inn id → ∃ (y_1 : Unit × Tup KT (1 : Nat)), TbRel T y_1.snd.fst ∧ b = hasT T inn id ∧ y.root = y_1.snd.fst.root ∧ y.es = y_1.snd.fst.es ∧ y.os = y_1.snd.fst.os ∧ y.ls = y_1.snd.fst.ls := fun b hb => ⟨((), y, ()), hrel, hb, rfl, rfl, rfl, rfl⟩
  cases hl : lookL T.1 inn with
  | none =>
    have e := (rel_none hrel).1 hl
    rw [e]
    exact ⟨fun _ => ⟨fun h => (by simp at h), fun _ => fin _ (by simp [hasT, hl])⟩, fun h => (by simp at h)⟩
  | some c =>
    obtain ⟨g, hd, e1, e2, e3, e4⟩ := rel_some hrel hl
    rw [e1]
    refine ⟨fun h => (by simp at h), fun _ => ⟨rfl, rfl, useGet e2 ⟨fun hk => ⟨fun h => (by simp at h), fun _ => fin _ ?_⟩, fun hk => ⟨fun _ => ⟨rfl, rfl, useGet e2 ⟨⟨e3⟩, fin _ ?_⟩⟩, fun h => (by simp at h)⟩⟩⟩⟩
    · have hk : kindOf c ≠ 1 := by simpa using hk
      simp [hasT, hl, hk]
    · have hk : kindOf c = 1 := by simpa using hk
      rw [e4]; simp [hasT, hl, hk, hasI]
theorem list_short {T : Tb} {id : Int} {c : Ob} (h : okT T) (hl : lookL T.1 id = some c) : c.2.length ≤ 1000000000 ∧ (labOf c).2.length ≤ 16 := h _ (lookL_mem hl)
theorem listT_ok : listTC.H.ok PP 26 := by
  refine listTC.ok_of (one_wflT fun _ => rfl) ?_
  refine hc_ofP Fin.frz mixed (fn := Try.f26) (c := c26) rfl rfl listTC.U (fun x => rfl) ?_
  rintro ⟨⟨T, inn⟩, (y : TbIn)⟩ ⟨hok, hrel⟩
  have hrel : TbRel T y := hrel
  have hok : okT T := hok
  refine ⟨env PP [] [s35, b45] [] [] [], env_ok .., rfl, hold (listT_vc T inn y) ?_⟩
  simp only [true_and, and_true]
  cases hl : lookL T.1 inn with
  | none =>
    have e := (rel_none hrel).1 hl
    rw [e]
    exact ⟨fun _ => ⟨fun _ => ⟨((), y, ()), hrel, ⟨by simp [listR, hl], by simp [listR, hl]⟩, rfl, rfl, rfl, rfl⟩, fun h => (by simp at h)⟩, fun h => (by simp at h)⟩
  | some c =>
    obtain ⟨g, hd, e1, e2, e3, e4⟩ := rel_some hrel hl
    rw [e1]
    refine ⟨fun h => (by simp at h), fun _ => ⟨rfl, rfl, useGet e2 ⟨fun hk => ⟨fun _ => ⟨((), y, ()), hrel, ?_, rfl, rfl, rfl, rfl⟩, fun h => (by simp at h)⟩, fun hk => ⟨fun h => (by simp at h), fun _ => ⟨rfl, rfl, useGet e2 ⟨⟨e3⟩, ?_, ((), y, ()), hrel, ?_, rfl, rfl, rfl, rfl⟩⟩⟩⟩⟩⟩
    · have hk : kindOf c ≠ 1 := by simpa using hk
      simp [listR, hl, hk]
    · rw [e4]
      have := (list_short hok hl).1
      simp only [shortB, decide_eq_true_eq]; omega
    · have hk : kindOf c = 1 := by simpa using hk
      rw [e4]; simp [listR, hl, hk]
theorem info_ok : infoC.H.ok PP 15 := by
  refine infoC.ok_of (one_wflT fun _ => rfl) ?_
  refine hc_of mixed (fn := Try.f15) (c := c15) rfl rfl infoC.U (fun x => rfl) ?_
  rintro ⟨⟨T, id⟩, (y : TbIn)⟩ ⟨hok, hrel⟩
  have hrel : TbRel T y := hrel
  have hok : okT T := hok
  refine ⟨env PP [p34] [s37] [] [] [], env_ok .., rfl, hold (info_vc T id y) ?_⟩
  simp only [true_and, and_true]
  cases hl : lookL T.1 id with
  | none =>
    have e := (rel_none hrel).1 hl
    rw [e]
    refine ⟨fun _ => ⟨((), y, ()), hrel, ?_, rfl, rfl, rfl, rfl⟩, fun h => (by simp at h)⟩
    simp [infoR, hl, noInfo]
  | some c =>
    obtain ⟨g, hd, e1, e2, e3, e4⟩ := rel_some hrel hl
    rw [e1]
    refine ⟨fun h => (by simp at h), fun _ => ⟨rfl, rfl, useGet e2 ⟨?_, ((), y, ()), hrel, ?_, rfl, rfl, rfl, rfl⟩⟩⟩
    · have := (list_short hok hl).2
      simp only [shortE, decide_eq_true_eq]
      exact Nat.le_trans this (by decide)
    · simp [infoR, hl]
theorem relabel_ok : relabelC.H.ok PP 27 := by
  refine relabelC.ok_of (one_wfT fun _ => rfl) ?_
  refine hc_of mixed (fn := Try.f27) (c := c27) rfl rfl relabelC.U (fun x => rfl) ?_
  rintro ⟨⟨T, id, l⟩, (y : TbIn)⟩ ⟨-, hrel⟩
  have hrel : TbRel T y := hrel
  refine ⟨env PP [p34, p48] [s37] [] [] [], env_ok .., rfl, hold (relabel_vc T id l y) ?_⟩
  simp only [true_and, and_true]
  cases hl : lookL T.1 id with
  | none =>
    have e := (rel_none hrel).1 hl
    have hR : relabelR T id l = (4, T) := by simp [relabelR, hl]
    rw [e, hR]
    exact ⟨fun _ => ⟨((), y, ()), hrel, rfl, rfl, rfl, rfl, rfl⟩, fun h => (by simp at h)⟩
  | some c =>
    obtain ⟨g, hd, e1, e2, e3, e4⟩ := rel_some hrel hl
    rw [e1]
    refine ⟨fun h => (by simp at h), fun _ => ⟨rfl, rfl, useGet e2 ⟨fun hk => ?_, fun hk => ⟨fun hp => ?_, fun hp => ⟨?_, rfl, rfl, useGet e2 ?_⟩⟩⟩⟩⟩
    · have hk : kindOf c ≠ 4 := by simpa using hk
      have hR : relabelR T id l = (5, T) := by simp [relabelR, hl, hk]
      rw [hR]; exact ⟨((), y, ()), hrel, rfl, rfl, rfl, rfl, rfl⟩
    · have hk : kindOf c = 4 := by simpa using hk
      have hp : plainL l = false := by simpa using hp
      have hR : relabelR T id l = (1, T) := by simp [relabelR, hl, hk, hp]
      rw [hR]; exact ⟨((), y, ()), hrel, rfl, rfl, rfl, rfl, rfl⟩
    · have hp : plainL l = true := by simpa using hp
      have : rightL l = true := by unfold plainL at hp; simp at hp; exact hp.1
      have := right_len this
      simp only [shortE, decide_eq_true_eq]; omega
    · have hk : kindOf c = 4 := by simpa using hk
      have hp : plainL l = true := by simpa using hp
      have hR : relabelR T id l = (0, (insL T.1 id (setL c l), T.2)) := by simp [relabelR, hl, hk, hp]
      rw [hR]
      have := rel_info (i' := (setL c l).1) hrel e1 e2 e3
      rw [e4] at this
      exact ⟨((), ⟨y.es, y.root, famSet y.os g 0 ((setL c l).1, hd), y.ls⟩, ()), this, rfl, rfl, rfl, rfl, rfl⟩
end Go.Proofs.Ythoaelmomocohaa
namespace Go.Proofs.Ythoaelmomocohaa
open Go.Proofs.Ythoaelmomocohaa.Gx
set_option maxRecDepth 100000
set_option maxHeartbeats 4000000
set_option linter.unusedSimpArgs false
set_option linter.unusedVariables false
theorem shift_ok : shiftC.H.ok PP 18 := by
  refine shiftC.ok_of (one_wfT fun _ => rfl) ?_
  refine hc_of mixed (fn := Try.f18) (c := c18) rfl rfl shiftC.U (fun x => rfl) ?_
  rintro ⟨⟨T, inn, id, n⟩, (y : TbIn)⟩ ⟨hth, hrel⟩
  have hrel : TbRel T y := hrel
  have hth : thereT T := hth
  refine ⟨env PP [] [s41, s38] [] [] [], env_ok .., rfl, hold (shift_vc T inn id n y) ?_⟩
  simp only [true_and, and_true]
  have fin : ∀ b, shiftR T inn id n = (b, T) → ∃ (y_1 : Unit × Tup KT (1 : Nat)), TbRel (shiftR T inn id n).snd y_1.snd.fst ∧ b = (shiftR T inn id n).fst ∧ y.root = y_1.snd.fst.root ∧ y.es = y_1.snd.fst.es ∧ y.os = y_1.snd.fst.os ∧ y.ls = y_1.snd.fst.ls := fun b hb => by rw [hb]; exact ⟨((), y, ()), hrel, rfl, rfl, rfl, rfl, rfl⟩
  cases hl : lookL T.1 inn with
  | none =>
    have e := (rel_none hrel).1 hl
    rw [e]
    exact ⟨fun _ => ⟨fun _ => ⟨fun _ => fin _ (by simp [shiftR, hl]), fun h => (by simp at h)⟩, fun h => (by simp at h)⟩, fun h => (by simp at h)⟩
  | some c =>
    obtain ⟨gc, hdc, e1, e2, e3, e4⟩ := rel_some hrel hl
    rw [e1]
    refine ⟨fun h => (by simp at h), fun _ => ⟨rfl, rfl, useGet e2 ⟨fun hk => ⟨fun _ => ⟨fun _ => fin _ ?_, fun h => (by simp at h)⟩, fun h => (by simp at h)⟩, fun hk => ⟨fun h => (by simp at h), fun _ => ⟨rfl, rfl, useGet e2 ⟨⟨e3⟩, fun hh => ⟨fun _ => fin _ ?_, fun h => (by simp at h)⟩, fun hh => ⟨fun h => (by simp at h), fun _ => ?_⟩⟩⟩⟩⟩⟩⟩
    · have hk : kindOf c ≠ 1 := by simpa using hk
      simp [shiftR, hl, hk]
    · have hk : kindOf c = 1 := by simpa using hk
      rw [e4] at hh
      have hh : c.2.contains id = false := by simpa [hasI] using hh
      simp only [shiftR, hl, hk, hh]; simp
    have hk : kindOf c = 1 := by simpa using hk
    rw [e4] at hh
    have hh : c.2.contains id = true := by simpa [hasI] using hh
    have hid := hth _ (lookL_mem hl) id (by simpa using hh)
    cases hlx : lookL T.1 id with
    | none => rw [hlx] at hid; cases hid
    | some x =>
      obtain ⟨gx, hdx, f1, f2, f3, f4⟩ := rel_some hrel hlx
      rw [f1]
      have hR0 : shiftR T inn id n = (if kindOf x ≠ 1 then (5, T) else if n < -1099511627776 ∨ n > 1099511627776 then (1, T)
        else if n > roomOf c ∨ IntKind.i64.wrap (-n) > roomOf x ∨ IntKind.i64.wrap (quotaOf x + n) < 1 ∨ IntKind.i64.wrap (quotaOf x + n) > 1099511627776 then (6, T)
        else (0, (insL (insL T.1 id (setQ x (IntKind.i64.wrap (quotaOf x + n)))) inn (setU ((lookL (insL T.1 id (setQ x (IntKind.i64.wrap (quotaOf x + n)))) inn).getD c) (IntKind.i64.wrap (usedOf c + n))), T.2))) := by
        unfold shiftR
        rw [hl]
        simp only
        rw [if_neg (by simp [hk]), if_neg (by rw [hh]; simp), hlx]
      refine ⟨rfl, rfl, useGet f2 ⟨fun hkx => fin _ ?_, fun hkx => ⟨decide (n < -1099511627776) || decide (n > 1099511627776), ⟨fun h => (by rw [h]; rfl), fun h => (by simp at h; simp [h])⟩, fun hv => fin _ ?_, fun hv => ⟨rfl, rfl, useGet e2 ⟨rfl, rfl, useGet e2 ⟨fun h1 => ⟨rfl, rfl, useGet f2 ⟨rfl, rfl, useGet f2 ⟨fun h2 => ⟨rfl, rfl, useGet f2 ⟨fun h3 => ⟨rfl, rfl, useGet f2 ⟨fun h4 => fin _ ?_, fun h4 => ⟨rfl, rfl, useGet f2 ⟨rfl, rfl, useGet f2 ?_⟩⟩⟩⟩, fun h3 => fin _ ?_⟩⟩, fun h2 => fin _ ?_⟩⟩⟩, fun h1 => fin _ ?_⟩⟩⟩⟩⟩⟩
      · have hkx : kindOf x ≠ 1 := by simpa using hkx
        rw [hR0, if_pos hkx]
      · have hkx : kindOf x = 1 := by simpa using hkx
        have hv : n < -1099511627776 ∨ n > 1099511627776 := by simpa using hv
        rw [hR0, if_neg (by simp [hkx]), if_pos hv]
      all_goals
        have hkx : kindOf x = 1 := by simpa using hkx
        have hv : ¬ (n < -1099511627776 ∨ n > 1099511627776) := by simp at hv; omega
      · have h4 : IntKind.i64.wrap (quotaOf x + n) > 1099511627776 := by simpa using h4
        rw [hR0, if_neg (by simp [hkx]), if_neg hv, if_pos (.inr (.inr (.inr h4)))]
      · have h1 : ¬ n > roomOf c := by simpa [roomOf] using h1
        have h2 : ¬ IntKind.i64.wrap (-n) > roomOf x := by rw [Int.zero_sub] at h2; simpa [roomOf] using h2
        have h3 : ¬ IntKind.i64.wrap (quotaOf x + n) < 1 := by simpa using h3
        have h4 : ¬ IntKind.i64.wrap (quotaOf x + n) > 1099511627776 := by simpa using h4
        have hall : ¬ (n > roomOf c ∨ IntKind.i64.wrap (-n) > roomOf x ∨ IntKind.i64.wrap (quotaOf x + n) < 1 ∨ IntKind.i64.wrap (quotaOf x + n) > 1099511627776) := by
          rintro (h | h | h | h)
          · exact h1 h
          · exact h2 h
          · exact h3 h
          · exact h4 h
        rw [hR0, if_neg (by simp [hkx]), if_neg hv, if_neg hall]
        have r1 := rel_info (i' := (setQ x (IntKind.i64.wrap (quotaOf x + n))).1) hrel f1 f2 f3
        rw [f4] at r1
        have r1 : TbRel (insL T.1 id (setQ x (IntKind.i64.wrap (quotaOf x + n))), T.2) _ := r1
        obtain ⟨c', hl', hu⟩ : ∃ c', lookL (insL T.1 id (setQ x (IntKind.i64.wrap (quotaOf x + n)))) inn = some c' ∧ usedOf c' = usedOf c := by
          rw [lookL_insL]
          by_cases e : inn = id
          · subst e
            rw [hl] at hlx
            cases hlx
            exact ⟨setQ c (IntKind.i64.wrap (quotaOf c + n)), by rw [if_pos rfl], rfl⟩
          · exact ⟨c, by rw [if_neg e, hl], rfl⟩
        obtain ⟨g', hd', k1, k2, k3, k4⟩ := rel_some r1 hl'
        have : g' = gc := by
          have k1 : lookL y.es inn = some (some g') := k1
          rw [e1] at k1; simpa using k1.symm
        subst this
        have r2 := rel_info (i' := (setU c' (IntKind.i64.wrap (usedOf c' + n))).1) r1 k1 k2 k3
        rw [k4] at r2
        refine ⟨rfl, rfl, useGet k2 ⟨rfl, rfl, useGet k2 ⟨((), ⟨y.es, y.root, famSet (famSet y.os gx 0 ((setQ x (IntKind.i64.wrap (quotaOf x + n))).1, hdx)) g' 0 ((setU c' (IntKind.i64.wrap (usedOf c' + n))).1, hd'), y.ls⟩, ()), ?_, rfl, rfl, rfl, rfl, rfl⟩⟩⟩
        rw [hl']
        simp only [Option.getD_some]
        rw [← hu]
        exact r2
      · have h3 : IntKind.i64.wrap (quotaOf x + n) < 1 := by simpa using h3
        rw [hR0, if_neg (by simp [hkx]), if_neg hv, if_pos (.inr (.inr (.inl h3)))]
      · have h2 : IntKind.i64.wrap (-n) > roomOf x := by rw [Int.zero_sub] at h2; simpa [roomOf] using h2
        rw [hR0, if_neg (by simp [hkx]), if_neg hv, if_pos (.inr (.inl h2))]
      · have h1 : n > roomOf c := by simpa [roomOf] using h1
        rw [hR0, if_neg (by simp [hkx]), if_neg hv, if_pos (.inl h1)]
end Go.Proofs.Ythoaelmomocohaa
namespace Go.Proofs.Ythoaelmomocohaa
open Go.Proofs.Ythoaelmomocohaa.Gx
set_option maxRecDepth 100000
set_option maxHeartbeats 8000000
set_option linter.unusedSimpArgs false
set_option linter.unusedVariables false
theorem insL_insL {α : Type} : (l : List (Int × α)) → (k : Int) → (a b : α) → insL (insL l k a) k b = insL l k b
  | [], k, a, b => by simp [insL]
  | x :: l, k, a, b => by
    by_cases e : x.1 = k
    · simp [insL, e]
    · simp [insL, e, insL_insL l k a b]
theorem link_tail {T : Tb} {y : TbIn} {A B : Option Nat} {inn id : Int} {c x : Ob} {R : Int × Tb} (hrel : TbRel T y) (hI : lookL T.1 inn = some c) (hD : lookL T.1 id = some x) (hA : lookL y.es inn = some A) (hB : lookL y.es id = some B) (hne : inn ≠ id) (hsh : c.2.length ≤ 1000000000) (hR : R = (0, linkT T inn id c x)) :
    A.isSome = true ∧ A.isSome = true ∧ B.isSome = true ∧ B.isSome = true ∧ (∃ (y_4 : (Int × Int × Int × Int × Int × Int × List (Int × Int)) × Hd), famGet y.os (B.getD 0) 0 = some y_4) ∧ ∀ (y_4 : (Int × Int × Int × Int × Int × Int × List (Int × Int)) × Hd), famGet y.os (B.getD 0) 0 = some y_4 → (∃ (y_5 : (Int × Int × Int × Int × Int × Int × List (Int × Int)) × Hd), famGet y.os (A.getD 0) 0 = some y_5) ∧ ∀ (y_5 : (Int × Int × Int × Int × Int × Int × List (Int × Int)) × Hd), famGet y.os (A.getD 0) 0 = some y_5 → HdIn y.ls y_5.snd ∧ (y_5.snd.len + [y_4.fst.fst].length) * 8 ≤ 140737488355328 ∧ ∀ (h' : Hd) (os' : List (Nat × Nat × List Int)), AppPost y.ls y_5.snd [y_4.fst.fst] h' os' → (∃ (y_6 : (Int × Int × Int × Int × Int × Int × List (Int × Int)) × Hd), famGet y.os (A.getD 0) 0 = some y_6) ∧ ∀ (y_6 : (Int × Int × Int × Int × Int × Int × List (Int × Int)) × Hd), famGet y.os (A.getD 0) 0 = some y_6 → A.isSome = true ∧ A.isSome = true ∧ (∃ (y_7 : (Int × Int × Int × Int × Int × Int × List (Int × Int)) × Hd), famGet (famSet y.os (A.getD 0) 0 ((y_6.fst.fst, y_6.fst.snd.fst, y_6.fst.snd.snd.fst, y_6.fst.snd.snd.snd.fst, y_6.fst.snd.snd.snd.snd.fst, y_6.fst.snd.snd.snd.snd.snd.fst, y_6.fst.snd.snd.snd.snd.snd.snd), h')) (A.getD 0) 0 = some y_7) ∧ ∀ (y_7 : (Int × Int × Int × Int × Int × Int × List (Int × Int)) × Hd), famGet (famSet y.os (A.getD 0) 0 ((y_6.fst.fst, y_6.fst.snd.fst, y_6.fst.snd.snd.fst, y_6.fst.snd.snd.snd.fst, y_6.fst.snd.snd.snd.snd.fst, y_6.fst.snd.snd.snd.snd.snd.fst, y_6.fst.snd.snd.snd.snd.snd.snd), h')) (A.getD 0) 0 = some y_7 → B.isSome = true ∧ B.isSome = true ∧ (∃ (y_8 : (Int × Int × Int × Int × Int × Int × List (Int × Int)) × Hd), famGet (famSet y.os (A.getD 0) 0 ((y_6.fst.fst, y_6.fst.snd.fst, y_6.fst.snd.snd.fst, y_6.fst.snd.snd.snd.fst, y_6.fst.snd.snd.snd.snd.fst, y_6.fst.snd.snd.snd.snd.snd.fst, y_6.fst.snd.snd.snd.snd.snd.snd), h')) (B.getD 0) 0 = some y_8) ∧ ∀ (y_8 : (Int × Int × Int × Int × Int × Int × List (Int × Int)) × Hd), famGet (famSet y.os (A.getD 0) 0 ((y_6.fst.fst, y_6.fst.snd.fst, y_6.fst.snd.snd.fst, y_6.fst.snd.snd.snd.fst, y_6.fst.snd.snd.snd.snd.fst, y_6.fst.snd.snd.snd.snd.snd.fst, y_6.fst.snd.snd.snd.snd.snd.snd), h')) (B.getD 0) 0 = some y_8 → A.isSome = true ∧ A.isSome = true ∧ (∃ (y_9 : (Int × Int × Int × Int × Int × Int × List (Int × Int)) × Hd), famGet (famSet y.os (A.getD 0) 0 ((y_6.fst.fst, y_6.fst.snd.fst, y_6.fst.snd.snd.fst, y_6.fst.snd.snd.snd.fst, y_6.fst.snd.snd.snd.snd.fst, y_6.fst.snd.snd.snd.snd.snd.fst, y_6.fst.snd.snd.snd.snd.snd.snd), h')) (A.getD 0) 0 = some y_9) ∧ ∀ (y_9 : (Int × Int × Int × Int × Int × Int × List (Int × Int)) × Hd), famGet (famSet y.os (A.getD 0) 0 ((y_6.fst.fst, y_6.fst.snd.fst, y_6.fst.snd.snd.fst, y_6.fst.snd.snd.snd.fst, y_6.fst.snd.snd.snd.snd.fst, y_6.fst.snd.snd.snd.snd.snd.fst, y_6.fst.snd.snd.snd.snd.snd.snd), h')) (A.getD 0) 0 = some y_9 → B.isSome = true ∧ B.isSome = true ∧ (∃ (y_10 : (Int × Int × Int × Int × Int × Int × List (Int × Int)) × Hd), famGet (famSet (famSet y.os (A.getD 0) 0 ((y_6.fst.fst, y_6.fst.snd.fst, y_6.fst.snd.snd.fst, y_6.fst.snd.snd.snd.fst, y_6.fst.snd.snd.snd.snd.fst, y_6.fst.snd.snd.snd.snd.snd.fst, y_6.fst.snd.snd.snd.snd.snd.snd), h')) (A.getD 0) 0 ((y_9.fst.fst, y_9.fst.snd.fst, y_9.fst.snd.snd.fst, IntKind.i64.wrap (y_7.fst.snd.snd.snd.fst + y_8.fst.snd.snd.fst), y_9.fst.snd.snd.snd.snd.fst, y_9.fst.snd.snd.snd.snd.snd.fst, y_9.fst.snd.snd.snd.snd.snd.snd), y_9.snd)) (B.getD 0) 0 = some y_10) ∧ ∀ (y_10 : (Int × Int × Int × Int × Int × Int × List (Int × Int)) × Hd), famGet (famSet (famSet y.os (A.getD 0) 0 ((y_6.fst.fst, y_6.fst.snd.fst, y_6.fst.snd.snd.fst, y_6.fst.snd.snd.snd.fst, y_6.fst.snd.snd.snd.snd.fst, y_6.fst.snd.snd.snd.snd.snd.fst, y_6.fst.snd.snd.snd.snd.snd.snd), h')) (A.getD 0) 0 ((y_9.fst.fst, y_9.fst.snd.fst, y_9.fst.snd.snd.fst, IntKind.i64.wrap (y_7.fst.snd.snd.snd.fst + y_8.fst.snd.snd.fst), y_9.fst.snd.snd.snd.snd.fst, y_9.fst.snd.snd.snd.snd.snd.fst, y_9.fst.snd.snd.snd.snd.snd.snd), y_9.snd)) (B.getD 0) 0 = some y_10 → B.isSome = true ∧ B.isSome = true ∧ (∃ (y_11 : (Int × Int × Int × Int × Int × Int × List (Int × Int)) × Hd), famGet (famSet (famSet y.os (A.getD 0) 0 ((y_6.fst.fst, y_6.fst.snd.fst, y_6.fst.snd.snd.fst, y_6.fst.snd.snd.snd.fst, y_6.fst.snd.snd.snd.snd.fst, y_6.fst.snd.snd.snd.snd.snd.fst, y_6.fst.snd.snd.snd.snd.snd.snd), h')) (A.getD 0) 0 ((y_9.fst.fst, y_9.fst.snd.fst, y_9.fst.snd.snd.fst, IntKind.i64.wrap (y_7.fst.snd.snd.snd.fst + y_8.fst.snd.snd.fst), y_9.fst.snd.snd.snd.snd.fst, y_9.fst.snd.snd.snd.snd.snd.fst, y_9.fst.snd.snd.snd.snd.snd.snd), y_9.snd)) (B.getD 0) 0 = some y_11) ∧ ∀ (y_11 : (Int × Int × Int × Int × Int × Int × List (Int × Int)) × Hd), famGet (famSet (famSet y.os (A.getD 0) 0 ((y_6.fst.fst, y_6.fst.snd.fst, y_6.fst.snd.snd.fst, y_6.fst.snd.snd.snd.fst, y_6.fst.snd.snd.snd.snd.fst, y_6.fst.snd.snd.snd.snd.snd.fst, y_6.fst.snd.snd.snd.snd.snd.snd), h')) (A.getD 0) 0 ((y_9.fst.fst, y_9.fst.snd.fst, y_9.fst.snd.snd.fst, IntKind.i64.wrap (y_7.fst.snd.snd.snd.fst + y_8.fst.snd.snd.fst), y_9.fst.snd.snd.snd.snd.fst, y_9.fst.snd.snd.snd.snd.snd.fst, y_9.fst.snd.snd.snd.snd.snd.snd), y_9.snd)) (B.getD 0) 0 = some y_11 → ∃ (y_12 : Unit × Tup KT 1), TbRel R.snd y_12.snd.fst ∧ (0 : Int) = R.fst ∧ y.root = y_12.snd.fst.root ∧ y.es = y_12.snd.fst.es ∧ famSet (famSet (famSet y.os (A.getD 0) 0 ((y_6.fst.fst, y_6.fst.snd.fst, y_6.fst.snd.snd.fst, y_6.fst.snd.snd.snd.fst, y_6.fst.snd.snd.snd.snd.fst, y_6.fst.snd.snd.snd.snd.snd.fst, y_6.fst.snd.snd.snd.snd.snd.snd), h')) (A.getD 0) 0 ((y_9.fst.fst, y_9.fst.snd.fst, y_9.fst.snd.snd.fst, IntKind.i64.wrap (y_7.fst.snd.snd.snd.fst + y_8.fst.snd.snd.fst), y_9.fst.snd.snd.snd.snd.fst, y_9.fst.snd.snd.snd.snd.snd.fst, y_9.fst.snd.snd.snd.snd.snd.snd), y_9.snd)) (B.getD 0) 0 ((y_11.fst.fst, y_11.fst.snd.fst, y_11.fst.snd.snd.fst, y_11.fst.snd.snd.snd.fst, IntKind.i64.wrap (y_10.fst.snd.snd.snd.snd.fst + (1 : Int)), y_11.fst.snd.snd.snd.snd.snd.fst, y_11.fst.snd.snd.snd.snd.snd.snd), y_11.snd) = y_12.snd.fst.os ∧ os' = y_12.snd.fst.ls := by
  obtain ⟨gc, hdc, e1, e2, e3, e4⟩ := rel_some hrel hI
  obtain ⟨gx, hdx, f1, f2, f3, f4⟩ := rel_some hrel hD
  rw [hA] at e1
  rw [hB] at f1
  cases e1
  cases f1
  have hlen := rd_len e3
  rw [e4] at hlen
  refine ⟨rfl, rfl, rfl, rfl, useGet f2 (useGet e2 ⟨⟨e3⟩, (by simp only [List.length_singleton]; omega), fun h' os' ha => useGet e2 ⟨rfl, rfl, ?_⟩⟩)⟩
  have r1 := rel_grow (i' := c.1) hrel hA e2 ha
  rw [e4] at r1
  have l1 : lookL (insL T.1 inn (c.1, c.2 ++ [x.1.1])) inn = some (c.1, c.2 ++ [x.1.1]) := by rw [lookL_insL]; simp
  have l2 : lookL (insL T.1 inn (c.1, c.2 ++ [x.1.1])) id = some x := by rw [lookL_insL, if_neg (fun e => hne e.symm)]; exact hD
  obtain ⟨g1, h1, a1, a2, a3, a4⟩ := rel_some r1 l1
  obtain ⟨g2, h2, b1, b2, b3, b4⟩ := rel_some r1 l2
  have : g1 = gc := by have a1 : lookL y.es inn = some (some g1) := a1; rw [hA] at a1; simpa using a1.symm
  subst this
  have : g2 = gx := by have b1 : lookL y.es id = some (some g2) := b1; rw [hB] at b1; simpa using b1.symm
  subst this
  have r2 := rel_info (i' := (addO c (idOf x) (quotaOf x)).1) r1 a1 a2 a3
  rw [a4, insL_insL] at r2
  have l3 : lookL (insL T.1 inn (addO c (idOf x) (quotaOf x))) id = some x := by rw [lookL_insL, if_neg (fun e => hne e.symm)]; exact hD
  obtain ⟨g3, h3, c1, c2, c3, c4⟩ := rel_some (T := (insL T.1 inn (addO c (idOf x) (quotaOf x)), T.2)) r2 l3
  have : g3 = g2 := by have c1 : lookL y.es id = some (some g3) := c1; rw [hB] at c1; simpa using c1.symm
  subst this
  have r3 := rel_info (T := (insL T.1 inn (addO c (idOf x) (quotaOf x)), T.2)) (i' := (incO x).1) r2 c1 c2 c3
  rw [c4] at r3
  refine useGet a2 ⟨rfl, rfl, useGet b2 ⟨rfl, rfl, useGet a2 ⟨rfl, rfl, useGet c2 ⟨rfl, rfl, useGet c2 ?_⟩⟩⟩⟩
  rw [hR]
  exact ⟨((), ⟨y.es, y.root, famSet (famSet (famSet y.os g1 0 (c.1, h')) g1 0 ((addO c (idOf x) (quotaOf x)).1, h1)) g3 0 ((incO x).1, h3), os'⟩, ()), r3, rfl, rfl, rfl, rfl, rfl⟩
end Go.Proofs.Ythoaelmomocohaa
namespace Go.Proofs.Ythoaelmomocohaa
open Go.Proofs.Ythoaelmomocohaa.Gx
set_option maxRecDepth 100000
set_option maxHeartbeats 8000000
set_option linter.unusedSimpArgs false
set_option linter.unusedVariables false
theorem room_at {os : OS} {g : Nat} {c : Ob} {hd : Hd} (h : famGet os g 0 = some (c.1, hd)) : roomAt os g = roomOf c := by
  simp [roomAt, h, roomOf]
theorem linkT_ok : linkC.H.ok PP 14 := by
  refine linkC.ok_of (one_wfT fun _ => rfl) ?_
  refine hc_of mixed (fn := Try.f14) (c := c14) rfl rfl linkC.U (fun x => rfl) ?_
  rintro ⟨⟨T, inn, id⟩, (y : TbIn)⟩ ⟨hok, hrel⟩
  have hrel : TbRel T y := hrel
  have hok : okT T := hok
  refine ⟨env PP [] [s35, s37, s39, s40] [] [k38] [], env_ok .., rfl, hold (linkT_vc T inn id y) ?_⟩
  simp only [true_and, and_true]
  have fin : ∀ b, linkR T inn id = (b, T) → ∃ (y_1 : Unit × Tup KT (1 : Nat)), TbRel (linkR T inn id).snd y_1.snd.fst ∧ b = (linkR T inn id).fst ∧ y.root = y_1.snd.fst.root ∧ y.es = y_1.snd.fst.es ∧ y.os = y_1.snd.fst.os ∧ y.ls = y_1.snd.fst.ls := fun b hb => by rw [hb]; exact ⟨((), y, ()), hrel, rfl, rfl, rfl, rfl, rfl⟩
  cases hlx : lookL T.1 id with
  | none =>
    have e := (rel_none hrel).1 hlx
    rw [e]
    exact ⟨fun _ => fin _ (by simp [linkR, hlx]), fun h => (by simp at h)⟩
  | some x =>
    obtain ⟨gx, hdx, f1, f2, f3, f4⟩ := rel_some hrel hlx
    cases hl : lookL T.1 inn with
    | none =>
      have e := (rel_none hrel).1 hl
      rw [e, f1]
      exact ⟨fun h => (by simp at h), fun _ => ⟨fun _ => ⟨fun _ => fin _ (by simp [linkR, hl, hlx]), fun h => (by simp at h)⟩, fun h => (by simp at h)⟩⟩
    | some c =>
      obtain ⟨gc, hdc, e1, e2, e3, e4⟩ := rel_some hrel hl
      rw [e1, f1]
      have f2' : famGet y.os (((some (some gx)).getD none).getD 0) 0 = some (x.1, hdx) := f2
      refine ⟨fun h => (by simp at h), fun _ => ⟨fun h => (by simp at h), fun _ => ⟨rfl, rfl, useGet e2 ⟨fun hk => ⟨fun _ => fin _ ?_, fun h => (by simp at h)⟩, fun hk => ⟨fun h => (by simp at h), fun _ => ⟨decide (kindOf x ≠ 2) && decide (kindOf x ≠ 5), ⟨rfl, rfl, useGet f2 ⟨fun h2 => ⟨rfl, rfl, useGet f2 ?_⟩, fun h2 => ?_⟩⟩, fun hv => fin _ ?_, fun hv => ⟨rfl, rfl, useGet e2 ⟨⟨e3⟩, fun hh => fin _ ?_, fun hh => ⟨rfl, rfl, useGet f2 ⟨⟨rfl, rfl, ⟨_, e2⟩⟩, fun hq => fin _ ?_, fun hq => ?_⟩⟩⟩⟩⟩⟩⟩⟩⟩⟩
      · have hk : kindOf c ≠ 1 := by simpa using hk
        simp only [linkR, hl, hlx]; rw [if_pos hk]
      · have h2 : kindOf x ≠ 2 := by simpa using h2
        simp only [h2, ne_eq, not_false_eq_true, decide_true, Bool.true_and]
        rw [bne, Bool.eq_iff_iff]; simp
      · have h2 : kindOf x = 2 := by simpa using h2
        simp [h2]
      all_goals have hk : ¬ kindOf c ≠ 1 := by simpa using hk
      · have hv : kindOf x ≠ 2 ∧ kindOf x ≠ 5 := by simpa using hv
        simp only [linkR, hl, hlx]; rw [if_neg hk, if_pos hv]
      all_goals have hv : ¬ (kindOf x ≠ 2 ∧ kindOf x ≠ 5) := fun h => (by rw [decide_eq_true h.1, decide_eq_true h.2] at hv; cases hv)
      · rw [e4] at hh
        have hh : c.2.contains id = true := by simpa [hasI] using hh
        simp only [linkR, hl, hlx]; rw [if_neg hk, if_neg hv, if_pos hh]
      all_goals
        rw [e4] at hh
        have hh : ¬ c.2.contains id = true := by simpa [hasI] using hh
        have hq0 := room_at e2
      · have hq : quotaOf x > roomOf c := by rw [← hq0]; simpa using hq
        simp only [linkR, hl, hlx]; rw [if_neg hk, if_neg hv, if_neg hh, if_pos hq]
      · have hq : ¬ quotaOf x > roomOf c := by rw [← hq0]; simpa using hq
        refine link_tail hrel hl hlx e1 f1 (fun e => ?_) (list_short hok hl).1 ?_
        · subst e
          have hcx : c = x := by rw [hl] at hlx; exact Option.some.inj hlx
          have h1 : kindOf x = 1 := by rw [← hcx]; omega
          exact hv ⟨by omega, by omega⟩
        · simp only [linkR, hl, hlx]; rw [if_neg hk, if_neg hv, if_neg hh, if_neg hq]
theorem insL_new {α : Type} : {l : List (Int × α)} → {k : Int} → lookL l k = none → (v : α) → insL l k v = l ++ [(k, v)]
  | [], _, _, _ => rfl
  | x :: l, k, h, v => by
    unfold lookL at h
    split at h
    · cases h
    · rename_i hne
      simp only [insL, if_neg hne, insL_new h v, List.cons_append]
/-- A new object. -/
theorem rel_new {T : Tb} {y : TbIn} {id : Int} {b : Nat} (i : Info) (h : TbRel T y) (hl : lookL T.1 id = none) (hb : lookN y.os b = none) :
    TbRel (insL T.1 id (i, []), T.2) ⟨insL y.es id (some b), y.root, (b, (1, [(i, nilHd)])) :: y.os, y.ls⟩ := by
  have he := (rel_none h).1 hl
  have hnew : famGet ((b, (1, [(i, nilHd)])) :: y.os) b 0 = some (i, nilHd) := by simp [famGet, lookN]
  have hold : ∀ g i' h', famGet y.os g 0 = some (i', h') → famGet ((b, (1, [(i, nilHd)])) :: y.os) g 0 = some (i', h') := by
    intro g i' h' hg
    have : g ≠ b := fun e => by subst e; simp [famGet, hb] at hg
    simp only [famGet, lookN] at hg ⊢
    rw [if_neg (fun e => this e.symm)]; exact hg
  have hx : ∀ x ∈ y.es, famGet ((b, (1, [(i, nilHd)])) :: y.os) (x.2.getD 0) 0 = famGet y.os (x.2.getD 0) 0 := fun x hx => by
    obtain ⟨g, i', h', e1, e2, _⟩ := h.there x hx
    rw [e1]; simp only [Option.getD_some]
    rw [e2, hold g i' h' e2]
  have hxb : ∀ x ∈ y.es, x.2 ≠ some b := fun x hx e => by
    obtain ⟨g, i', h', e1, e2, _⟩ := h.there x hx
    rw [e] at e1
    cases e1
    simp [famGet, hb] at e2
  have hk : ∀ x ∈ y.es, x.1 ≠ id := fun x hx e => (lookL_none _).1 he (by rw [← e]; exact List.mem_map_of_mem hx)
  rw [insL_new hl, insL_new he]
  refine ⟨h.root, ?_, ?_, ?_, ?_, ?_⟩
  · show T.1 ++ [(id, (i, []))] = (y.es ++ [(id, some b)]).map _
    rw [List.map_append, h.all]
    congr 1
    · refine List.map_congr_left fun x hxm => ?_
      unfold obAt; rw [hx x hxm]
    · simp only [List.map_cons, List.map_nil, Option.getD_some]
      unfold obAt; rw [hnew]; rfl
  · show ((y.es ++ [(id, some b)]).map (·.1)).Nodup
    rw [List.map_append, List.nodup_append]
    refine ⟨h.keys, by simp, fun a ha c hc => ?_⟩
    obtain rfl := List.mem_singleton.1 hc
    rintro rfl
    exact (lookL_none _).1 he ha
  · intro x hxm
    rcases List.mem_append.1 hxm with hxm | hxm
    · obtain ⟨g, i', h', e1, e2, e3⟩ := h.there x hxm
      exact ⟨g, i', h', e1, hold g i' h' e2, e3⟩
    · obtain rfl := List.mem_singleton.1 hxm
      exact ⟨b, i, nilHd, rfl, hnew, rfl⟩
  · intro x hxm z hzm hne
    rcases List.mem_append.1 hxm with hxm | hxm <;> rcases List.mem_append.1 hzm with hzm | hzm
    · exact h.apart x hxm z hzm hne
    · obtain rfl := List.mem_singleton.1 hzm; exact hxb x hxm
    · obtain rfl := List.mem_singleton.1 hxm; exact fun e => hxb z hzm e.symm
    · obtain rfl := List.mem_singleton.1 hxm; obtain rfl := List.mem_singleton.1 hzm; exact absurd rfl hne
  · have hdo : ∀ x ∈ y.es, hdAt ((b, (1, [(i, nilHd)])) :: y.os) (x.2.getD 0) = hdAt y.os (x.2.getD 0) := fun x hxm => by unfold hdAt; rw [hx x hxm]
    have hdn : hdAt ((b, (1, [(i, nilHd)])) :: y.os) b = nilHd := by unfold hdAt; rw [hnew]; rfl
    intro x hxm z hzm hne k hk2
    rcases List.mem_append.1 hxm with hxm | hxm <;> rcases List.mem_append.1 hzm with hzm | hzm
    · rw [hdo x hxm] at hk2
      rw [hdo z hzm]; exact h.heads x hxm z hzm hne k hk2
    · obtain rfl := List.mem_singleton.1 hzm
      show (hdAt _ b).b ≠ some k
      rw [hdn]; simp [nilHd]
    · obtain rfl := List.mem_singleton.1 hxm
      have hk2 : (hdAt ((b, (1, [(i, nilHd)])) :: y.os) b).b = some k := hk2
      rw [hdn] at hk2; cases hk2
    · obtain rfl := List.mem_singleton.1 hxm; obtain rfl := List.mem_singleton.1 hzm; exact absurd rfl hne
end Go.Proofs.Ythoaelmomocohaa
namespace Go.Proofs.Ythoaelmomocohaa
open Go.Proofs.Ythoaelmomocohaa.Gx
set_option maxRecDepth 100000
set_option maxHeartbeats 8000000
set_option linter.unusedSimpArgs false
set_option linter.unusedVariables false
theorem may_short {k : Int} {l : Lab} (h : mayL k l = true) : l.2.length ≤ 16 := by
  unfold mayL at h
  have hp : ∀ {l : Lab}, plainL l = true → l.2.length ≤ 16 := fun {l} hp => by
    unfold plainL at hp; simp at hp; exact right_len hp.1
  split at h
  · exact hp h
  · unfold freeL at h; simp at h; exact hp h.1
theorem rel_isNone {T : Tb} {y : TbIn} (h : TbRel T y) (id : Int) : ((lookL y.es id).getD none).isNone = !(lookL T.1 id).isSome := by
  cases hl : lookL T.1 id with
  | none => rw [(rel_none h).1 hl]; rfl
  | some x => obtain ⟨g, hd, e1, _⟩ := rel_some h hl; rw [e1]; rfl
theorem make_ok : makeC.H.ok PP 13 := by
  refine makeC.ok_of (one_wfT fun _ => rfl) ?_
  refine hc_ofP (Fin.perm fun S => match S.res.length with | 7 => [0, 1, 2, 3] | _ => [0, 1, 2, 3]) mixed (fn := Try.f13) (c := c13) rfl rfl makeC.U (fun x => rfl) ?_
  rintro ⟨⟨T, inn, id, kind, quota, l⟩, (y : TbIn)⟩ ⟨hok, hrel⟩
  have hrel : TbRel T y := hrel
  have hok : okT T := hok
  refine ⟨env PP [p34, p36] [s35, s37, s38, s39] [] [] [], env_ok .., rfl, hold (make_vc T inn id kind quota l y) ?_⟩
  simp only [true_and, and_true]
  have fin : ∀ b, makeT T inn id kind quota l = (b, T) → ∃ (y_1 : Unit × Tup KT (1 : Nat)), TbRel (makeT T inn id kind quota l).snd y_1.snd.fst ∧ b = (makeT T inn id kind quota l).fst ∧ y.root = y_1.snd.fst.root ∧ y.es = y_1.snd.fst.es ∧ y.os = y_1.snd.fst.os ∧ y.ls = y_1.snd.fst.ls := fun b hb => by rw [hb]; exact ⟨((), y, ()), hrel, rfl, rfl, rfl, rfl, rfl⟩
  cases hl : lookL T.1 inn with
  | none =>
    have e := (rel_none hrel).1 hl
    rw [e]
    exact ⟨fun _ => ⟨fun _ => fin _ (by simp [makeT, hl]), fun h => (by simp at h)⟩, fun h => (by simp at h)⟩
  | some c =>
    obtain ⟨gc, hdc, e1, e2, e3, e4⟩ := rel_some hrel hl
    have hM : makeT T inn id kind quota l = (if kindOf c ≠ 1 then (5, T)
      else if kind < 1 ∨ kind > 6 then (5, T)
      else if quota < 1 ∨ quota > 1099511627776 ∨ mayL kind l = false then (1, T)
      else if id < 1 ∨ id > 2305843009213693951 ∨ (lookL T.1 id).isSome = true then (8, T)
      else if T.1.length ≥ 4096 then (7, T)
      else if quota > roomOf c then (6, T)
      else (0, linkT (insL T.1 id ((id, kind, quota, 0, 0, l), []), T.2) inn id c ((id, kind, quota, 0, 0, l), []))) := by
      unfold makeT; rw [hl]
    have hD := rel_isNone hrel id
    rw [e1]
    refine ⟨fun h => (by simp at h), fun _ => ⟨rfl, rfl, useGet e2 ⟨fun hk => ⟨fun _ => fin _ ?_, fun h => (by simp at h)⟩, fun hk => ⟨fun h => (by simp at h), fun _ => ⟨decide (kind < 1) || decide (kind > 6), ⟨fun h => (by rw [h]; rfl), fun h => (by simp at h; simp [h])⟩, fun hv => fin _ ?_, fun hv => ⟨fun q1 => ⟨fun q2 => ⟨fun hm => fin _ ?_, fun hm => ⟨fun i1 => ⟨fun i2 => ⟨fun hd => fin _ ?_, fun hd => ⟨fun h7 => fin _ ?_, fun h7 => ⟨rfl, rfl, useGet e2 ⟨rfl, rfl, useGet e2 ⟨fun hq => fin _ ?_, fun hq => ⟨?_, fun b hb => ?_⟩⟩⟩⟩⟩⟩, fun i2 => fin _ ?_⟩, fun i1 => fin _ ?_⟩⟩, fun q2 => fin _ ?_⟩, fun q1 => fin _ ?_⟩⟩⟩⟩⟩⟩
    · have hk : kindOf c ≠ 1 := by simpa using hk
      rw [hM, if_pos hk]
    all_goals have hk : ¬ kindOf c ≠ 1 := by simpa using hk
    · have hv : kind < 1 ∨ kind > 6 := by simpa using hv
      rw [hM, if_neg hk, if_pos hv]
    all_goals have hv : ¬ (kind < 1 ∨ kind > 6) := by simp at hv; omega
    · have hm : mayL kind l = false := by simpa using hm
      rw [hM, if_neg hk, if_neg hv, if_pos (.inr (.inr hm))]
    · have hm : mayL kind l = true := by simpa using hm
      have hs : (lookL T.1 id).isSome = true := by rw [hD] at hd; simpa using hd
      have hqq : ¬ (quota < 1 ∨ quota > 1099511627776 ∨ mayL kind l = false) := by simp at q1 q2; rw [hm]; simp; omega
      rw [hM, if_neg hk, if_neg hv, if_neg hqq, if_pos (.inr (.inr hs))]
    · have hm : mayL kind l = true := by simpa using hm
      have hs : ¬ (lookL T.1 id).isSome = true := by rw [hD] at hd; simpa using hd
      have hqq : ¬ (quota < 1 ∨ quota > 1099511627776 ∨ mayL kind l = false) := by simp at q1 q2; rw [hm]; simp; omega
      have hii : ¬ (id < 1 ∨ id > 2305843009213693951 ∨ (lookL T.1 id).isSome = true) := by
        simp at i1 i2
        rintro (h | h | h)
        · omega
        · omega
        · exact hs h
      have h7 : T.1.length ≥ 4096 := by rw [rel_len hrel]; simp at h7; omega
      rw [hM, if_neg hk, if_neg hv, if_neg hqq, if_neg hii, if_pos h7]
    · have hm : mayL kind l = true := by simpa using hm
      have hs : ¬ (lookL T.1 id).isSome = true := by rw [hD] at hd; simpa using hd
      have hqq : ¬ (quota < 1 ∨ quota > 1099511627776 ∨ mayL kind l = false) := by simp at q1 q2; rw [hm]; simp; omega
      have hii : ¬ (id < 1 ∨ id > 2305843009213693951 ∨ (lookL T.1 id).isSome = true) := by
        simp at i1 i2
        rintro (h | h | h)
        · omega
        · omega
        · exact hs h
      have h7 : ¬ T.1.length ≥ 4096 := by rw [rel_len hrel]; simp at h7; omega
      have hq : quota > roomOf c := by simpa [roomOf] using hq
      rw [hM, if_neg hk, if_neg hv, if_neg hqq, if_neg hii, if_neg h7, if_pos hq]
    · have hm : mayL kind l = true := by simpa using hm
      have := may_short hm
      simp only [shortE, decide_eq_true_eq]; omega
    · have hm : mayL kind l = true := by simpa using hm
      have hs : ¬ (lookL T.1 id).isSome = true := by rw [hD] at hd; simpa using hd
      have hqq : ¬ (quota < 1 ∨ quota > 1099511627776 ∨ mayL kind l = false) := by simp at q1 q2; rw [hm]; simp; omega
      have hii : ¬ (id < 1 ∨ id > 2305843009213693951 ∨ (lookL T.1 id).isSome = true) := by
        simp at i1 i2
        rintro (h | h | h)
        · omega
        · omega
        · exact hs h
      have h7 : ¬ T.1.length ≥ 4096 := by rw [rel_len hrel]; simp at h7; omega
      have hq : ¬ quota > roomOf c := by simpa [roomOf] using hq
      have hnone : lookL T.1 id = none := by simpa using hs
      have hne : inn ≠ id := fun e => by subst e; rw [hl] at hnone; cases hnone
      have hr := rel_new (id, kind, quota, 0, 0, l) hrel hnone hb
      refine link_tail (T := (insL T.1 id ((id, kind, quota, 0, 0, l), []), T.2)) (c := c) (x := ((id, kind, quota, 0, 0, l), [])) (inn := inn) (id := id) hr ?_ ?_ ?_ ?_ hne (list_short hok hl).1 ?_
      · show lookL (insL T.1 id _) inn = some c
        rw [lookL_insL, if_neg hne]; exact hl
      · show lookL (insL T.1 id _) id = _
        rw [lookL_insL, if_pos rfl]
      · show lookL (insL y.es id (some b)) inn = _
        rw [lookL_insL, if_neg hne, e1]; rfl
      · show lookL (insL y.es id (some b)) id = _
        rw [lookL_insL, if_pos rfl]
      · rw [hM, if_neg hk, if_neg hv, if_neg hqq, if_neg hii, if_neg h7, if_neg hq]
    · have hm : mayL kind l = true := by simpa using hm
      have hqq : ¬ (quota < 1 ∨ quota > 1099511627776 ∨ mayL kind l = false) := by simp at q1 q2; rw [hm]; simp; omega
      have i2 : id > 2305843009213693951 := by simpa using i2
      rw [hM, if_neg hk, if_neg hv, if_neg hqq, if_pos (.inr (.inl i2))]
    · have hm : mayL kind l = true := by simpa using hm
      have hqq : ¬ (quota < 1 ∨ quota > 1099511627776 ∨ mayL kind l = false) := by simp at q1 q2; rw [hm]; simp; omega
      have i1 : id < 1 := by simpa using i1
      rw [hM, if_neg hk, if_neg hv, if_neg hqq, if_pos (.inl i1)]
    · have q2 : quota > 1099511627776 := by simpa using q2
      rw [hM, if_neg hk, if_neg hv, if_pos (.inr (.inl q2))]
    · have q1 : quota < 1 := by simpa using q1
      rw [hM, if_neg hk, if_neg hv, if_pos (.inl q1)]
end Go.Proofs.Ythoaelmomocohaa
namespace Go.Proofs.Ythoaelmomocohaa
open Go.Proofs.Ythoaelmomocohaa.Gx
set_option maxRecDepth 100000
set_option maxHeartbeats 8000000
set_option linter.unusedSimpArgs false
set_option linter.unusedVariables false
theorem free_short {l : Lab} (h : freeL l = true) : l.2.length ≤ 16 := by
  unfold freeL at h; simp at h
  have hp := h.1
  unfold plainL at hp; simp at hp; exact right_len hp.1
theorem newT_ok : newT.H.ok PP 11 := by
  refine newT.ok_of (fun A hA => by
    rcases List.mem_cons.1 hA with rfl | hA
    · exact fun x y => rfl
    · obtain rfl := List.mem_singleton.1 hA
      exact fun x y => rfl) ?_
  refine hc_ofP (Fin.perm fun S => match S.res.length with | 6 => [5, 2, 3, 4] | _ => []) mixed (fn := Try.f11) (c := c11) rfl rfl newT.U (fun x => rfl) ?_
  rintro ⟨root, l⟩ -
  refine ⟨env PP [p33, p34] [] [] [] [], env_ok .., rfl, hold (new_vc root l) ?_⟩
  simp only [true_and, and_true]
  refine ⟨fun h1 => ⟨fun h2 => ⟨fun h3 => .inl ⟨((), ()), ?_⟩, fun h3 => ⟨?_, fun b _ => .inr ⟨((), ⟨[(root, some b)], root, [(b, (1, [((root, 1, 1099511627776, 0, 1, l), nilHd)]))], []⟩, ()), ?_⟩⟩⟩, fun h2 => .inl ⟨((), ()), ?_⟩⟩, fun h1 => .inl ⟨((), ()), ?_⟩⟩
  · have h3 : freeL l = false := by simpa using h3
    simp [goodNew, h3]
  · have h3 : freeL l = true := by simpa using h3
    have := free_short h3
    simp only [shortE, decide_eq_true_eq]; omega
  · have h3 : freeL l = true := by simpa using h3
    simp at h1 h2
    refine ⟨⟨by simp [goodNew, h3, h1, h2], ?_⟩, rfl, rfl, rfl, rfl⟩
    refine ⟨rfl, ?_, by simp, ?_, ?_, ?_⟩
    · simp [tb0, obAt, famGet, lookN, rdH, nilHd]
    · intro x hx
      obtain rfl := List.mem_singleton.1 hx
      exact ⟨b, (root, 1, 1099511627776, 0, 1, l), nilHd, rfl, by simp [famGet, lookN], rfl⟩
    · intro x hx z hz hne
      obtain rfl := List.mem_singleton.1 hx
      obtain rfl := List.mem_singleton.1 hz
      exact absurd rfl hne
    · intro x hx z hz hne
      obtain rfl := List.mem_singleton.1 hx
      obtain rfl := List.mem_singleton.1 hz
      exact absurd rfl hne
  · have h2 : root > 2305843009213693951 := by simpa using h2
    have : ¬ root ≤ 2305843009213693951 := by omega
    simp [goodNew, this]
  · have h1 : root < 1 := by simpa using h1
    have : ¬ 1 ≤ root := by omega
    simp [goodNew, this]
end Go.Proofs.Ythoaelmomocohaa
namespace Go.Proofs.Ythoaelmomocohaa
open Go.Proofs.Ythoaelmomocohaa.Gx
set_option maxRecDepth 100000
set_option linter.unusedVariables false
set_option maxHeartbeats 0
structure DelInv (ls : LS) (h : Hd) (x : Int) (i j : Nat) (ls' : LS) : Prop where
  hin : hdIn ls' h
  le : i ≤ j
  lt : j ≤ h.len
  front : (rdH ls' h).take i = ((rdH ls h).take j).filter (· != x)
  back : (rdH ls' h).drop j = (rdH ls h).drop j
  oth : ∀ k, h.b ≠ some k → lookN ls' k = lookN ls k
structure IdxInv (ls : LS) (h : Hd) (x : Int) (i : Nat) : Prop where
  le : i ≤ h.len
  no : x ∉ (rdH ls h).take i
def hdArg (S : St) : Option (Nat × Hd × LS × Int) := match getT S.fr.tm 0, getT S.fr.tm 1 with
  | .hd _ h, .fn _ [.ptr q 0] => match findFam 3 0 S.res, S.res[q]? with
    | some f, some (.blk _ [.int .i64 x]) => match S.res[f]? with
      | some (.fam _ (.int .i64) ls) => some (f, h, ls, x)
      | _ => none
    | _, _ => none
  | _, _ => none
def idxFLoop : List (Nat × (St → Option LoopSpec)) :=
  [(2, fun (S : St) => match hdArg S with
    | some (_, h, ls, x) => some { α := Nat, inv := fun i => IdxInv ls h x i, ov := fun i => [(8, .int .i64 (i : Int))], rov := fun _ => [], meas := fun i => h.len - i }
    | none => none)]
def delFLoop : List (Nat × (St → Option LoopSpec)) :=
  [(5, fun (S : St) => match hdArg S with
    | some (f, h, ls, x) => some { α := Nat × Nat × LS, inv := fun y => DelInv ls h x y.1 y.2.1 y.2.2, ov := fun y => [(5, .int .i64 (y.1 : Int)), (6, .int .i64 (y.2.1 : Int))], rov := fun y => [(f, .fam 3 i64 y.2.2)], meas := fun y => h.len - y.2.1 }
    | none => none)]
noncomputable def s84 : Sv PP := ⟨84, inl PP e0 Try.f84 c84, ⟨rfl, inl_ok (env_ok ..) rfl mixed rfl rfl⟩⟩
noncomputable def s90 : Sv PP := ⟨90, inl PP (env PP [] [s84] [] [] idxFLoop) Try.f90 c90, ⟨rfl, inl_ok (env_ok ..) rfl mixed rfl rfl⟩⟩
noncomputable def s83 : Sv PP := ⟨83, inl PP (env PP [] [s84, s90] [] [] delFLoop) Try.f83 c83, ⟨rfl, inl_ok (env_ok ..) rfl mixed rfl rfl⟩⟩
/-- Behind the deletion: the row without x. -/
structure DelPost (ls : LS) (h : Hd) (x : Int) (h' : Hd) (ls' : LS) : Prop where
  b : h'.b = h.b
  rd : rdH ls' h' = (rdH ls h).filter (· != x)
  hin : hdIn ls' h'
  oth : ∀ k, h.b ≠ some k → lookN ls' k = lookN ls k
def delH : HC where
  α := LS × Hd × Int
  m := 2
  ss := fun x => [.hd 3 x.2.1, .fn 84 [.ptr 1 0]]
  Rs := fun x => [.fam 3 i64 x.1, .blk 3 [.int .i64 x.2.2]]
  pre := fun x => HdIn x.1 x.2.1
  alts := [{ β := Hd × LS, post := fun x y => DelPost x.1 x.2.1 x.2.2 y.1 y.2, r := fun _ y => .hd 3 y.1, res := fun x y => [.fam 3 i64 y.2, .blk 3 [.int .i64 x.2.2]], kp := [true, true] }]
theorem del_vc (ls : LS) (h : Hd) (x : Int) : (fvc PP (env PP [] [s84, s90] [] [] delFLoop) Try.f83 c83 (delH.ss (ls, h, x)) (St1 (delH.Rs (ls, h, x))) (fun r S => altsOk 2 (ls, h, x) r S delH.alts)) = (
  h.len ≤ maxLen → ∃ (x0 : Nat), IdxInv ls h x x0 ∧ ((((True ∧ True) ∧ h = h ∧ SV.val (Value.slice none (0 : Nat) (0 : Nat)) = SV.val (Value.slice none (0 : Nat) (0 : Nat)) ∧ h = h ∧ (True ∧ True) ∧ True) ∧ (True ∧ True 
  ∧ True) ∧ True) ∧ ((0 : Int) = (↑x0 : Int) ∧ (↑h.len : Int) = (↑h.len : Int) ∧ h = h ∧ (True ∧ True) ∧ True) ∧ ls = ls ∧ (x = x ∧ True) ∧ True) ∧ ∀ (x_1 : Nat), IdxInv ls h x x_1 → (decide ((↑x_1 : Int) < (↑h.len : 
  Int)) = true → ((0 : Int) ≤ (↑x_1 : Int) ∧ (↑x_1 : Int) < (↑h.len : Int)) ∧ (∃ (y : Int), famGet ls (h.b.getD (0 : Nat)) (h.off + (↑x_1 : Int).toNat) = some y) ∧ ∀ (y : Int), famGet ls (h.b.getD (0 : Nat)) (h.off + 
  (↑x_1 : Int).toNat) = some y → ((x == y) = true → (((↑x_1 : Int) == (-1 : Int)) = true → ∃ (y : Hd × LS), DelPost ls h x y.fst y.snd ∧ h = y.fst ∧ (ls = y.snd ∧ (x = x ∧ True) ∧ True) ∧ (True ∧ True ∧ True) ∧ True) ∧ 
  (((↑x_1 : Int) == (-1 : Int)) = false → ∃ (x0 : Nat × Nat × LS), DelInv ls h x x0.fst x0.snd.fst x0.snd.snd ∧ (((True ∧ True ∧ True) ∧ True) ∧ ((↑x_1 : Int) = (↑x0.fst : Int) ∧ IntKind.i64.wrap ((↑x_1 : Int) + (1 : 
  Int)) = (↑x0.snd.fst : Int) ∧ false = false ∧ SV.val (Value.slice none (0 : Nat) (0 : Nat)) = SV.val (Value.slice none (0 : Nat) (0 : Nat)) ∧ h = h ∧ (True ∧ True) ∧ True) ∧ ls = x0.snd.snd ∧ (x = x ∧ True) ∧ True) ∧ ∀ 
  (x_2 : Nat × Nat × LS), DelInv ls h x x_2.fst x_2.snd.fst x_2.snd.snd → h.len ≤ maxLen → (decide ((↑x_2.snd.fst : Int) < (↑h.len : Int)) = true → ((0 : Int) ≤ (↑x_2.snd.fst : Int) ∧ (↑x_2.snd.fst : Int) < (↑h.len : 
  Int)) ∧ (∃ (y : Int), famGet x_2.snd.snd (h.b.getD (0 : Nat)) (h.off + (↑x_2.snd.fst : Int).toNat) = some y) ∧ ∀ (y : Int), famGet x_2.snd.snd (h.b.getD (0 : Nat)) (h.off + (↑x_2.snd.fst : Int).toNat) = some y → ((!x 
  == y) = true → ((0 : Int) ≤ (↑x_2.fst : Int) ∧ (↑x_2.fst : Int) < (↑h.len : Int)) ∧ (∃ (y : Int), famGet x_2.snd.snd (h.b.getD (0 : Nat)) (h.off + (↑x_2.fst : Int).toNat) = some y) ∧ ∀ (y_1 : Int), famGet x_2.snd.snd 
  (h.b.getD (0 : Nat)) (h.off + (↑x_2.fst : Int).toNat) = some y_1 → ∃ (x' : Nat × Nat × LS), DelInv ls h x x'.fst x'.snd.fst x'.snd.snd ∧ h.len - x'.snd.fst < h.len - x_2.snd.fst ∧ ((True ∧ True ∧ True) ∧ True) ∧ 
  (IntKind.i64.wrap ((↑x_2.fst : Int) + (1 : Int)) = (↑x'.fst : Int) ∧ IntKind.i64.wrap ((↑x_2.snd.fst : Int) + (1 : Int)) = (↑x'.snd.fst : Int) ∧ false = false ∧ SV.val (Value.slice none (0 : Nat) (0 : Nat)) = SV.val 
  (Value.slice none (0 : Nat) (0 : Nat)) ∧ h = h ∧ (True ∧ True) ∧ True) ∧ famSet x_2.snd.snd (h.b.getD (0 : Nat)) (h.off + (↑x_2.fst : Int).toNat) y = x'.snd.snd ∧ (x = x ∧ True) ∧ True) ∧ ((!x == y) = false → ∃ (x' : 
  Nat × Nat × LS), DelInv ls h x x'.fst x'.snd.fst x'.snd.snd ∧ h.len - x'.snd.fst < h.len - x_2.snd.fst ∧ ((True ∧ True ∧ True) ∧ True) ∧ ((↑x_2.fst : Int) = (↑x'.fst : Int) ∧ IntKind.i64.wrap ((↑x_2.snd.fst : Int) + (1 
  : Int)) = (↑x'.snd.fst : Int) ∧ false = false ∧ SV.val (Value.slice none (0 : Nat) (0 : Nat)) = SV.val (Value.slice none (0 : Nat) (0 : Nat)) ∧ h = h ∧ (True ∧ True) ∧ True) ∧ x_2.snd.snd = x'.snd.snd ∧ (x = x ∧ True) 
  ∧ True)) ∧ (decide ((↑x_2.snd.fst : Int) < (↑h.len : Int)) = false → ((0 : Int) ≤ none.getD (↑h.len : Int) ∧ none.getD (↑h.len : Int) ≤ (↑h.len : Int) ∧ (0 : Int) ≤ (some (↑x_2.fst : Int)).getD (0 : Int) ∧ (some 
  (↑x_2.fst : Int)).getD (0 : Int) ≤ none.getD (↑h.len : Int)) ∧ HdIn x_2.snd.snd (subH h ((some (↑x_2.fst : Int)).getD (0 : Int)).toNat (none.getD (↑h.len : Int)).toNat) ∧ ((0 : Int) ≤ (some (↑x_2.fst : Int)).getD 
  (↑h.len : Int) ∧ (some (↑x_2.fst : Int)).getD (↑h.len : Int) ≤ (↑h.len : Int) ∧ (0 : Int) ≤ none.getD (0 : Int) ∧ none.getD (0 : Int) ≤ (some (↑x_2.fst : Int)).getD (↑h.len : Int)) ∧ ∃ (y : Hd × LS), DelPost ls h x 
  y.fst y.snd ∧ subH h (0 : Nat) ((some (↑x_2.fst : Int)).getD (↑h.len : Int)).toNat = y.fst ∧ (clrH x_2.snd.snd (subH h ((some (↑x_2.fst : Int)).getD (0 : Int)).toNat (none.getD (↑h.len : Int)).toNat) (0 : Int) = y.snd 
  ∧ (x = x ∧ True) ∧ True) ∧ (True ∧ True ∧ True) ∧ True))) ∧ ((x == y) = false → ∃ (x' : Nat), IdxInv ls h x x' ∧ h.len - x' < h.len - x_1 ∧ (((True ∧ True) ∧ h = h ∧ SV.val (Value.slice none (0 : Nat) (0 : Nat)) = 
  SV.val (Value.slice none (0 : Nat) (0 : Nat)) ∧ h = h ∧ (True ∧ True) ∧ True) ∧ (True ∧ True ∧ True) ∧ True) ∧ (IntKind.i64.wrap ((↑x_1 : Int) + (1 : Int)) = (↑x' : Int) ∧ (↑h.len : Int) = (↑h.len : Int) ∧ h = h ∧ 
  (True ∧ True) ∧ True) ∧ ls = ls ∧ (x = x ∧ True) ∧ True)) ∧ (decide ((↑x_1 : Int) < (↑h.len : Int)) = false → (((-1 : Int) == (-1 : Int)) = true → ∃ (y : Hd × LS), DelPost ls h x y.fst y.snd ∧ h = y.fst ∧ (ls = y.snd ∧ 
  (x = x ∧ True) ∧ True) ∧ (True ∧ True ∧ True) ∧ True) ∧ (((-1 : Int) == (-1 : Int)) = false → ∃ (x0 : Nat × Nat × LS), DelInv ls h x x0.fst x0.snd.fst x0.snd.snd ∧ (((True ∧ True ∧ True) ∧ True) ∧ ((-1 : Int) = 
  (↑x0.fst : Int) ∧ IntKind.i64.wrap ((-1 : Int) + (1 : Int)) = (↑x0.snd.fst : Int) ∧ false = false ∧ SV.val (Value.slice none (0 : Nat) (0 : Nat)) = SV.val (Value.slice none (0 : Nat) (0 : Nat)) ∧ h = h ∧ (True ∧ True) 
  ∧ True) ∧ ls = x0.snd.snd ∧ (x = x ∧ True) ∧ True) ∧ ∀ (x_2 : Nat × Nat × LS), DelInv ls h x x_2.fst x_2.snd.fst x_2.snd.snd → h.len ≤ maxLen → (decide ((↑x_2.snd.fst : Int) < (↑h.len : Int)) = true → ((0 : Int) ≤ 
  (↑x_2.snd.fst : Int) ∧ (↑x_2.snd.fst : Int) < (↑h.len : Int)) ∧ (∃ (y : Int), famGet x_2.snd.snd (h.b.getD (0 : Nat)) (h.off + (↑x_2.snd.fst : Int).toNat) = some y) ∧ ∀ (y : Int), famGet x_2.snd.snd (h.b.getD (0 : 
  Nat)) (h.off + (↑x_2.snd.fst : Int).toNat) = some y → ((!x == y) = true → ((0 : Int) ≤ (↑x_2.fst : Int) ∧ (↑x_2.fst : Int) < (↑h.len : Int)) ∧ (∃ (y : Int), famGet x_2.snd.snd (h.b.getD (0 : Nat)) (h.off + (↑x_2.fst : 
  Int).toNat) = some y) ∧ ∀ (y_1 : Int), famGet x_2.snd.snd (h.b.getD (0 : Nat)) (h.off + (↑x_2.fst : Int).toNat) = some y_1 → ∃ (x' : Nat × Nat × LS), DelInv ls h x x'.fst x'.snd.fst x'.snd.snd ∧ h.len - x'.snd.fst < 
  h.len - x_2.snd.fst ∧ ((True ∧ True ∧ True) ∧ True) ∧ (IntKind.i64.wrap ((↑x_2.fst : Int) + (1 : Int)) = (↑x'.fst : Int) ∧ IntKind.i64.wrap ((↑x_2.snd.fst : Int) + (1 : Int)) = (↑x'.snd.fst : Int) ∧ false = false ∧ 
  SV.val (Value.slice none (0 : Nat) (0 : Nat)) = SV.val (Value.slice none (0 : Nat) (0 : Nat)) ∧ h = h ∧ (True ∧ True) ∧ True) ∧ famSet x_2.snd.snd (h.b.getD (0 : Nat)) (h.off + (↑x_2.fst : Int).toNat) y = x'.snd.snd ∧ 
  (x = x ∧ True) ∧ True) ∧ ((!x == y) = false → ∃ (x' : Nat × Nat × LS), DelInv ls h x x'.fst x'.snd.fst x'.snd.snd ∧ h.len - x'.snd.fst < h.len - x_2.snd.fst ∧ ((True ∧ True ∧ True) ∧ True) ∧ ((↑x_2.fst : Int) = 
  (↑x'.fst : Int) ∧ IntKind.i64.wrap ((↑x_2.snd.fst : Int) + (1 : Int)) = (↑x'.snd.fst : Int) ∧ false = false ∧ SV.val (Value.slice none (0 : Nat) (0 : Nat)) = SV.val (Value.slice none (0 : Nat) (0 : Nat)) ∧ h = h ∧ 
  (True ∧ True) ∧ True) ∧ x_2.snd.snd = x'.snd.snd ∧ (x = x ∧ True) ∧ True)) ∧ (decide ((↑x_2.snd.fst : Int) < (↑h.len : Int)) = false → ((0 : Int) ≤ none.getD (↑h.len : Int) ∧ none.getD (↑h.len : Int) ≤ (↑h.len : Int) ∧ 
  (0 : Int) ≤ (some (↑x_2.fst : Int)).getD (0 : Int) ∧ (some (↑x_2.fst : Int)).getD (0 : Int) ≤ none.getD (↑h.len : Int)) ∧ HdIn x_2.snd.snd (subH h ((some (↑x_2.fst : Int)).getD (0 : Int)).toNat (none.getD (↑h.len : 
  Int)).toNat) ∧ ((0 : Int) ≤ (some (↑x_2.fst : Int)).getD (↑h.len : Int) ∧ (some (↑x_2.fst : Int)).getD (↑h.len : Int) ≤ (↑h.len : Int) ∧ (0 : Int) ≤ none.getD (0 : Int) ∧ none.getD (0 : Int) ≤ (some (↑x_2.fst : 
  Int)).getD (↑h.len : Int)) ∧ ∃ (y : Hd × LS), DelPost ls h x y.fst y.snd ∧ subH h (0 : Nat) ((some (↑x_2.fst : Int)).getD (↑h.len : Int)).toNat = y.fst ∧ (clrH x_2.snd.snd (subH h ((some (↑x_2.fst : Int)).getD (0 : 
  Int)).toNat (none.getD (↑h.len : Int)).toNat) (0 : Int) = y.snd ∧ (x = x ∧ True) ∧ True) ∧ (True ∧ True ∧ True) ∧ True)))) := by kernel_rfl
end Go.Proofs.Ythoaelmomocohaa
namespace Go.Proofs.Ythoaelmomocohaa
open Go.Proofs.Ythoaelmomocohaa.Gx
set_option maxRecDepth 100000
set_option maxHeartbeats 8000000
set_option linter.unusedSimpArgs false
set_option linter.unusedVariables false
theorem get_rd {ls : LS} {h : Hd} (hin : hdIn ls h) {i : Nat} (hi : i < h.len) : famGet ls (h.b.getD 0) (h.off + i) = (rdH ls h)[i]? := by
  obtain ⟨b, off, len, cap⟩ := h
  simp only at hi
  cases b with
  | none => have : len = 0 := hin; omega
  | some g =>
    obtain ⟨n, xs, hl, i1, i2, i3⟩ := hin
    simp only [famGet, Option.getD_some, hl, Option.bind_some, rdH, Option.map_some]
    rw [List.getElem?_take_of_lt hi, List.getElem?_drop]
theorem lookN_famSet {ls : LS} {g j : Nat} {v : Int} {n : Nat} {xs : List Int} (hl : lookN ls g = some (n, xs)) : lookN (famSet ls g j v) g = some (n, xs.set j v) := by
  simp only [famSet, hl]
  rw [lookN_putN, if_pos rfl, hl]; rfl
theorem set_rd {ls : LS} {h : Hd} (hin : hdIn ls h) {i : Nat} (hi : i < h.len) (v : Int) : hdIn (famSet ls (h.b.getD 0) (h.off + i) v) h ∧ rdH (famSet ls (h.b.getD 0) (h.off + i) v) h = (rdH ls h).set i v ∧ ∀ k, h.b ≠ some k → lookN (famSet ls (h.b.getD 0) (h.off + i) v) k = lookN ls k := by
  obtain ⟨b, off, len, cap⟩ := h
  simp only at hi
  cases b with
  | none => have : len = 0 := hin; omega
  | some g =>
    obtain ⟨n, xs, hl, i1, i2, i3⟩ := hin
    simp only at i1 i2 i3
    have hL := lookN_famSet (j := off + i) (v := v) hl
    refine ⟨⟨n, _, hL, i1, by simpa using i2, i3⟩, ?_, fun k hk => ?_⟩
    · simp only [Option.getD_some, rdH, hL, hl, Option.map_some]
      apply List.ext_getElem?
      intro m
      by_cases hm : m < len
      · rw [List.getElem?_take_of_lt hm, List.getElem?_drop, List.getElem?_set, List.getElem?_set]
        by_cases e : i = m
        · subst e
          simp only [if_true]
          rw [if_pos (by omega), if_pos (by simp; omega)]
        · rw [if_neg (by omega), if_neg e, List.getElem?_take_of_lt hm, List.getElem?_drop]
      · rw [List.getElem?_eq_none (by simp; omega), List.getElem?_eq_none (by simp; omega)]
    · have hk : g ≠ k := by simpa using hk
      simp only [Option.getD_some, famSet, hl]
      rw [lookN_putN, if_neg (fun e => hk e.symm)]
theorem clr_rd {ls : LS} {h : Hd} (hin : hdIn ls h) {i : Nat} (hi : i ≤ h.len) : hdIn ls (subH h i h.len) ∧ hdIn (clrH ls (subH h i h.len) 0) (subH h 0 i) ∧ rdH (clrH ls (subH h i h.len) 0) (subH h 0 i) = (rdH ls h).take i ∧ ∀ k, h.b ≠ some k → lookN (clrH ls (subH h i h.len) 0) k = lookN ls k := by
  obtain ⟨b, off, len, cap⟩ := h
  simp only at hi
  cases b with
  | none =>
    have h0 : len = 0 := hin
    subst h0
    obtain rfl : i = 0 := by omega
    exact ⟨rfl, rfl, rfl, fun k _ => rfl⟩
  | some g =>
    obtain ⟨n, xs, hl, i1, i2, i3⟩ := hin
    simp only at i1 i2 i3
    have hoff : ∃ o, (if cap = i then off else off + i) = o ∧ (len - i = 0 ∨ o = off + i) ∧ o + (len - i) ≤ xs.length ∧ o + (cap - i) ≤ n ∧ off ≤ o := by
      by_cases e : cap = i
      · exact ⟨off, by rw [if_pos e], .inl (by omega), by omega, by omega, Nat.le_refl _⟩
      · exact ⟨off + i, by rw [if_neg e], .inr rfl, by omega, by omega, by omega⟩
    obtain ⟨o, ho, hcase, ho1, ho2, ho3⟩ := hoff
    have hsub : subH ⟨some g, off, len, cap⟩ i len = ⟨some g, o, len - i, cap - i⟩ := by simp only [subH, ho]
    have hsub0 : subH ⟨some g, off, len, cap⟩ 0 i = ⟨some g, off, i, cap⟩ := by
      simp only [subH, Nat.sub_zero, Nat.add_zero]
      split <;> rfl
    rw [hsub, hsub0]
    have hL : lookN (clrH ls ⟨some g, o, len - i, cap - i⟩ 0) g = some (n, xs.take o ++ List.replicate (len - i) 0 ++ xs.drop (o + (len - i))) := by
      simp only [clrH, hl]
      rw [lookN_putN, if_pos rfl, hl]; rfl
    have hlen : (xs.take o ++ List.replicate (len - i) (0 : Int) ++ xs.drop (o + (len - i))).length = xs.length := by
      simp only [List.length_append, List.length_take, List.length_replicate, List.length_drop]; omega
    refine ⟨⟨n, xs, hl, ho2, ho1, by simp only; omega⟩, ⟨n, _, hL, i1, by rw [hlen]; simp only; omega, by simp only; omega⟩, ?_, fun k hk => ?_⟩
    · simp only [rdH, hL, hl, Option.map_some, Option.getD_some]
      rw [List.take_take, Nat.min_eq_left hi]
      rcases hcase with h0 | h0
      · rw [h0]; simp
      · apply List.ext_getElem?
        intro m
        by_cases hm : m < i
        · rw [List.getElem?_take_of_lt hm, List.getElem?_take_of_lt hm, List.getElem?_drop, List.getElem?_drop, List.append_assoc, List.getElem?_append_left (by rw [List.length_take]; omega), List.getElem?_take_of_lt (by omega)]
        · rw [List.getElem?_eq_none (by rw [List.length_take]; omega), List.getElem?_eq_none (by rw [List.length_take]; omega)]
    · have hk : g ≠ k := by simpa using hk
      simp only [clrH, hl]
      rw [lookN_putN, if_neg (fun e => hk e.symm)]
theorem not_flt {l : List Int} {x : Int} (h : x ∉ l) : l.filter (· != x) = l :=
  List.filter_eq_self.2 fun y hy => by
    have : y ≠ x := fun e => h (e ▸ hy)
    simpa using this
theorem del_next {ls : LS} {h : Hd} {x : Int} (hA : h.len ≤ maxLen) {i j : Nat} {ls' : LS} (inv : DelInv ls h x i j ls') (hin : hdIn ls h) (hj : j < h.len) {y : Int} (hy : famGet ls' (h.b.getD 0) (h.off + j) = some y) :
    ((rdH ls h)[j]? = some y) ∧ (x ≠ y → DelInv ls h x (i + 1) (j + 1) (famSet ls' (h.b.getD 0) (h.off + i) y)) ∧ (x = y → DelInv ls h x i (j + 1) ls') := by
  have hij := inv.le
  rw [get_rd inv.hin hj] at hy
  have hl' := rd_len inv.hin
  have hl := rd_len hin
  have hyy : (rdH ls h)[j]? = some y := by
    have h1 : ((rdH ls' h).drop j)[0]? = ((rdH ls h).drop j)[0]? := by rw [inv.back]
    rw [List.getElem?_drop, List.getElem?_drop, Nat.add_zero] at h1
    rw [← h1]; exact hy
  have hback : (rdH ls' h).drop (j + 1) = (rdH ls h).drop (j + 1) := by
    have := congrArg (List.drop 1) inv.back
    rwa [List.drop_drop, List.drop_drop] at this
  refine ⟨hyy, fun hne => ?_, fun he => ?_⟩
  · have hi : i < h.len := by omega
    obtain ⟨s1, s2, s3⟩ := set_rd inv.hin hi y
    refine ⟨s1, by omega, hj, ?_, ?_, fun k hk => (s3 k hk).trans (inv.oth k hk)⟩
    · rw [s2, take_snoc (l := (rdH ls' h).set i y) (i := i) (x := y) (by rw [List.getElem?_set]; simp; omega), List.take_set_of_le (Nat.le_refl _), inv.front, take_snoc hyy, List.filter_append]
      congr 1
      rw [List.filter_cons, if_pos (by simpa using fun e => hne e.symm)]; rfl
    · rw [s2, List.drop_set_of_lt (by omega)]; exact hback
  · refine ⟨inv.hin, by omega, hj, ?_, hback, inv.oth⟩
    rw [inv.front, take_snoc hyy, List.filter_append, List.filter_cons, if_neg (by simp [he])]; simp
theorem del_ok : delH.ok PP 83 := by
  refine hc_of mixed (fn := Try.f83) (c := c83) rfl rfl delH (fun x => rfl) ?_
  rintro ⟨ls, h, x⟩ hin
  have hin : hdIn ls h := hin.ok
  refine ⟨env PP [] [s84, s90] [] [] delFLoop, env_ok .., rfl, hold (del_vc ls h x) ?_⟩
  simp only [true_and, and_true, toNat_cast]
  intro hA
  have hl := rd_len hin
  refine ⟨0, ⟨Nat.zero_le _, by simp⟩, rfl, fun i hi => ⟨fun hlt => ?_, fun hge => ⟨fun _ => ⟨(h, ls), ⟨rfl, ?_, hin, fun _ _ => rfl⟩, rfl, rfl⟩, fun hx => (by simp at hx)⟩⟩⟩
  · have hlt : i < h.len := by simp at hlt; omega
    have hg := get_rd hin hlt
    obtain ⟨y, hy⟩ : ∃ y, (rdH ls h)[i]? = some y := ⟨_, List.getElem?_eq_getElem (by omega)⟩
    rw [hg]
    refine ⟨⟨by omega, by omega⟩, ⟨y, hy⟩, fun z hz => ⟨fun he => ⟨fun hx => (by simp at hx), fun _ => ?_⟩, fun hne => ⟨i + 1, ⟨hlt, ?_⟩, by omega, wrap_succ hlt hA⟩⟩⟩
    · have he : x = z := by simpa using he
      subst he
      refine ⟨(i, i + 1, ls), ⟨hin, by simp only; omega, hlt, ?_, rfl, fun _ _ => rfl⟩, ⟨⟨rfl, wrap_succ hlt hA⟩, rfl⟩, ?_⟩
      · rw [take_snoc hz, List.filter_append, not_flt hi.no]; simp
      rintro ⟨i, j, ls'⟩ inv
      simp only at inv
      have h1 := inv.le
      have h2 := inv.lt
      refine fun _ => ⟨fun hjl => ?_, fun hjg => ?_⟩
      · have hj : j < h.len := by simp at hjl; omega
        have hl' := rd_len inv.hin
        obtain ⟨y, hy⟩ : ∃ y, (rdH ls' h)[j]? = some y := ⟨_, List.getElem?_eq_getElem (by omega)⟩
        obtain ⟨u, hu⟩ : ∃ u, (rdH ls' h)[i]? = some u := ⟨_, List.getElem?_eq_getElem (by omega)⟩
        refine ⟨⟨by simp only; omega, by simp only; omega⟩, ⟨y, by rw [get_rd inv.hin hj]; exact hy⟩, fun v hv => ?_⟩
        obtain ⟨-, n1, n2⟩ := del_next hA inv hin hj hv
        refine ⟨fun hne => ⟨⟨by simp only; omega, by simp only; omega⟩, ⟨u, by rw [get_rd inv.hin (by omega)]; exact hu⟩, fun _ _ => ⟨(i + 1, j + 1, _), n1 (by simpa using hne), by simp only; omega, ⟨wrap_succ (n := h.len) (by omega) hA, wrap_succ hj hA⟩, rfl⟩⟩, fun he => ⟨(i, j + 1, ls'), n2 (by simpa using he), by simp only; omega, ⟨rfl, wrap_succ hj hA⟩, rfl⟩⟩
      · have hj : j = h.len := by simp at hjg; omega
        subst hj
        obtain ⟨k1, k2, k3, k4⟩ := clr_rd inv.hin h1
        refine ⟨⟨(by show (0 : Int) ≤ (h.len : Int); omega), Int.le_refl _, (by show (0 : Int) ≤ (i : Int); omega), (by show (i : Int) ≤ (h.len : Int); omega)⟩, ⟨k1⟩, ⟨(by show (0 : Int) ≤ (i : Int); omega), (by show (i : Int) ≤ (h.len : Int); omega), Int.le_refl _, (by show (0 : Int) ≤ (i : Int); omega)⟩, (subH h 0 i, clrH ls' (subH h i h.len) 0), ⟨rfl, ?_, k2, fun k hk => (k4 k hk).trans (inv.oth k hk)⟩, rfl, rfl⟩
        have hfr := inv.front
        rw [← hl, List.take_length] at hfr
        rw [k3, hfr]
    · have hne : x ≠ z := by simpa using hne
      rw [take_snoc hz, List.mem_append]
      rintro (h | h)
      · exact hi.no h
      · exact hne (by simpa using h)
  · have hle := hi.le
    have hie : i = h.len := by simp at hge; omega
    have := hi.no
    rw [hie, ← hl, List.take_length] at this
    exact (not_flt this).symm
end Go.Proofs.Ythoaelmomocohaa
namespace Go.Proofs.Ythoaelmomocohaa
open Go.Proofs.Ythoaelmomocohaa.Gx
set_option maxRecDepth 100000
set_option linter.unusedVariables false
set_option maxHeartbeats 0
noncomputable def s83D : Sv PP := ⟨83, hspec delH [] fun ss S => match ss with
  | [.hd _ h, .fn g [.ptr q 0]] => match Nat.beq g 84, findFam 3 0 S.res, S.res[q]? with
    | true, some f, some (.blk _ [.int .i64 x]) => match S.res[f]? with
      | some (.fam _ (.int .i64) ls) => some ([f, q], (ls, h, x))
      | _ => none
    | _, _, _ => none
  | _ => none, ⟨rfl, hspec_ok del_ok _ _⟩⟩
noncomputable def s67 : Sv PP := ⟨67, inl PP (env PP [] [s83D] [] [] []) Try.f67 c67, ⟨rfl, inl_ok (env_ok ..) rfl mixed rfl rfl⟩⟩
noncomputable def s42 : Sv PP := ⟨42, inl PP (env PP [] [s67] [] [] []) Try.f42 c42, ⟨rfl, inl_ok (env_ok ..) rfl mixed rfl rfl⟩⟩
def unUsed (c : Info) (q : Int) : Info := (c.1, c.2.1, c.2.2.1, IntKind.i64.wrap (c.2.2.2.1 - q), c.2.2.2.2)
def unLinks (x : Info) : Info := (x.1, x.2.1, x.2.2.1, x.2.2.2.1, IntKind.i64.wrap (x.2.2.2.2.1 - 1), x.2.2.2.2.2)
structure UnPre (os : OS) (ls : LS) (a b : Nat) (c x : Info × Hd) : Prop where
  gc : famGet os a 0 = some c
  gx : famGet os b 0 = some x
  hin : hdIn ls c.2
  ne : a ≠ b
def unlH : HC where
  α := OS × LS × Nat × Nat × (Info × Hd) × (Info × Hd)
  m := 2
  ss := fun z => [.adr 72 (some z.2.2.1), .adr 72 (some z.2.2.2.1)]
  Rs := fun z => [.fam 72 objR z.1, .fam 3 i64 z.2.1]
  pre := fun z => UnPre z.1 z.2.1 z.2.2.1 z.2.2.2.1 z.2.2.2.2.1 z.2.2.2.2.2
  alts := [{ β := Hd × LS, post := fun z y => DelPost z.2.1 z.2.2.2.2.1.2 z.2.2.2.2.2.1.1 y.1 y.2, r := fun _ _ => .tup [], res := fun z y => [.fam 72 objR (famSet (famSet z.1 z.2.2.1 0 (unUsed z.2.2.2.2.1.1 z.2.2.2.2.2.1.2.2.1, y.1)) z.2.2.2.1 0 (unLinks z.2.2.2.2.2.1, z.2.2.2.2.2.2)), .fam 3 i64 y.2], kp := [true, true] }]
theorem unlink_vc (os : OS) (ls : LS) (a b : Nat) (c x : Info × Hd) : (fvc PP (env PP [] [s67] [] [] []) Try.f42 c42 (unlH.ss (os, ls, a, b, c, x)) (St1 (unlH.Rs (os, ls, a, b, c, x))) (fun r S => altsOk 2 (os, ls, a, b, c, x) r S unlH.alts)) = (
  (some a).isSome = true ∧ (some a).isSome = true ∧ (some b).isSome = true ∧ (some b).isSome = true ∧ (∃ (y : (Int × Int × Int × Int × Int × Int × List (Int × Int)) × Hd), famGet os ((some b).getD (0 : Nat)) (0 : Nat) = 
  some y) ∧ ∀ (y : (Int × Int × Int × Int × Int × Int × List (Int × Int)) × Hd), famGet os ((some b).getD (0 : Nat)) (0 : Nat) = some y → (∃ (y : (Int × Int × Int × Int × Int × Int × List (Int × Int)) × Hd), famGet os 
  ((some a).getD (0 : Nat)) (0 : Nat) = some y) ∧ ∀ (y_1 : (Int × Int × Int × Int × Int × Int × List (Int × Int)) × Hd), famGet os ((some a).getD (0 : Nat)) (0 : Nat) = some y_1 → HdIn ls y_1.snd ∧ (y_1.snd = y_1.snd ∧ 
  (True ∧ True) ∧ True) ∧ (ls = ls ∧ (y.fst.fst = y.fst.fst ∧ True) ∧ True) ∧ (∀ (y_2 : Hd × LS), DelPost ls y_1.snd y.fst.fst y_2.fst y_2.snd → (∃ (y : (Int × Int × Int × Int × Int × Int × List (Int × Int)) × Hd), 
  famGet os ((some a).getD (0 : Nat)) (0 : Nat) = some y) ∧ ∀ (y : (Int × Int × Int × Int × Int × Int × List (Int × Int)) × Hd), famGet os ((some a).getD (0 : Nat)) (0 : Nat) = some y → (some a).isSome = true ∧ (some 
  a).isSome = true ∧ (∃ (y_3 : (Int × Int × Int × Int × Int × Int × List (Int × Int)) × Hd), famGet (famSet os ((some a).getD (0 : Nat)) (0 : Nat) ((y.fst.fst, y.fst.snd.fst, y.fst.snd.snd.fst, y.fst.snd.snd.snd.fst, 
  y.fst.snd.snd.snd.snd.fst, y.fst.snd.snd.snd.snd.snd.fst, y.fst.snd.snd.snd.snd.snd.snd), y_2.fst)) ((some a).getD (0 : Nat)) (0 : Nat) = some y_3) ∧ ∀ (y_3 : (Int × Int × Int × Int × Int × Int × List (Int × Int)) × 
  Hd), famGet (famSet os ((some a).getD (0 : Nat)) (0 : Nat) ((y.fst.fst, y.fst.snd.fst, y.fst.snd.snd.fst, y.fst.snd.snd.snd.fst, y.fst.snd.snd.snd.snd.fst, y.fst.snd.snd.snd.snd.snd.fst, y.fst.snd.snd.snd.snd.snd.snd), 
  y_2.fst)) ((some a).getD (0 : Nat)) (0 : Nat) = some y_3 → (some b).isSome = true ∧ (some b).isSome = true ∧ (∃ (y_4 : (Int × Int × Int × Int × Int × Int × List (Int × Int)) × Hd), famGet (famSet os ((some a).getD (0 : 
  Nat)) (0 : Nat) ((y.fst.fst, y.fst.snd.fst, y.fst.snd.snd.fst, y.fst.snd.snd.snd.fst, y.fst.snd.snd.snd.snd.fst, y.fst.snd.snd.snd.snd.snd.fst, y.fst.snd.snd.snd.snd.snd.snd), y_2.fst)) ((some b).getD (0 : Nat)) (0 : 
  Nat) = some y_4) ∧ ∀ (y_4 : (Int × Int × Int × Int × Int × Int × List (Int × Int)) × Hd), famGet (famSet os ((some a).getD (0 : Nat)) (0 : Nat) ((y.fst.fst, y.fst.snd.fst, y.fst.snd.snd.fst, y.fst.snd.snd.snd.fst, 
  y.fst.snd.snd.snd.snd.fst, y.fst.snd.snd.snd.snd.snd.fst, y.fst.snd.snd.snd.snd.snd.snd), y_2.fst)) ((some b).getD (0 : Nat)) (0 : Nat) = some y_4 → (some a).isSome = true ∧ (some a).isSome = true ∧ (∃ (y_5 : (Int × 
  Int × Int × Int × Int × Int × List (Int × Int)) × Hd), famGet (famSet os ((some a).getD (0 : Nat)) (0 : Nat) ((y.fst.fst, y.fst.snd.fst, y.fst.snd.snd.fst, y.fst.snd.snd.snd.fst, y.fst.snd.snd.snd.snd.fst, 
  y.fst.snd.snd.snd.snd.snd.fst, y.fst.snd.snd.snd.snd.snd.snd), y_2.fst)) ((some a).getD (0 : Nat)) (0 : Nat) = some y_5) ∧ ∀ (y_5 : (Int × Int × Int × Int × Int × Int × List (Int × Int)) × Hd), famGet (famSet os ((some 
  a).getD (0 : Nat)) (0 : Nat) ((y.fst.fst, y.fst.snd.fst, y.fst.snd.snd.fst, y.fst.snd.snd.snd.fst, y.fst.snd.snd.snd.snd.fst, y.fst.snd.snd.snd.snd.snd.fst, y.fst.snd.snd.snd.snd.snd.snd), y_2.fst)) ((some a).getD (0 : 
  Nat)) (0 : Nat) = some y_5 → (some b).isSome = true ∧ (some b).isSome = true ∧ (∃ (y_6 : (Int × Int × Int × Int × Int × Int × List (Int × Int)) × Hd), famGet (famSet (famSet os ((some a).getD (0 : Nat)) (0 : Nat) 
  ((y.fst.fst, y.fst.snd.fst, y.fst.snd.snd.fst, y.fst.snd.snd.snd.fst, y.fst.snd.snd.snd.snd.fst, y.fst.snd.snd.snd.snd.snd.fst, y.fst.snd.snd.snd.snd.snd.snd), y_2.fst)) ((some a).getD (0 : Nat)) (0 : Nat) 
  ((y_5.fst.fst, y_5.fst.snd.fst, y_5.fst.snd.snd.fst, IntKind.i64.wrap (y_3.fst.snd.snd.snd.fst - y_4.fst.snd.snd.fst), y_5.fst.snd.snd.snd.snd.fst, y_5.fst.snd.snd.snd.snd.snd.fst, y_5.fst.snd.snd.snd.snd.snd.snd), 
  y_5.snd)) ((some b).getD (0 : Nat)) (0 : Nat) = some y_6) ∧ ∀ (y_6 : (Int × Int × Int × Int × Int × Int × List (Int × Int)) × Hd), famGet (famSet (famSet os ((some a).getD (0 : Nat)) (0 : Nat) ((y.fst.fst, 
  y.fst.snd.fst, y.fst.snd.snd.fst, y.fst.snd.snd.snd.fst, y.fst.snd.snd.snd.snd.fst, y.fst.snd.snd.snd.snd.snd.fst, y.fst.snd.snd.snd.snd.snd.snd), y_2.fst)) ((some a).getD (0 : Nat)) (0 : Nat) ((y_5.fst.fst, 
  y_5.fst.snd.fst, y_5.fst.snd.snd.fst, IntKind.i64.wrap (y_3.fst.snd.snd.snd.fst - y_4.fst.snd.snd.fst), y_5.fst.snd.snd.snd.snd.fst, y_5.fst.snd.snd.snd.snd.snd.fst, y_5.fst.snd.snd.snd.snd.snd.snd), y_5.snd)) ((some 
  b).getD (0 : Nat)) (0 : Nat) = some y_6 → (some b).isSome = true ∧ (some b).isSome = true ∧ (∃ (y_7 : (Int × Int × Int × Int × Int × Int × List (Int × Int)) × Hd), famGet (famSet (famSet os ((some a).getD (0 : Nat)) (0 
  : Nat) ((y.fst.fst, y.fst.snd.fst, y.fst.snd.snd.fst, y.fst.snd.snd.snd.fst, y.fst.snd.snd.snd.snd.fst, y.fst.snd.snd.snd.snd.snd.fst, y.fst.snd.snd.snd.snd.snd.snd), y_2.fst)) ((some a).getD (0 : Nat)) (0 : Nat) 
  ((y_5.fst.fst, y_5.fst.snd.fst, y_5.fst.snd.snd.fst, IntKind.i64.wrap (y_3.fst.snd.snd.snd.fst - y_4.fst.snd.snd.fst), y_5.fst.snd.snd.snd.snd.fst, y_5.fst.snd.snd.snd.snd.snd.fst, y_5.fst.snd.snd.snd.snd.snd.snd), 
  y_5.snd)) ((some b).getD (0 : Nat)) (0 : Nat) = some y_7) ∧ ∀ (y_7 : (Int × Int × Int × Int × Int × Int × List (Int × Int)) × Hd), famGet (famSet (famSet os ((some a).getD (0 : Nat)) (0 : Nat) ((y.fst.fst, 
  y.fst.snd.fst, y.fst.snd.snd.fst, y.fst.snd.snd.snd.fst, y.fst.snd.snd.snd.snd.fst, y.fst.snd.snd.snd.snd.snd.fst, y.fst.snd.snd.snd.snd.snd.snd), y_2.fst)) ((some a).getD (0 : Nat)) (0 : Nat) ((y_5.fst.fst, 
  y_5.fst.snd.fst, y_5.fst.snd.snd.fst, IntKind.i64.wrap (y_3.fst.snd.snd.snd.fst - y_4.fst.snd.snd.fst), y_5.fst.snd.snd.snd.snd.fst, y_5.fst.snd.snd.snd.snd.snd.fst, y_5.fst.snd.snd.snd.snd.snd.snd), y_5.snd)) ((some 
  b).getD (0 : Nat)) (0 : Nat) = some y_7 → ∃ (y_8 : Hd × LS), DelPost ls c.snd x.fst.fst y_8.fst y_8.snd ∧ True ∧ (famSet (famSet (famSet os ((some a).getD (0 : Nat)) (0 : Nat) ((y.fst.fst, y.fst.snd.fst, 
  y.fst.snd.snd.fst, y.fst.snd.snd.snd.fst, y.fst.snd.snd.snd.snd.fst, y.fst.snd.snd.snd.snd.snd.fst, y.fst.snd.snd.snd.snd.snd.snd), y_2.fst)) ((some a).getD (0 : Nat)) (0 : Nat) ((y_5.fst.fst, y_5.fst.snd.fst, 
  y_5.fst.snd.snd.fst, IntKind.i64.wrap (y_3.fst.snd.snd.snd.fst - y_4.fst.snd.snd.fst), y_5.fst.snd.snd.snd.snd.fst, y_5.fst.snd.snd.snd.snd.snd.fst, y_5.fst.snd.snd.snd.snd.snd.snd), y_5.snd)) ((some b).getD (0 : Nat)) 
  (0 : Nat) ((y_7.fst.fst, y_7.fst.snd.fst, y_7.fst.snd.snd.fst, y_7.fst.snd.snd.snd.fst, IntKind.i64.wrap (y_6.fst.snd.snd.snd.snd.fst - (1 : Int)), y_7.fst.snd.snd.snd.snd.snd.fst, y_7.fst.snd.snd.snd.snd.snd.snd), 
  y_7.snd) = famSet (famSet os a (0 : Nat) (unUsed c.fst x.fst.snd.snd.fst, y_8.fst)) b (0 : Nat) (unLinks x.fst, x.snd) ∧ y_2.snd = y_8.snd ∧ True) ∧ (True ∧ True ∧ True) ∧ True) ∧ True) := by kernel_rfl
end Go.Proofs.Ythoaelmomocohaa
namespace Go.Proofs.Ythoaelmomocohaa
open Go.Proofs.Ythoaelmomocohaa.Gx
set_option maxRecDepth 100000
set_option maxHeartbeats 8000000
set_option linter.unusedSimpArgs false
set_option linter.unusedVariables false
theorem putN_putN {α : Type} : (l : List (Nat × α)) → (k : Nat) → (u v : α) → putN (putN l k u) k v = putN l k v
  | [], _, _, _ => rfl
  | x :: l, k, u, v => by
    by_cases e : x.1 = k
    · simp [putN, e]
    · simp [putN, e, putN_putN l k u v]
theorem famSet_famSet {α : Type} (os : List (Nat × (Nat × List α))) (b j : Nat) (u v : α) : famSet (famSet os b j u) b j v = famSet os b j v := by
  cases hl : lookN os b with
  | none => simp [famSet, hl]
  | some e =>
    have h1 : famSet os b j u = putN os b (e.1, e.2.set j u) := by simp [famSet, hl]
    have h2 : lookN (famSet os b j u) b = some (e.1, e.2.set j u) := by rw [h1, lookN_putN, if_pos rfl, hl]; rfl
    have h3 : famSet os b j v = putN os b (e.1, e.2.set j v) := by simp [famSet, hl]
    rw [h3]
    unfold famSet at h2 ⊢
    rw [hl] at h2
    simp only at h2
    simp only [hl]
    rw [h2]
    simp only [putN_putN, List.set_set]
theorem unlink_ok : unlH.ok PP 42 := by
  refine hc_of mixed (fn := Try.f42) (c := c42) rfl rfl unlH (fun x => rfl) ?_
  rintro ⟨os, ls, a, b, c, x⟩ hpre
  have hpre : UnPre os ls a b c x := hpre
  refine ⟨env PP [] [s67] [] [] [], env_ok .., rfl, hold (unlink_vc os ls a b c x) ?_⟩
  simp only [true_and, and_true]
  have hc := hpre.gc
  have hx := hpre.gx
  refine ⟨rfl, rfl, rfl, rfl, useGet hx (useGet hc ⟨⟨hpre.hin⟩, ?_⟩)⟩
  rintro ⟨h', ls'⟩ hd
  have s1 : famGet (famSet os a 0 (c.1, h')) a 0 = some (c.1, h') := by rw [famGet_famSet hc]; simp
  have s2 : famGet (famSet os a 0 (c.1, h')) b 0 = some x := by rw [famGet_famSet hc, if_neg (fun e => hpre.ne e.1.symm)]; exact hx
  have s3 : famGet (famSet (famSet os a 0 (c.1, h')) a 0 (unUsed c.1 x.1.2.2.1, h')) b 0 = some x := by rw [famGet_famSet s1, if_neg (fun e => hpre.ne e.1.symm)]; exact s2
  refine useGet hc ⟨rfl, rfl, useGet s1 ⟨rfl, rfl, useGet s2 ⟨rfl, rfl, useGet s1 ⟨rfl, rfl, useGet s3 ⟨rfl, rfl, useGet s3 ?_⟩⟩⟩⟩⟩
  refine ⟨(h', ls'), hd, ?_, rfl⟩
  show famSet (famSet (famSet os a 0 (c.1, h')) a 0 (unUsed c.1 x.1.2.2.1, h')) b 0 (unLinks x.1, x.2) = famSet (famSet os a 0 (unUsed c.1 x.1.2.2.1, h')) b 0 (unLinks x.1, x.2)
  rw [famSet_famSet]
end Go.Proofs.Ythoaelmomocohaa
namespace Go.Proofs.Ythoaelmomocohaa
open Go.Proofs.Ythoaelmomocohaa.Gx
set_option maxRecDepth 100000
set_option linter.unusedVariables false
set_option maxHeartbeats 0
def gAt (os : OS) (a : Nat) : Info × Hd := (famGet os a 0).getD (noInfo, nilHd)
noncomputable def s42U : Sv PP := ⟨42, hspec unlH [] fun ss S => match ss with
  | [.adr _ a, .adr _ b] => match findFam 72 0 S.res, findFam 3 0 S.res with
    | some f, some g => match S.res[f]?, S.res[g]? with
      | some (.fam _ (.pair (.pair (.int .i64) (.pair (.int .i64) (.pair (.int .i64) (.pair (.int .i64) (.pair (.int .i64) (.pair (.int .i64) (.slice (.pair (.int .i64) (.int .i64))))))))) (.hd 3)) os), some (.fam _ (.int .i64) ls) =>
        some ([f, g], (os, ls, a.getD 0, b.getD 0, gAt os (a.getD 0), gAt os (b.getD 0)))
      | _, _ => none
    | _, _ => none
  | _ => none, ⟨rfl, hspec_ok unlink_ok _ _⟩⟩
abbrev stT : Ty := .pair (.adr 72) (.adr 72)
noncomputable def s43 : Sv PP := ⟨43, inl PP e0 Try.f43 c43, ⟨rfl, inl_ok (env_ok ..) rfl mixed rfl rfl⟩⟩
def findStk : Nat → List Res → Option Nat
  | _, [] => none
  | i, .row _ (.pair (.adr a) (.adr b)) _ :: l => match Nat.beq a 72, Nat.beq b 72 with
    | true, true => some i
    | _, _ => findStk (i + 1) l
  | i, _ :: l => findStk (i + 1) l
/-- What is pushed for the entries of an object that goes. -/
def pushes (es : List (Int × Option Nat)) (row : List Int) (a : Option Nat) (k : Nat) : List (Option Nat × Option Nat) := ((row.drop k).reverse).map fun v => (a, (lookL es v).getD none)
def getV : List SV → St → Option SV := fun ss S => match ss, S.res with
  | [.ptr 0 0, .int .i64 id], .blk _ [.mp 1, .int .i64 _] :: .mapr .i64 false (.adr _) es none :: _ => some (.adr 72 ((lookL es id).getD none))
  | _, _ => none
def getRd : RSpec := fun ss res s => match ss, res with
  | [.ptr 0 0, .int .i64 id], .blk t0 [.mp 1, .int .i64 root] :: .mapr .i64 false (.adr t1) es none :: rest =>
    ((Nat.beq t0 75 && Nat.beq t1 72) = true) ∧ s = .adr 72 ((lookL es id).getD none)
  | _, _ => False
theorem get_rvc (id : Int) (root : Int) (es : List (Int × Option Nat)) (rest : List Res) : (rvc PP noP c37 (enterS Try.f37.ntmps [.ptr 0 0, .int .i64 id] { fr := { n := 0, tm := [] }, stk := [], res := .blk 75 [.mp 1, .int .i64 root] :: .mapr .i64 false (.adr 72) es none :: rest }) fun S' => retS PP S' Try.f37.results.toList fun rs => resSV rs = .adr 72 ((lookL es id).getD none)) = (
  SV.adr (72 : TypeId) ((lookL es id).getD none) = SV.adr (72 : TypeId) ((lookL es id).getD none)) := by kernel_rfl
end Go.Proofs.Ythoaelmomocohaa
namespace Go.Proofs.Ythoaelmomocohaa
open Go.Proofs.Ythoaelmomocohaa.Gx
set_option maxRecDepth 100000
set_option maxHeartbeats 4000000
set_option linter.unusedSimpArgs false
set_option linter.unusedVariables false
theorem get_reads : ReadsOk PP 37 getRd := by
  refine reads_fn noP_exact mixed (fn := Try.f37) (c := c37) rfl rfl ?_
  intro ss res s hR
  unfold getRd at hR
  split at hR
  rotate_left
  · exact hR.elim
  rename_i id t0 root t1 es rest
  obtain ⟨hb, rfl⟩ := hR
  simp only [Bool.and_eq_true] at hb
  obtain ⟨b1, b2⟩ := hb
  obtain rfl := Nat.eq_of_beq_eq_true b1
  obtain rfl := Nat.eq_of_beq_eq_true b2
  exact ⟨show (2 : Nat) ≤ 13 by decide, cast (get_rvc id root es rest).symm rfl⟩
noncomputable def k37 : Kv PP := ⟨37, ⟨s37.s, getV, none, some getRd⟩, s37.ok, fun N h => (by cases h), fun R h => (by cases h; exact get_reads)⟩
end Go.Proofs.Ythoaelmomocohaa
namespace Go.Proofs.Ythoaelmomocohaa
open Go.Proofs.Ythoaelmomocohaa.Gx
set_option linter.unusedSimpArgs false
set_option linter.unusedVariables false
abbrev Al := List (Int × Ob)
def obL (A : Al) (k : Int) : Ob := (lookL A k).getD (noInfo, [])
def cntA (A : Al) (k : Int) : Nat := A.countP fun x => x.2.2.contains k
def wtA (A : Al) : Nat := (A.map fun x => x.2.2.length).sum
def sumQ (A : Al) (row : List Int) : Int := (row.map fun k => quotaOf (obL A k)).sum
def unF (A : Al) (f t : Int) : Ob := (unUsed (obL A f).1 (quotaOf (obL A t)), (obL A f).2.filter (· != idOf (obL A t)))
def unT (A : Al) (t : Int) : Ob := (unLinks (obL A t).1, (obL A t).2)
def unlinkA (A : Al) (f t : Int) : Al := insL (insL A f (unF A f t)) t (unT A t)
structure DrS where
  A : Al
  gone : List Int
  stk : List (Int × Int)
def dropStep (D : DrS) : DrS := match D.stk with
  | [] => D
  | (f, t) :: s => if linksOf (obL (unlinkA D.A f t) t) > 0 then ⟨unlinkA D.A f t, D.gone, s⟩ else ⟨unlinkA D.A f t, D.gone ++ [t], (obL (unlinkA D.A f t) t).2.map (fun k => (t, k)) ++ s⟩
def dropRun : Nat → DrS → DrS
  | 0, D => D
  | n + 1, D => match D.stk with
    | [] => D
    | _ :: _ => dropRun n (dropStep D)
def dropEnd (D : DrS) : DrS := dropRun (wtA D.A) D
/-- Objects, each of its number, linked to as often as is told, the entries' quotas summed up. -/
structure AInv (root : Int) (A : Al) : Prop where
  nodup : (A.map (·.1)).Nodup
  few : A.length ≤ 4096
  ids : ∀ k o, lookL A k = some o → idOf o = k
  rnd : ∀ k o, lookL A k = some o → o.2.Nodup
  ent : ∀ k o, lookL A k = some o → ∀ j ∈ o.2, (lookL A j).isSome = true ∧ j ≠ root
  rank : ∃ r : Int → Nat, ∀ k o, lookL A k = some o → ∀ j ∈ o.2, r k < r j
  quo : ∀ k o, lookL A k = some o → 1 ≤ quotaOf o ∧ quotaOf o ≤ 1099511627776
  lnk : ∀ k o, lookL A k = some o → linksOf o = (cntA A k : Int) + (if k = root then 1 else 0)
  usd : ∀ k o, lookL A k = some o → usedOf o = sumQ A o.2
/-- What holds as long as links are taken away. -/
structure DInv (root inn id : Int) (D : DrS) : Prop where
  a : AInv root D.A
  stk : ∀ p ∈ D.stk, p.2 ∈ (obL D.A p.1).2
  sn : D.stk.Nodup
  dead : ∀ g ∈ D.gone, (lookL D.A g).isSome = true ∧ cntA D.A g = 0 ∧ g ≠ root
  gn : D.gone.Nodup
  top : (∀ p ∈ D.stk, p.1 ∈ D.gone) ∨ (D.stk = [(inn, id)] ∧ D.gone = [])
  drow : ∀ g ∈ D.gone, ∀ k ∈ (obL D.A g).2, (g, k) ∈ D.stk
  live : ∀ k o, lookL D.A k = some o → k ∉ D.gone → 1 ≤ linksOf o
/-! ### One object is another one -/
theorem ins_split {α : Type} : {A : List (Int × α)} → {k : Int} → {o : α} → lookL A k = some o → ∃ l r, A = l ++ (k, o) :: r ∧ ∀ v, insL A k v = l ++ (k, v) :: r
  | x :: A, k, o, h => by
    simp only [lookL] at h
    split at h
    · rename_i e; cases h; subst e
      exact ⟨[], A, rfl, fun v => by simp [insL]⟩
    · rename_i e
      obtain ⟨l, r, h1, h2⟩ := ins_split h
      exact ⟨x :: l, r, by rw [h1]; rfl, fun v => by simp [insL, e, h2 v]⟩
theorem keys_ins {α : Type} {A : List (Int × α)} {k : Int} {o : α} (h : lookL A k = some o) (v : α) : (insL A k v).map (·.1) = A.map (·.1) := by
  obtain ⟨l, r, h1, h2⟩ := ins_split h
  rw [h2 v, h1]; simp
theorem len_ins {α : Type} {A : List (Int × α)} {k : Int} {o : α} (h : lookL A k = some o) (v : α) : (insL A k v).length = A.length := by
  obtain ⟨l, r, h1, h2⟩ := ins_split h
  rw [h2 v, h1]; simp
theorem cnt_ins {A : Al} {k : Int} {o : Ob} (h : lookL A k = some o) (v : Ob) (j : Int) : cntA (insL A k v) j + (if o.2.contains j then 1 else 0) = cntA A j + (if v.2.contains j then 1 else 0) := by
  obtain ⟨l, r, h1, h2⟩ := ins_split h
  unfold cntA
  rw [h2 v, h1]
  simp only [List.countP_append, List.countP_cons]
  omega
theorem wt_ins {A : Al} {k : Int} {o : Ob} (h : lookL A k = some o) (v : Ob) : wtA (insL A k v) + o.2.length = wtA A + v.2.length := by
  obtain ⟨l, r, h1, h2⟩ := ins_split h
  unfold wtA
  rw [h2 v, h1]
  simp only [List.map_append, List.map_cons, List.sum_append_nat, List.sum_cons]
  omega
theorem cnt_le (A : Al) (j : Int) : cntA A j ≤ A.length := List.countP_le_length
theorem cnt_pos {A : Al} {k j : Int} {o : Ob} (h : lookL A k = some o) (hj : j ∈ o.2) : 1 ≤ cntA A j := by
  unfold cntA
  exact List.countP_pos_iff.2 ⟨_, lookL_mem h, by simpa using hj⟩
theorem cnt_zero {A : Al} {k j : Int} {o : Ob} (h : lookL A k = some o) (hc : cntA A j = 0) : j ∉ o.2 := fun hj => by
  have := cnt_pos h hj; omega
/-! ### A link is taken away -/
section
variable {A : Al} {f t : Int} {a b : Ob}
theorem ob_of {k : Int} {o : Ob} (h : lookL A k = some o) : obL A k = o := by simp [obL, h]
theorem look_un (hf : lookL A f = some a) (ht : lookL A t = some b) (hne : f ≠ t) (j : Int) : lookL (unlinkA A f t) j = if j = t then some (unLinks b.1, b.2) else if j = f then some (unUsed a.1 (quotaOf b), a.2.filter (· != idOf b)) else lookL A j := by
  unfold unlinkA unF unT
  rw [lookL_insL, lookL_insL, ob_of hf, ob_of ht]
theorem keys_un (hf : lookL A f = some a) (ht : lookL A t = some b) (hne : f ≠ t) : (unlinkA A f t).map (·.1) = A.map (·.1) := by
  unfold unlinkA
  have h1 : lookL (insL A f (unF A f t)) t = some b := by rw [lookL_insL, if_neg (fun e => hne e.symm)]; exact ht
  rw [keys_ins h1, keys_ins hf]
theorem len_un (hf : lookL A f = some a) (ht : lookL A t = some b) (hne : f ≠ t) : (unlinkA A f t).length = A.length := by
  have := congrArg List.length (keys_un hf ht hne)
  simpa using this
theorem cnt_un (hf : lookL A f = some a) (ht : lookL A t = some b) (hne : f ≠ t) (hid : idOf b = t) (hin : t ∈ a.2) (j : Int) : cntA (unlinkA A f t) j + (if j = t then 1 else 0) = cntA A j := by
  have h1 : lookL (insL A f (unF A f t)) t = some b := by rw [lookL_insL, if_neg (fun e => hne e.symm)]; exact ht
  have e1 := cnt_ins h1 (unT A t) j
  have e2 := cnt_ins hf (unF A f t) j
  have e3 : (unT A t).2 = b.2 := by simp [unT, ob_of ht]
  have e4 : (unF A f t).2 = a.2.filter (· != t) := by simp only [unF, ob_of hf, ob_of ht, hid]
  rw [e3] at e1
  rw [e4] at e2
  unfold unlinkA
  by_cases e : j = t
  · subst e
    have c1 : a.2.contains j = true := by simpa using hin
    have c2 : (a.2.filter (· != j)).contains j = false := by simp
    rw [c1, c2] at e2
    simp only [if_true] at e2 ⊢
    simp at e2
    omega
  · have c : (a.2.filter (· != t)).contains j = a.2.contains j := by
      rw [Bool.eq_iff_iff]; simp [e]
    rw [c] at e2
    rw [if_neg e]
    omega
theorem filter_len {l : List Int} {x : Int} (hn : l.Nodup) (hx : x ∈ l) : (l.filter (· != x)).length + 1 = l.length := by
  induction l with
  | nil => cases hx
  | cons y l ih =>
    simp only [List.nodup_cons] at hn
    by_cases e : y = x
    · subst e
      rw [List.filter_cons, if_neg (by simp), not_flt hn.1]; rfl
    · rw [List.filter_cons, if_pos (by simpa using e)]
      have := ih hn.2 ((List.mem_cons.1 hx).resolve_left (fun h => e h.symm))
      simp only [List.length_cons]; omega
theorem wt_un (hf : lookL A f = some a) (ht : lookL A t = some b) (hne : f ≠ t) (hid : idOf b = t) (hn : a.2.Nodup) (hin : t ∈ a.2) : wtA (unlinkA A f t) + 1 = wtA A := by
  have h1 : lookL (insL A f (unF A f t)) t = some b := by rw [lookL_insL, if_neg (fun e => hne e.symm)]; exact ht
  have e1 := wt_ins h1 (unT A t)
  have e2 := wt_ins hf (unF A f t)
  have e3 : (unT A t).2 = b.2 := by simp [unT, ob_of ht]
  have e4 : (unF A f t).2 = a.2.filter (· != t) := by simp only [unF, ob_of hf, ob_of ht, hid]
  rw [e3] at e1
  rw [e4] at e2
  have := filter_len hn hin
  unfold unlinkA
  omega
theorem quota_un (hf : lookL A f = some a) (ht : lookL A t = some b) (hne : f ≠ t) (j : Int) : quotaOf (obL (unlinkA A f t) j) = quotaOf (obL A j) := by
  unfold obL
  rw [look_un hf ht hne]
  split
  · rename_i e; subst e; rw [ht]; rfl
  · split
    · rename_i e; subst e; rw [hf]; rfl
    · rfl
theorem sumQ_un (hf : lookL A f = some a) (ht : lookL A t = some b) (hne : f ≠ t) (row : List Int) : sumQ (unlinkA A f t) row = sumQ A row := by
  unfold sumQ
  rw [List.map_congr_left (fun j _ => quota_un hf ht hne j)]
theorem sumQ_take {A : Al} {l : List Int} {x : Int} (hn : l.Nodup) (hx : x ∈ l) : sumQ A (l.filter (· != x)) = sumQ A l - quotaOf (obL A x) := by
  induction l with
  | nil => cases hx
  | cons y l ih =>
    simp only [List.nodup_cons] at hn
    by_cases e : y = x
    · subst e
      rw [List.filter_cons, if_neg (by simp), not_flt hn.1]
      simp only [sumQ, List.map_cons, List.sum_cons]; omega
    · rw [List.filter_cons, if_pos (by simpa using e)]
      have := ih hn.2 ((List.mem_cons.1 hx).resolve_left (fun h => e h.symm))
      simp only [sumQ, List.map_cons, List.sum_cons] at this ⊢
      omega
theorem sumQ_bound {A : Al} : {row : List Int} → (∀ k ∈ row, 0 ≤ quotaOf (obL A k) ∧ quotaOf (obL A k) ≤ 1099511627776) → 0 ≤ sumQ A row ∧ sumQ A row ≤ 1099511627776 * (row.length : Int)
  | [], _ => by simp [sumQ]
  | x :: row, h => by
    have := sumQ_bound (row := row) (fun k hk => h k (by simp [hk]))
    have hx := h x (by simp)
    simp only [sumQ, List.map_cons, List.sum_cons, List.length_cons] at this ⊢
    omega
end
theorem row_few {A : Al} {row : List Int} (hn : row.Nodup) (he : ∀ j ∈ row, (lookL A j).isSome = true) : row.length ≤ A.length := by
  have hsub : row ⊆ A.map (·.1) := fun j hj => by
    cases h : lookL A j with
    | none => have := he j hj; rw [h] at this; cases this
    | some o => exact List.mem_map.2 ⟨_, lookL_mem h, rfl⟩
  have := hn.length_le_of_subset hsub
  simpa using this
theorem ob_mem {A : Al} {k j : Int} (h : j ∈ (obL A k).2) : ∃ o, lookL A k = some o ∧ j ∈ o.2 := by
  unfold obL at h
  cases hl : lookL A k with
  | none => rw [hl] at h; simp at h
  | some o => rw [hl] at h; exact ⟨o, rfl, h⟩
section
variable {root inn id : Int} {A : Al} {f t : Int} {a b : Ob}
theorem AInv.ne (h : AInv root A) (hf : lookL A f = some a) (hin : t ∈ a.2) : f ≠ t := by
  rintro rfl
  obtain ⟨r, hr⟩ := h.rank
  exact Nat.lt_irrefl _ (hr _ _ hf _ hin)
theorem AInv.unlink (h : AInv root A) (hf : lookL A f = some a) (ht : lookL A t = some b) (hin : t ∈ a.2) : AInv root (unlinkA A f t) := by
  have hne := h.ne hf hin
  have hid := h.ids _ _ ht
  have hlook := look_un hf ht hne
  have hsome : ∀ j, (lookL (unlinkA A f t) j).isSome = (lookL A j).isSome := fun j => by
    rw [hlook j]
    split
    · rename_i e; subst e; rw [ht]; rfl
    · split
      · rename_i e; subst e; rw [hf]; rfl
      · rfl
  have hrow : ∀ k o, lookL (unlinkA A f t) k = some o → ∃ o', lookL A k = some o' ∧ o.2.Sublist o'.2 ∧ idOf o = idOf o' ∧ quotaOf o = quotaOf o' := fun k o hk => by
    rw [hlook k] at hk
    split at hk
    · rename_i e; subst e; cases hk; exact ⟨b, ht, List.Sublist.refl _, rfl, rfl⟩
    · split at hk
      · rename_i e; subst e; cases hk; exact ⟨a, hf, List.filter_sublist, rfl, rfl⟩
      · exact ⟨o, hk, List.Sublist.refl _, rfl, rfl⟩
  have htr : t ≠ root := (h.ent _ _ hf _ hin).2
  have hct := cnt_un hf ht hne hid hin
  have hcl := cnt_le A t
  have hfew := h.few
  refine ⟨by rw [keys_un hf ht hne]; exact h.nodup, by rw [len_un hf ht hne]; exact h.few, fun k o hk => ?_, fun k o hk => ?_, fun k o hk j hj => ?_, ?_, fun k o hk => ?_, fun k o hk => ?_, fun k o hk => ?_⟩
  · obtain ⟨o', h1, h2, h3, h4⟩ := hrow k o hk
    rw [h3]; exact h.ids _ _ h1
  · obtain ⟨o', h1, h2, h3, h4⟩ := hrow k o hk
    exact h2.nodup (h.rnd _ _ h1)
  · obtain ⟨o', h1, h2, h3, h4⟩ := hrow k o hk
    rw [hsome]; exact h.ent _ _ h1 j (h2.subset hj)
  · obtain ⟨r, hr⟩ := h.rank
    refine ⟨r, fun k o hk j hj => ?_⟩
    obtain ⟨o', h1, h2, h3, h4⟩ := hrow k o hk
    exact hr _ _ h1 j (h2.subset hj)
  · obtain ⟨o', h1, h2, h3, h4⟩ := hrow k o hk
    rw [h4]; exact h.quo _ _ h1
  · have hc := hct k
    rw [hlook k] at hk
    split at hk
    · rename_i e; subst e; cases hk
      have hl := h.lnk _ _ ht
      rw [if_neg htr] at hl ⊢
      rw [if_pos rfl] at hc
      show IntKind.i64.wrap (linksOf b - 1) = _
      rw [wrap64 (by omega) (by omega)]
      omega
    · rename_i ekt
      rw [if_neg ekt] at hc
      split at hk
      · rename_i e; subst e; cases hk
        show linksOf a = _
        rw [h.lnk _ _ hf, ← hc]; rfl
      · rw [h.lnk _ _ hk, ← hc]; rfl
  · rw [sumQ_un hf ht hne]
    rw [hlook k] at hk
    split at hk
    · rename_i e; subst e; cases hk
      show usedOf b = sumQ A b.2
      exact h.usd _ _ ht
    · split at hk
      · rename_i e; subst e; cases hk
        have hb := sumQ_bound (A := A) (row := a.2) (fun j hj => by
          have := (h.ent _ _ hf j hj).1
          cases hlj : lookL A j with
          | none => rw [hlj] at this; cases this
          | some oj => rw [ob_of hlj]; have := h.quo _ _ hlj; omega)
        have hq := h.quo _ _ ht
        have hfl := row_few (h.rnd _ _ hf) (fun j hj => (h.ent _ _ hf j hj).1)
        rw [hid, sumQ_take (h.rnd _ _ hf) hin, ob_of ht]
        show IntKind.i64.wrap (usedOf a - quotaOf b) = _
        rw [h.usd _ _ hf, wrap64 (by omega) (by omega)]
      · exact h.usd _ _ hk
structure Head (root inn id : Int) (D : DrS) (f t : Int) (s : List (Int × Int)) (a b : Ob) : Prop where
  hf : lookL D.A f = some a
  ht : lookL D.A t = some b
  hin : t ∈ a.2
  alive : t ∉ D.gone
  ne : f ≠ t
theorem DInv.head {D : DrS} {s : List (Int × Int)} (h : DInv root inn id D) (hs : D.stk = (f, t) :: s) : ∃ a b, Head root inn id D f t s a b := by
  obtain ⟨a, hf, hin⟩ := ob_mem (h.stk (f, t) (by rw [hs]; simp))
  have ht := (h.a.ent _ _ hf _ hin).1
  cases hb : lookL D.A t with
  | none => rw [hb] at ht; cases ht
  | some b => exact ⟨a, b, hf, hb, hin, fun hg => cnt_zero hf (h.dead t hg).2.1 hin, h.a.ne hf hin⟩
theorem DInv.step {D : DrS} {s : List (Int × Int)} {a b : Ob} (h : DInv root inn id D) (hs : D.stk = (f, t) :: s) (H : Head root inn id D f t s a b) : DInv root inn id (dropStep D) ∧ wtA (dropStep D).A + 1 = wtA D.A := by
  obtain ⟨hf, ht, hin, halive, hne⟩ := H
  have hid := h.a.ids _ _ ht
  have hA := h.a.unlink hf ht hin
  have hlook := look_un hf ht hne
  have hct := cnt_un hf ht hne hid hin
  have hwt := wt_un hf ht hne hid (h.a.rnd _ _ hf) hin
  have hsome : ∀ j, (lookL (unlinkA D.A f t) j).isSome = (lookL D.A j).isSome := fun j => by
    rw [hlook j]
    split
    · rename_i e; subst e; rw [ht]; rfl
    · split
      · rename_i e; subst e; rw [hf]; rfl
      · rfl
  have hrows : ∀ j, (obL (unlinkA D.A f t) j).2 = if j = f then a.2.filter (· != t) else (obL D.A j).2 := fun j => by
    unfold obL
    rw [hlook j]
    split
    · rename_i e; subst e; rw [if_neg (fun e => hne e.symm), ht]; rfl
    · split
      · rw [hid]; rfl
      · rfl
  have htr : t ≠ root := (h.a.ent _ _ hf _ hin).2
  have hob : obL (unlinkA D.A f t) t = (unLinks b.1, b.2) := by
    unfold obL; rw [hlook t, if_pos rfl]; rfl
  have hlt : linksOf (obL (unlinkA D.A f t) t) = (cntA (unlinkA D.A f t) t : Int) := by
    have hl := hA.lnk t (unLinks b.1, b.2) (by rw [hlook t, if_pos rfl])
    rw [if_neg htr] at hl
    rw [hob, hl]; simp
  have hstk : ∀ p ∈ s, p.2 ∈ (obL (unlinkA D.A f t) p.1).2 := fun p hp => by
    have h1 := h.stk p (by rw [hs]; simp [hp])
    rw [hrows]
    split
    · rename_i e
      rw [e, ob_of hf] at h1
      refine List.mem_filter.2 ⟨h1, ?_⟩
      have hsn := h.sn
      rw [hs] at hsn
      simp only [List.nodup_cons] at hsn
      simp only [bne_iff_ne, ne_eq]
      intro e2
      exact hsn.1 (by rw [← e, ← e2]; exact hp)
    · exact h1
  have hsn : s.Nodup := by have := h.sn; rw [hs] at this; exact (List.nodup_cons.1 this).2
  have hdead : ∀ g ∈ D.gone, (lookL (unlinkA D.A f t) g).isSome = true ∧ cntA (unlinkA D.A f t) g = 0 ∧ g ≠ root := fun g hg => by
    obtain ⟨d1, d2, d3⟩ := h.dead g hg
    have := hct g
    exact ⟨by rw [hsome]; exact d1, by omega, d3⟩
  have htop : ∀ p ∈ s, p.1 ∈ D.gone := fun p hp => by
    rcases h.top with h1 | ⟨h1, _⟩
    · exact h1 p (by rw [hs]; simp [hp])
    · rw [hs] at h1; simp at h1; rw [h1.2] at hp; cases hp
  have hdrow : ∀ g ∈ D.gone, ∀ k ∈ (obL (unlinkA D.A f t) g).2, (g, k) ∈ s := fun g hg k hk => by
    rw [hrows] at hk
    split at hk
    · rename_i e; subst e
      obtain ⟨k1, k2⟩ := List.mem_filter.1 hk
      have := h.drow g hg k (by rw [ob_of hf]; exact k1)
      rw [hs] at this
      rcases List.mem_cons.1 this with e | e
      · simp only [bne_iff_ne, ne_eq] at k2
        exact absurd (Prod.mk.inj e).2 k2
      · exact e
    · rename_i e
      have := h.drow g hg k hk
      rw [hs] at this
      rcases List.mem_cons.1 this with e2 | e2
      · exact absurd (Prod.mk.inj e2).1 e
      · exact e2
  have hlive : ∀ k o, lookL (unlinkA D.A f t) k = some o → k ∉ D.gone → k ≠ t → 1 ≤ linksOf o := fun k o hk hg hkt => by
    rw [hlook k, if_neg hkt] at hk
    split at hk
    · rename_i e; subst e; cases hk; exact h.live _ a hf hg
    · exact h.live _ _ hk hg
  unfold dropStep
  rw [hs]
  simp only
  by_cases hpos : linksOf (obL (unlinkA D.A f t) t) > 0
  · rw [if_pos hpos]
    refine ⟨⟨hA, hstk, hsn, hdead, h.gn, .inl htop, hdrow, fun k o hk hg => ?_⟩, hwt⟩
    by_cases e : k = t
    · subst e
      have : obL (unlinkA D.A f k) k = o := ob_of hk
      rw [this] at hpos; omega
    · exact hlive k o hk hg e
  · rw [if_neg hpos]
    have hz : cntA (unlinkA D.A f t) t = 0 := by omega
    have hrt : (obL (unlinkA D.A f t) t).2 = b.2 := by rw [hob]
    refine ⟨⟨hA, ?_, ?_, ?_, ?_, .inl ?_, ?_, ?_⟩, hwt⟩
    · intro p hp
      rcases List.mem_append.1 hp with hp | hp
      · obtain ⟨k, hk, rfl⟩ := List.mem_map.1 hp
        exact hk
      · exact hstk p hp
    · show ((obL (unlinkA D.A f t) t).2.map (fun k => (t, k)) ++ s).Nodup
      rw [List.nodup_append]
      refine ⟨?_, hsn, ?_⟩
      · rw [hrt]
        have := h.a.rnd _ _ ht
        unfold List.Nodup at this ⊢
        rw [List.pairwise_map]
        exact this.imp (fun hxy e => hxy (Prod.mk.inj e).2)
      · intro x hx y hy
        obtain ⟨k, hk, rfl⟩ := List.mem_map.1 hx
        rintro rfl
        exact halive (htop _ hy)
    · intro g hg
      rcases List.mem_append.1 hg with hg | hg
      · exact hdead g hg
      · obtain rfl := List.mem_singleton.1 hg
        exact ⟨by rw [hsome, ht]; rfl, hz, htr⟩
    · show (D.gone ++ [t]).Nodup
      rw [List.nodup_append]
      exact ⟨h.gn, by simp, fun x hx y hy => by obtain rfl := List.mem_singleton.1 hy; rintro rfl; exact halive hx⟩
    · intro p hp
      show p.1 ∈ D.gone ++ [t]
      rcases List.mem_append.1 hp with hp | hp
      · obtain ⟨k, hk, rfl⟩ := List.mem_map.1 hp
        simp
      · exact List.mem_append_left _ (htop p hp)
    · intro g hg k hk
      rcases List.mem_append.1 hg with hg | hg
      · exact List.mem_append_right _ (hdrow g hg k hk)
      · obtain rfl := List.mem_singleton.1 hg
        exact List.mem_append_left _ (List.mem_map.2 ⟨k, hk, rfl⟩)
    · intro k o hk hg
      simp only [List.mem_append, List.mem_singleton, not_or] at hg
      exact hlive k o hk hg.1 hg.2
end
/-- All that is to be done has been done. -/
theorem run_done {root inn id : Int} : (n : Nat) → (D : DrS) → DInv root inn id D → wtA D.A ≤ n → (dropRun n D).stk = [] ∧ DInv root inn id (dropRun n D)
  | n, D, h, hn => by
    cases hs : D.stk with
    | nil =>
      have : dropRun n D = D := by cases n <;> simp [dropRun, hs]
      rw [this]; exact ⟨hs, h⟩
    | cons p s =>
      obtain ⟨f, t⟩ := p
      obtain ⟨a, b, H⟩ := h.head hs
      obtain ⟨h1, h2⟩ := h.step hs H
      cases n with
      | zero => omega
      | succ n =>
        have : dropRun (n + 1) D = dropRun n (dropStep D) := by simp [dropRun, hs]
        rw [this]
        exact run_done n _ h1 (by omega)
theorem run_more {root inn id : Int} : (n m : Nat) → (D : DrS) → DInv root inn id D → wtA D.A ≤ n → wtA D.A ≤ m → dropRun n D = dropRun m D
  | n, m, D, h, hn, hm => by
    cases hs : D.stk with
    | nil =>
      have e1 : dropRun n D = D := by cases n <;> simp [dropRun, hs]
      have e2 : dropRun m D = D := by cases m <;> simp [dropRun, hs]
      rw [e1, e2]
    | cons p s =>
      obtain ⟨f, t⟩ := p
      obtain ⟨a, b, H⟩ := h.head hs
      obtain ⟨h1, h2⟩ := h.step hs H
      cases n with
      | zero => omega
      | succ n =>
        cases m with
        | zero => omega
        | succ m =>
          have e1 : dropRun (n + 1) D = dropRun n (dropStep D) := by simp [dropRun, hs]
          have e2 : dropRun (m + 1) D = dropRun m (dropStep D) := by simp [dropRun, hs]
          rw [e1, e2]
          exact run_more n m _ h1 (by omega) (by omega)
theorem end_step {root inn id f t : Int} {D : DrS} {s : List (Int × Int)} (h : DInv root inn id D) (hs : D.stk = (f, t) :: s) : dropEnd (dropStep D) = dropEnd D := by
  obtain ⟨a, b, H⟩ := h.head hs
  obtain ⟨h1, h2⟩ := h.step hs H
  unfold dropEnd
  rw [← h2]
  have : dropRun (wtA (dropStep D).A + 1) D = dropRun (wtA (dropStep D).A) (dropStep D) := by simp [dropRun, hs]
  rw [this]
theorem end_nil {D : DrS} (hs : D.stk = []) : dropEnd D = D := by
  unfold dropEnd
  cases wtA D.A <;> simp [dropRun, hs]
end Go.Proofs.Ythoaelmomocohaa
namespace Go.Proofs.Ythoaelmomocohaa
open Go.Proofs.Ythoaelmomocohaa.Gx
set_option maxRecDepth 100000
set_option linter.unusedVariables false
set_option maxHeartbeats 0
structure BkX where
  r : Nat
  q : Nat
  es : List (Int × Option Nat)
  ls : LS
  h : Hd
  a : Option Nat
  stk : List (Option Nat × Option Nat)
def bkIx (S : St) : Option BkX := match S.res with
  | _ :: .mapr .i64 false (.adr _) es none :: _ => match findStk 0 S.res, findFam 3 0 S.res, getT S.fr.tm 1, S.stk with
    | some r, some f, .ptr q 0, fr :: _ => match S.res[r]?, S.res[f]?, S.res[q]?, getT fr.tm 13, getT fr.tm 12 with
      | some (.row _ (.pair (.adr _) (.adr _)) stk), some (.fam _ (.int .i64) ls), some (.blk _ [.hd _ h]), .ptr b 0, .ptr q12 0 => match S.res[b]? with
        | some (.blk _ [_, .adr _ a]) => some ⟨r, q12, es, ls, h, a, stk⟩
        | _ => none
      | _, _, _, _, _ => none
    | _, _, _, _ => none
  | _ => none
def bkwLoop : List (Nat × (St → Option LoopSpec)) :=
  [(1, fun S => match bkIx S with
    | some x => some { α := Nat, inv := fun k => k ≤ x.h.len ∧ True, ov := fun k => [(3, .int .i64 ((k : Int) - 1))], rov := fun k => [(x.q, .blk 0 [.row x.r]), (x.r, .row 0 stT (x.stk ++ pushes x.es (rdH x.ls x.h) x.a k))], meas := fun k => k }
    | none => none)]
noncomputable def i68 : Iv PP := ⟨68, inlY PP (env PP [] [] [] [] bkwLoop) Try.f68 c68, ⟨rfl, inlY_ok (env_ok ..) mixed rfl rfl⟩⟩
def aliveE (es : List (Int × Option Nat)) (gone : List Int) : List (Int × Option Nat) := es.filter fun x => !gone.contains x.1
def adP (es : List (Int × Option Nat)) (p : Int × Int) : Option Nat × Option Nat := ((lookL es p.1).getD none, (lookL es p.2).getD none)
noncomputable def s41c : Sv PP := ⟨41, inl PP (envC PP [] [s35, s40, s37] [] [] [] [16]) Try.f41 c41, ⟨rfl, inl_ok (envC_ok ..) rfl mixed rfl rfl⟩⟩
/-- What is under way, and how it lies. -/
structure DrJ (T : Tb) (y : TbIn) (inn id : Int) (z : DrS × OS × LS) : Prop where
  inv : DInv T.2 inn id z.1
  rel : TbRel (z.1.A, T.2) ⟨y.es, y.root, z.2.1, z.2.2⟩
  fin : dropEnd z.1 = dropEnd ⟨T.1, [], [(inn, id)]⟩
def dropLoop (T : Tb) (y : TbIn) (inn id : Int) : List (Nat × (St → Option LoopSpec)) :=
  [(6, fun S => match findStk 0 S.res, getT S.fr.tm 12 with
    | some r, .ptr q 0 => some { α := DrS × OS × LS, inv := fun z => DrJ T y inn id z, ov := fun _ => [(11, .row S.res.length)], rov := fun z => [(1, .mapr .i64 false (.adr 72) (aliveE y.es z.1.gone) none), (2, .fam 72 objR z.2.1), (3, .fam 3 i64 z.2.2), (q, .blk 0 [.row r]), (r, .row 0 stT ((z.1.stk.map (adP y.es)).reverse)), (S.res.length, .row 0 i64 z.1.gone)], meas := fun z => wtA z.1.A, nil := [(.slot 11, 3, i64)], df := true }
    | _, _ => none)]
def aliveT (A : Al) (gone : List Int) : Al := A.filter fun x => !gone.contains x.1
def dropR (T : Tb) (inn id : Int) : List Int × Int × Tb := match lookL T.1 inn with
  | none => ([], 4, T)
  | some c =>
    if kindOf c ≠ 1 then ([], 5, T)
    else if c.2.contains id = false then ([], 4, T)
    else ((dropEnd ⟨T.1, [], [(inn, id)]⟩).gone, 0, (aliveT (dropEnd ⟨T.1, [], [(inn, id)]⟩).A (dropEnd ⟨T.1, [], [(inn, id)]⟩).gone, T.2))
/-- A table as it may be. -/
structure WfT (T : Tb) : Prop where
  a : AInv T.2 T.1
  live : ∀ k o, lookL T.1 k = some o → 1 ≤ linksOf o
  root : ∃ o, lookL T.1 T.2 = some o ∧ kindOf o = 1
  kin : ∀ k o, lookL T.1 k = some o → kindOf o ≠ 1 → o.2 = []
  one : ∀ k o, lookL T.1 k = some o → kindOf o = 1 → linksOf o = 1
  cap : ∀ k o, lookL T.1 k = some o → usedOf o ≤ quotaOf o
  lab : ∀ k o, lookL T.1 k = some o → (labOf o).2.length ≤ 16
  idr : ∀ k o, lookL T.1 k = some o → 1 ≤ k ∧ k ≤ 2305843009213693951
def dropC : PC1 KT := turnsT (Tb × Int × Int) (fun x => x.1) (fun x => .ptr 0 0 :: ofArgs [i64, i64] (x.2.1, x.2.2, ())) (fun x => WfT x.1)
  (fun x => resSV (ofArgs [ints, i64] ((dropR x.1 x.2.1 x.2.2).1, (dropR x.1 x.2.1 x.2.2).2.1, ()))) (fun x => (dropR x.1 x.2.1 x.2.2).2.2)
theorem drop_vc (T : Tb) (inn id : Int) (y : TbIn) : (fvc PP (envC PP [] [s41c, s42U, s43, s37] [i68] [k37] (dropLoop T y inn id) [25]) Try.f16 c16 (dropC.U.ss ((T, inn, id), y)) (St1 (dropC.U.Rs ((T, inn, id), y))) (fun r S => Fin.frz.T r S fun r S => altsOk 4 ((T, inn, id), y) r S dropC.U.alts)) = (
  (((lookL y.es inn).getD none).isNone = true → ∃ (y_1 : Unit × Tup KT (1 : Nat)), (True ∧ TbRel (dropR T inn id).snd.snd y_1.snd.fst ∧ True) ∧ ((dropR T inn id).fst = [] ∧ (4 : Int) = (dropR T inn id).snd.fst ∧ True) ∧ 
  ((True ∧ y.root = y_1.snd.fst.root ∧ True) ∧ (y.es = y_1.snd.fst.es ∧ True) ∧ y.os = y_1.snd.fst.os ∧ y.ls = y_1.snd.fst.ls ∧ True) ∧ (True ∧ True ∧ True ∧ True ∧ True) ∧ True) ∧ (((lookL y.es inn).getD none).isNone = 
  false → ((lookL y.es inn).getD none).isSome = true ∧ ((lookL y.es inn).getD none).isSome = true ∧ (∃ (y_1 : (Int × Int × Int × Int × Int × Int × List (Int × Int)) × Hd), famGet y.os (((lookL y.es inn).getD none).getD 
  (0 : Nat)) (0 : Nat) = some y_1) ∧ ∀ (y_1 : (Int × Int × Int × Int × Int × Int × List (Int × Int)) × Hd), famGet y.os (((lookL y.es inn).getD none).getD (0 : Nat)) (0 : Nat) = some y_1 → ((y_1.fst.snd.fst != (1 : Int)) 
  = true → ∃ (y_2 : Unit × Tup KT (1 : Nat)), (True ∧ TbRel (dropR T inn id).snd.snd y_2.snd.fst ∧ True) ∧ ((dropR T inn id).fst = [] ∧ (5 : Int) = (dropR T inn id).snd.fst ∧ True) ∧ ((True ∧ y.root = y_2.snd.fst.root ∧ 
  True) ∧ (y.es = y_2.snd.fst.es ∧ True) ∧ y.os = y_2.snd.fst.os ∧ y.ls = y_2.snd.fst.ls ∧ True) ∧ (True ∧ True ∧ True ∧ True ∧ True) ∧ True) ∧ ((y_1.fst.snd.fst != (1 : Int)) = false → ((lookL y.es inn).getD 
  none).isSome = true ∧ ((lookL y.es inn).getD none).isSome = true ∧ (∃ (y_2 : (Int × Int × Int × Int × Int × Int × List (Int × Int)) × Hd), famGet y.os (((lookL y.es inn).getD none).getD (0 : Nat)) (0 : Nat) = some y_2) 
  ∧ ∀ (y_2 : (Int × Int × Int × Int × Int × Int × List (Int × Int)) × Hd), famGet y.os (((lookL y.es inn).getD none).getD (0 : Nat)) (0 : Nat) = some y_2 → HdIn y.ls y_2.snd ∧ true = true ∧ ((!hasI (rdH y.ls y_2.snd) id) 
  = true → ∃ (y_3 : Unit × Tup KT (1 : Nat)), (True ∧ TbRel (dropR T inn id).snd.snd y_3.snd.fst ∧ True) ∧ ((dropR T inn id).fst = [] ∧ (4 : Int) = (dropR T inn id).snd.fst ∧ True) ∧ ((True ∧ y.root = y_3.snd.fst.root ∧ 
  True) ∧ (y.es = y_3.snd.fst.es ∧ True) ∧ y.os = y_3.snd.fst.os ∧ y.ls = y_3.snd.fst.ls ∧ True) ∧ (True ∧ True ∧ True ∧ True ∧ True) ∧ True) ∧ ((!hasI (rdH y.ls y_2.snd) id) = false → ∃ (x0 : DrS × OS × LS), DrJ T y inn 
  id x0 ∧ (((True ∧ True ∧ True ∧ True ∧ True) ∧ True) ∧ (True ∧ True ∧ false = false ∧ (0 : Int) = (0 : Int) ∧ (lookL y.es id).getD none = (lookL y.es id).getD none ∧ (lookL y.es inn).getD none = (lookL y.es inn).getD 
  none ∧ (0 : Int) = (0 : Int) ∧ SV.val (Value.slice none (0 : Nat) (0 : Nat)) = SV.val (Value.slice none (0 : Nat) (0 : Nat)) ∧ True ∧ True ∧ inn = inn ∧ id = id ∧ True) ∧ (True ∧ y.root = y.root ∧ True) ∧ (y.es = 
  aliveE y.es x0.fst.gone ∧ True) ∧ y.os = x0.snd.fst ∧ y.ls = x0.snd.snd ∧ (True ∧ True) ∧ [((lookL y.es inn).getD none, (lookL y.es id).getD none)] = (List.map (adP y.es) x0.fst.stk).reverse ∧ (True ∧ True) ∧ [] = 
  x0.fst.gone ∧ True ∧ True) ∧ ∀ (x : DrS × OS × LS), DrJ T y inn id x → (List.map (adP y.es) x.fst.stk).reverse.length ≤ maxLen → (decide ((↑(List.map (adP y.es) x.fst.stk).reverse.length : Int) > (0 : Int)) = true → 
  (List.map (adP y.es) x.fst.stk).reverse.length ≤ maxLen → ((0 : Int) ≤ IntKind.i64.wrap ((↑(List.map (adP y.es) x.fst.stk).reverse.length : Int) - (1 : Int)) ∧ IntKind.i64.wrap ((↑(List.map (adP y.es) 
  x.fst.stk).reverse.length : Int) - (1 : Int)) < (↑(List.map (adP y.es) x.fst.stk).reverse.length : Int)) ∧ (IntKind.i64.wrap ((↑(List.map (adP y.es) x.fst.stk).reverse.length : Int) - (1 : Int))).toNat < (List.map (adP 
  y.es) x.fst.stk).reverse.length ∧ ∀ (y_3 : Option Nat × Option Nat), (List.map (adP y.es) x.fst.stk).reverse[(IntKind.i64.wrap ((↑(List.map (adP y.es) x.fst.stk).reverse.length : Int) - (1 : Int))).toNat]? = some y_3 → 
  (List.map (adP y.es) x.fst.stk).reverse.length ≤ maxLen → ((0 : Int) ≤ (some (IntKind.i64.wrap ((↑(List.map (adP y.es) x.fst.stk).reverse.length : Int) - (1 : Int)))).getD (↑(List.map (adP y.es) 
  x.fst.stk).reverse.length : Int) ∧ (some (IntKind.i64.wrap ((↑(List.map (adP y.es) x.fst.stk).reverse.length : Int) - (1 : Int)))).getD (↑(List.map (adP y.es) x.fst.stk).reverse.length : Int) ≤ (↑(List.map (adP y.es) 
  x.fst.stk).reverse.length : Int) ∧ (0 : Int) ≤ none.getD (0 : Int) ∧ none.getD (0 : Int) ≤ (some (IntKind.i64.wrap ((↑(List.map (adP y.es) x.fst.stk).reverse.length : Int) - (1 : Int)))).getD (↑(List.map (adP y.es) 
  x.fst.stk).reverse.length : Int)) ∧ UnPre x.snd.fst x.snd.snd (y_3.fst.getD (0 : Nat)) (y_3.snd.getD (0 : Nat)) (gAt x.snd.fst (y_3.fst.getD (0 : Nat))) (gAt x.snd.fst (y_3.snd.getD (0 : Nat))) ∧ (y_3.fst = some 
  (y_3.fst.getD (0 : Nat)) ∧ y_3.snd = some (y_3.snd.getD (0 : Nat)) ∧ True) ∧ (x.snd.fst = x.snd.fst ∧ x.snd.snd = x.snd.snd ∧ True) ∧ (∀ (y_4 : Hd × LS), DelPost x.snd.snd (gAt x.snd.fst (y_3.fst.getD (0 : Nat))).snd 
  (gAt x.snd.fst (y_3.snd.getD (0 : Nat))).fst.fst y_4.fst y_4.snd → y_3.snd.isSome = true ∧ y_3.snd.isSome = true ∧ (∃ (y : (Int × Int × Int × Int × Int × Int × List (Int × Int)) × Hd), famGet (famSet (famSet x.snd.fst 
  (y_3.fst.getD (0 : Nat)) (0 : Nat) (unUsed (gAt x.snd.fst (y_3.fst.getD (0 : Nat))).fst (gAt x.snd.fst (y_3.snd.getD (0 : Nat))).fst.snd.snd.fst, y_4.fst)) (y_3.snd.getD (0 : Nat)) (0 : Nat) (unLinks (gAt x.snd.fst 
  (y_3.snd.getD (0 : Nat))).fst, (gAt x.snd.fst (y_3.snd.getD (0 : Nat))).snd)) (y_3.snd.getD (0 : Nat)) (0 : Nat) = some y) ∧ ∀ (y_5 : (Int × Int × Int × Int × Int × Int × List (Int × Int)) × Hd), famGet (famSet (famSet 
  x.snd.fst (y_3.fst.getD (0 : Nat)) (0 : Nat) (unUsed (gAt x.snd.fst (y_3.fst.getD (0 : Nat))).fst (gAt x.snd.fst (y_3.snd.getD (0 : Nat))).fst.snd.snd.fst, y_4.fst)) (y_3.snd.getD (0 : Nat)) (0 : Nat) (unLinks (gAt 
  x.snd.fst (y_3.snd.getD (0 : Nat))).fst, (gAt x.snd.fst (y_3.snd.getD (0 : Nat))).snd)) (y_3.snd.getD (0 : Nat)) (0 : Nat) = some y_5 → (decide (y_5.fst.snd.snd.snd.snd.fst > (0 : Int)) = true → ∃ (x' : DrS × OS × LS), 
  DrJ T y inn id x' ∧ wtA x'.fst.A < wtA x.fst.A ∧ ((True ∧ True ∧ True ∧ True ∧ True) ∧ True) ∧ (True ∧ True ∧ false = false ∧ (0 : Int) = (0 : Int) ∧ (lookL y.es id).getD none = (lookL y.es id).getD none ∧ (lookL y.es 
  inn).getD none = (lookL y.es inn).getD none ∧ (0 : Int) = (0 : Int) ∧ SV.val (Value.slice none (0 : Nat) (0 : Nat)) = SV.val (Value.slice none (0 : Nat) (0 : Nat)) ∧ True ∧ True ∧ inn = inn ∧ id = id ∧ True) ∧ (True ∧ 
  y.root = y.root ∧ True) ∧ (aliveE y.es x.fst.gone = aliveE y.es x'.fst.gone ∧ True) ∧ famSet (famSet x.snd.fst (y_3.fst.getD (0 : Nat)) (0 : Nat) (unUsed (gAt x.snd.fst (y_3.fst.getD (0 : Nat))).fst (gAt x.snd.fst 
  (y_3.snd.getD (0 : Nat))).fst.snd.snd.fst, y_4.fst)) (y_3.snd.getD (0 : Nat)) (0 : Nat) (unLinks (gAt x.snd.fst (y_3.snd.getD (0 : Nat))).fst, (gAt x.snd.fst (y_3.snd.getD (0 : Nat))).snd) = x'.snd.fst ∧ y_4.snd = 
  x'.snd.snd ∧ (True ∧ True) ∧ List.take ((some (IntKind.i64.wrap ((↑(List.map (adP y.es) x.fst.stk).reverse.length : Int) - (1 : Int)))).getD (↑(List.map (adP y.es) x.fst.stk).reverse.length : Int)).toNat (List.map (adP 
  y.es) x.fst.stk).reverse = (List.map (adP y.es) x'.fst.stk).reverse ∧ (True ∧ True) ∧ x.fst.gone = x'.fst.gone ∧ True ∧ True) ∧ (decide (y_5.fst.snd.snd.snd.snd.fst > (0 : Int)) = false → y_3.snd.isSome = true ∧ 
  y_3.snd.isSome = true ∧ (∃ (y : (Int × Int × Int × Int × Int × Int × List (Int × Int)) × Hd), famGet (famSet (famSet x.snd.fst (y_3.fst.getD (0 : Nat)) (0 : Nat) (unUsed (gAt x.snd.fst (y_3.fst.getD (0 : Nat))).fst 
  (gAt x.snd.fst (y_3.snd.getD (0 : Nat))).fst.snd.snd.fst, y_4.fst)) (y_3.snd.getD (0 : Nat)) (0 : Nat) (unLinks (gAt x.snd.fst (y_3.snd.getD (0 : Nat))).fst, (gAt x.snd.fst (y_3.snd.getD (0 : Nat))).snd)) (y_3.snd.getD 
  (0 : Nat)) (0 : Nat) = some y) ∧ ∀ (y_6 : (Int × Int × Int × Int × Int × Int × List (Int × Int)) × Hd), famGet (famSet (famSet x.snd.fst (y_3.fst.getD (0 : Nat)) (0 : Nat) (unUsed (gAt x.snd.fst (y_3.fst.getD (0 : 
  Nat))).fst (gAt x.snd.fst (y_3.snd.getD (0 : Nat))).fst.snd.snd.fst, y_4.fst)) (y_3.snd.getD (0 : Nat)) (0 : Nat) (unLinks (gAt x.snd.fst (y_3.snd.getD (0 : Nat))).fst, (gAt x.snd.fst (y_3.snd.getD (0 : Nat))).snd)) 
  (y_3.snd.getD (0 : Nat)) (0 : Nat) = some y_6 → (x.fst.gone.length + [y_6.fst.fst].length) * (8 : Nat) ≤ (140737488355328 : Nat) ∧ y_3.snd.isSome = true ∧ y_3.snd.isSome = true ∧ (∃ (y : (Int × Int × Int × Int × Int × 
  Int × List (Int × Int)) × Hd), famGet (famSet (famSet x.snd.fst (y_3.fst.getD (0 : Nat)) (0 : Nat) (unUsed (gAt x.snd.fst (y_3.fst.getD (0 : Nat))).fst (gAt x.snd.fst (y_3.snd.getD (0 : Nat))).fst.snd.snd.fst, 
  y_4.fst)) (y_3.snd.getD (0 : Nat)) (0 : Nat) (unLinks (gAt x.snd.fst (y_3.snd.getD (0 : Nat))).fst, (gAt x.snd.fst (y_3.snd.getD (0 : Nat))).snd)) (y_3.snd.getD (0 : Nat)) (0 : Nat) = some y) ∧ ∀ (y_7 : (Int × Int × 
  Int × Int × Int × Int × List (Int × Int)) × Hd), famGet (famSet (famSet x.snd.fst (y_3.fst.getD (0 : Nat)) (0 : Nat) (unUsed (gAt x.snd.fst (y_3.fst.getD (0 : Nat))).fst (gAt x.snd.fst (y_3.snd.getD (0 : 
  Nat))).fst.snd.snd.fst, y_4.fst)) (y_3.snd.getD (0 : Nat)) (0 : Nat) (unLinks (gAt x.snd.fst (y_3.snd.getD (0 : Nat))).fst, (gAt x.snd.fst (y_3.snd.getD (0 : Nat))).snd)) (y_3.snd.getD (0 : Nat)) (0 : Nat) = some y_7 → 
  y_3.snd.isSome = true ∧ y_3.snd.isSome = true ∧ (∃ (y : (Int × Int × Int × Int × Int × Int × List (Int × Int)) × Hd), famGet (famSet (famSet x.snd.fst (y_3.fst.getD (0 : Nat)) (0 : Nat) (unUsed (gAt x.snd.fst 
  (y_3.fst.getD (0 : Nat))).fst (gAt x.snd.fst (y_3.snd.getD (0 : Nat))).fst.snd.snd.fst, y_4.fst)) (y_3.snd.getD (0 : Nat)) (0 : Nat) (unLinks (gAt x.snd.fst (y_3.snd.getD (0 : Nat))).fst, (gAt x.snd.fst (y_3.snd.getD 
  (0 : Nat))).snd)) (y_3.snd.getD (0 : Nat)) (0 : Nat) = some y) ∧ ∀ (y_8 : (Int × Int × Int × Int × Int × Int × List (Int × Int)) × Hd), famGet (famSet (famSet x.snd.fst (y_3.fst.getD (0 : Nat)) (0 : Nat) (unUsed (gAt 
  x.snd.fst (y_3.fst.getD (0 : Nat))).fst (gAt x.snd.fst (y_3.snd.getD (0 : Nat))).fst.snd.snd.fst, y_4.fst)) (y_3.snd.getD (0 : Nat)) (0 : Nat) (unLinks (gAt x.snd.fst (y_3.snd.getD (0 : Nat))).fst, (gAt x.snd.fst 
  (y_3.snd.getD (0 : Nat))).snd)) (y_3.snd.getD (0 : Nat)) (0 : Nat) = some y_8 → y_8.snd.len ≤ maxLen → ∃ (x0 : Nat), (x0 ≤ y_8.snd.len ∧ True) ∧ ((((True ∧ True) ∧ True ∧ false = false ∧ True ∧ true = true ∧ True ∧ 
  false = false ∧ (0 : Int) = (0 : Int) ∧ (lookL y.es id).getD none = (lookL y.es id).getD none ∧ (lookL y.es inn).getD none = (lookL y.es inn).getD none ∧ (0 : Int) = (0 : Int) ∧ SV.val (Value.slice none (0 : Nat) (0 : 
  Nat)) = SV.val (Value.slice none (0 : Nat) (0 : Nat)) ∧ True ∧ True ∧ inn = inn ∧ id = id ∧ True) ∧ (True ∧ True ∧ True ∧ True ∧ True) ∧ True) ∧ (IntKind.i64.wrap ((↑y_8.snd.len : Int) - (1 : Int)) = (↑x0 : Int) - (1 : 
  Int) ∧ True ∧ True ∧ True) ∧ (True ∧ y.root = y.root ∧ True) ∧ (delL (aliveE y.es x.fst.gone) y_7.fst.fst = delL (aliveE y.es x.fst.gone) y_7.fst.fst ∧ True) ∧ famSet (famSet x.snd.fst (y_3.fst.getD (0 : Nat)) (0 : 
  Nat) (unUsed (gAt x.snd.fst (y_3.fst.getD (0 : Nat))).fst (gAt x.snd.fst (y_3.snd.getD (0 : Nat))).fst.snd.snd.fst, y_4.fst)) (y_3.snd.getD (0 : Nat)) (0 : Nat) (unLinks (gAt x.snd.fst (y_3.snd.getD (0 : Nat))).fst, 
  (gAt x.snd.fst (y_3.snd.getD (0 : Nat))).snd) = famSet (famSet x.snd.fst (y_3.fst.getD (0 : Nat)) (0 : Nat) (unUsed (gAt x.snd.fst (y_3.fst.getD (0 : Nat))).fst (gAt x.snd.fst (y_3.snd.getD (0 : Nat))).fst.snd.snd.fst, 
  y_4.fst)) (y_3.snd.getD (0 : Nat)) (0 : Nat) (unLinks (gAt x.snd.fst (y_3.snd.getD (0 : Nat))).fst, (gAt x.snd.fst (y_3.snd.getD (0 : Nat))).snd) ∧ y_4.snd = y_4.snd ∧ (True ∧ True) ∧ List.take ((some (IntKind.i64.wrap 
  ((↑(List.map (adP y.es) x.fst.stk).reverse.length : Int) - (1 : Int)))).getD (↑(List.map (adP y.es) x.fst.stk).reverse.length : Int)).toNat (List.map (adP y.es) x.fst.stk).reverse = List.take ((some (IntKind.i64.wrap 
  ((↑(List.map (adP y.es) x.fst.stk).reverse.length : Int) - (1 : Int)))).getD (↑(List.map (adP y.es) x.fst.stk).reverse.length : Int)).toNat (List.map (adP y.es) x.fst.stk).reverse ++ pushes (delL (aliveE y.es 
  x.fst.gone) y_7.fst.fst) (rdH y_4.snd y_8.snd) y_3.snd x0 ∧ (True ∧ True) ∧ x.fst.gone ++ [y_6.fst.fst] = x.fst.gone ++ [y_6.fst.fst] ∧ True ∧ (y_3.fst = y_3.fst ∧ y_3.snd = y_3.snd ∧ True) ∧ [y_6.fst.fst] = 
  [y_6.fst.fst] ∧ (y_8.snd = y_8.snd ∧ True) ∧ True ∧ ((True ∧ True) ∧ True ∧ false = false ∧ True ∧ true = true ∧ True ∧ false = false ∧ (0 : Int) = (0 : Int) ∧ (lookL y.es id).getD none = (lookL y.es id).getD none ∧ 
  (lookL y.es inn).getD none = (lookL y.es inn).getD none ∧ (0 : Int) = (0 : Int) ∧ SV.val (Value.slice none (0 : Nat) (0 : Nat)) = SV.val (Value.slice none (0 : Nat) (0 : Nat)) ∧ True ∧ True ∧ inn = inn ∧ id = id ∧ 
  True) ∧ True) ∧ ∀ (x_1 : Nat), x_1 ≤ y_8.snd.len ∧ True → (decide ((↑x_1 : Int) - (1 : Int) ≥ (0 : Int)) = true → ((0 : Int) ≤ (↑x_1 : Int) - (1 : Int) ∧ (↑x_1 : Int) - (1 : Int) < (↑y_8.snd.len : Int)) ∧ (∃ (y : Int), 
  famGet y_4.snd (y_8.snd.b.getD (0 : Nat)) (y_8.snd.off + ((↑x_1 : Int) - (1 : Int)).toNat) = some y) ∧ ∀ (y_9 : Int), famGet y_4.snd (y_8.snd.b.getD (0 : Nat)) (y_8.snd.off + ((↑x_1 : Int) - (1 : Int)).toNat) = some 
  y_9 → ((Nat.beq (75 : Nat) (75 : Nat) && Nat.beq (72 : TypeId) (72 : Nat)) = true ∧ SV.adr (72 : TypeId) ((lookL (delL (aliveE y.es x.fst.gone) y_7.fst.fst) y_9).getD none) = SV.adr (72 : TypeId) ((lookL (delL (aliveE 
  y.es x.fst.gone) y_7.fst.fst) y_9).getD none)) ∧ ((List.take ((some (IntKind.i64.wrap ((↑(List.map (adP y.es) x.fst.stk).reverse.length : Int) - (1 : Int)))).getD (↑(List.map (adP y.es) x.fst.stk).reverse.length : 
  Int)).toNat (List.map (adP y.es) x.fst.stk).reverse ++ pushes (delL (aliveE y.es x.fst.gone) y_7.fst.fst) (rdH y_4.snd y_8.snd) y_3.snd x_1).length + [(y_3.snd, (lookL (delL (aliveE y.es x.fst.gone) y_7.fst.fst) 
  y_9).getD none)].length) * (16 : Nat) ≤ (140737488355328 : Nat) ∧ ∃ (x' : Nat), (x' ≤ y_8.snd.len ∧ True) ∧ x' < x_1 ∧ (((True ∧ True) ∧ True ∧ false = false ∧ True ∧ true = true ∧ True ∧ false = false ∧ (0 : Int) = (0 
  : Int) ∧ (lookL y.es id).getD none = (lookL y.es id).getD none ∧ (lookL y.es inn).getD none = (lookL y.es inn).getD none ∧ (0 : Int) = (0 : Int) ∧ SV.val (Value.slice none (0 : Nat) (0 : Nat)) = SV.val (Value.slice 
  none (0 : Nat) (0 : Nat)) ∧ True ∧ True ∧ inn = inn ∧ id = id ∧ True) ∧ (True ∧ True ∧ True ∧ True ∧ True) ∧ True) ∧ (IntKind.i64.wrap ((↑x_1 : Int) - (1 : Int) - (1 : Int)) = (↑x' : Int) - (1 : Int) ∧ True ∧ True ∧ 
  True) ∧ (True ∧ y.root = y.root ∧ True) ∧ (delL (aliveE y.es x.fst.gone) y_7.fst.fst = delL (aliveE y.es x.fst.gone) y_7.fst.fst ∧ True) ∧ famSet (famSet x.snd.fst (y_3.fst.getD (0 : Nat)) (0 : Nat) (unUsed (gAt 
  x.snd.fst (y_3.fst.getD (0 : Nat))).fst (gAt x.snd.fst (y_3.snd.getD (0 : Nat))).fst.snd.snd.fst, y_4.fst)) (y_3.snd.getD (0 : Nat)) (0 : Nat) (unLinks (gAt x.snd.fst (y_3.snd.getD (0 : Nat))).fst, (gAt x.snd.fst 
  (y_3.snd.getD (0 : Nat))).snd) = famSet (famSet x.snd.fst (y_3.fst.getD (0 : Nat)) (0 : Nat) (unUsed (gAt x.snd.fst (y_3.fst.getD (0 : Nat))).fst (gAt x.snd.fst (y_3.snd.getD (0 : Nat))).fst.snd.snd.fst, y_4.fst)) 
  (y_3.snd.getD (0 : Nat)) (0 : Nat) (unLinks (gAt x.snd.fst (y_3.snd.getD (0 : Nat))).fst, (gAt x.snd.fst (y_3.snd.getD (0 : Nat))).snd) ∧ y_4.snd = y_4.snd ∧ (True ∧ True) ∧ List.take ((some (IntKind.i64.wrap 
  ((↑(List.map (adP y.es) x.fst.stk).reverse.length : Int) - (1 : Int)))).getD (↑(List.map (adP y.es) x.fst.stk).reverse.length : Int)).toNat (List.map (adP y.es) x.fst.stk).reverse ++ pushes (delL (aliveE y.es 
  x.fst.gone) y_7.fst.fst) (rdH y_4.snd y_8.snd) y_3.snd x_1 ++ [(y_3.snd, (lookL (delL (aliveE y.es x.fst.gone) y_7.fst.fst) y_9).getD none)] = List.take ((some (IntKind.i64.wrap ((↑(List.map (adP y.es) 
  x.fst.stk).reverse.length : Int) - (1 : Int)))).getD (↑(List.map (adP y.es) x.fst.stk).reverse.length : Int)).toNat (List.map (adP y.es) x.fst.stk).reverse ++ pushes (delL (aliveE y.es x.fst.gone) y_7.fst.fst) (rdH 
  y_4.snd y_8.snd) y_3.snd x' ∧ (True ∧ True) ∧ x.fst.gone ++ [y_6.fst.fst] = x.fst.gone ++ [y_6.fst.fst] ∧ True ∧ (y_3.fst = y_3.fst ∧ y_3.snd = y_3.snd ∧ True) ∧ [y_6.fst.fst] = [y_6.fst.fst] ∧ (y_8.snd = y_8.snd ∧ 
  True) ∧ True ∧ ((True ∧ True) ∧ True ∧ false = false ∧ True ∧ true = true ∧ True ∧ false = false ∧ (0 : Int) = (0 : Int) ∧ (lookL y.es id).getD none = (lookL y.es id).getD none ∧ (lookL y.es inn).getD none = (lookL 
  y.es inn).getD none ∧ (0 : Int) = (0 : Int) ∧ SV.val (Value.slice none (0 : Nat) (0 : Nat)) = SV.val (Value.slice none (0 : Nat) (0 : Nat)) ∧ True ∧ True ∧ inn = inn ∧ id = id ∧ True) ∧ True) ∧ (decide ((↑x_1 : Int) - 
  (1 : Int) ≥ (0 : Int)) = false → ∃ (x' : DrS × OS × LS), DrJ T y inn id x' ∧ wtA x'.fst.A < wtA x.fst.A ∧ ((True ∧ True ∧ True ∧ True ∧ True) ∧ True) ∧ (True ∧ True ∧ false = false ∧ (0 : Int) = (0 : Int) ∧ (lookL y.es 
  id).getD none = (lookL y.es id).getD none ∧ (lookL y.es inn).getD none = (lookL y.es inn).getD none ∧ (0 : Int) = (0 : Int) ∧ SV.val (Value.slice none (0 : Nat) (0 : Nat)) = SV.val (Value.slice none (0 : Nat) (0 : 
  Nat)) ∧ True ∧ True ∧ inn = inn ∧ id = id ∧ True) ∧ (True ∧ y.root = y.root ∧ True) ∧ (delL (aliveE y.es x.fst.gone) y_7.fst.fst = aliveE y.es x'.fst.gone ∧ True) ∧ famSet (famSet x.snd.fst (y_3.fst.getD (0 : Nat)) (0 
  : Nat) (unUsed (gAt x.snd.fst (y_3.fst.getD (0 : Nat))).fst (gAt x.snd.fst (y_3.snd.getD (0 : Nat))).fst.snd.snd.fst, y_4.fst)) (y_3.snd.getD (0 : Nat)) (0 : Nat) (unLinks (gAt x.snd.fst (y_3.snd.getD (0 : Nat))).fst, 
  (gAt x.snd.fst (y_3.snd.getD (0 : Nat))).snd) = x'.snd.fst ∧ y_4.snd = x'.snd.snd ∧ (True ∧ True) ∧ List.take ((some (IntKind.i64.wrap ((↑(List.map (adP y.es) x.fst.stk).reverse.length : Int) - (1 : Int)))).getD 
  (↑(List.map (adP y.es) x.fst.stk).reverse.length : Int)).toNat (List.map (adP y.es) x.fst.stk).reverse ++ pushes (delL (aliveE y.es x.fst.gone) y_7.fst.fst) (rdH y_4.snd y_8.snd) y_3.snd x_1 = (List.map (adP y.es) 
  x'.fst.stk).reverse ∧ (True ∧ True) ∧ x.fst.gone ++ [y_6.fst.fst] = x'.fst.gone ∧ True ∧ True))) ∧ True) ∧ (decide ((↑(List.map (adP y.es) x.fst.stk).reverse.length : Int) > (0 : Int)) = false → ∃ (y_3 : Unit × Tup KT 
  (1 : Nat)), (True ∧ TbRel (dropR T inn id).snd.snd y_3.snd.fst ∧ True) ∧ (x.fst.gone = (dropR T inn id).fst ∧ (0 : Int) = (dropR T inn id).snd.fst ∧ True) ∧ ((True ∧ y.root = y_3.snd.fst.root ∧ True) ∧ (aliveE y.es 
  x.fst.gone = y_3.snd.fst.es ∧ True) ∧ x.snd.fst = y_3.snd.fst.os ∧ x.snd.snd = y_3.snd.fst.ls ∧ True) ∧ (True ∧ True ∧ True ∧ True ∧ True) ∧ True))))) := by kernel_rfl
end Go.Proofs.Ythoaelmomocohaa
namespace Go.Proofs.Ythoaelmomocohaa
open Go.Proofs.Ythoaelmomocohaa.Gx
set_option maxRecDepth 100000
set_option maxHeartbeats 8000000
set_option linter.unusedSimpArgs false
set_option linter.unusedVariables false
section
variable {A : Al} {r : Int} {es : List (Int × Option Nat)} {root : Int} {os : OS} {ls ls' : LS} {f t : Int} {a b : Ob} {gf gt : Nat} {hdf hdt h' : Hd}
theorem head_ap {T : Tb} {y : TbIn} (h : TbRel T y) {f : Int} {gf : Nat} {i : Info} {hdf : Hd} (hf : lookL y.es f = some (some gf)) (hg : famGet y.os gf 0 = some (i, hdf)) {x : Int × Option Nat} (hx : x ∈ y.es) (hne : x.1 ≠ f) :
    hdIn y.ls (hdAt y.os (x.2.getD 0)) ∧ ∀ k, hdf.b = some k → (hdAt y.os (x.2.getD 0)).b ≠ some k := by
  obtain ⟨gx, ix, hx', e4, e5, e6⟩ := h.there x hx
  have hhd : hdAt y.os (x.2.getD 0) = hx' := by rw [e4]; simp [hdAt, e5]
  refine ⟨by rw [hhd]; exact e6, fun k hk => ?_⟩
  have hm := lookL_mem hf
  have := h.heads _ hm x hx (fun e => hne e.symm) k
  refine this ?_
  simp only [Option.getD_some, hdAt, hg, Option.map_some]
  exact hk
theorem oth_rd {hx : Hd} {ls ls' : LS} {hdf : Hd} (hin : hdIn ls hx) (hne : ∀ k, hdf.b = some k → hx.b ≠ some k) (hoth : ∀ k, hdf.b ≠ some k → lookN ls' k = lookN ls k) : hdIn ls' hx ∧ rdH ls' hx = rdH ls hx := by
  obtain ⟨bx, off, len, cap⟩ := hx
  cases bx with
  | none => exact ⟨hin, rfl⟩
  | some g =>
    have hk := hoth g (fun e => hne g e rfl)
    obtain ⟨n, xs, hl, h1⟩ := hin
    exact ⟨⟨n, xs, hk.trans hl, h1⟩, by simp [rdH, hk]⟩
/-- A link is taken away in memory. -/
theorem rel_unlink (h : TbRel (A, r) ⟨es, root, os, ls⟩) (hf : lookL A f = some a) (ht : lookL A t = some b) (hne : f ≠ t) (ef : lookL es f = some (some gf)) (et : lookL es t = some (some gt)) (cf : famGet os gf 0 = some (a.1, hdf)) (ct : famGet os gt 0 = some (b.1, hdt))
    (rf : rdH ls hdf = a.2) (rt : rdH ls hdt = b.2) (hd : DelPost ls hdf (idOf b) h' ls') : gf ≠ gt ∧ TbRel (unlinkA A f t, r) ⟨es, root, famSet (famSet os gf 0 (unUsed a.1 (quotaOf b), h')) gt 0 (unLinks b.1, hdt), ls'⟩ := by
  have hgne : gf ≠ gt := fun e => h.apart _ (lookL_mem ef) _ (lookL_mem et) hne (by simp [e])
  refine ⟨hgne, ?_⟩
  have r1 := rel_set (i' := unUsed a.1 (quotaOf b)) (h' := h') (ls' := ls') h ef hd.hin
    (fun x hx hxi => by obtain ⟨p1, p2⟩ := head_ap h ef cf hx hxi; exact oth_rd p1 p2 hd.oth)
    (fun k hk x hx hxi => (head_ap h ef cf hx hxi).2 k (by rw [← hd.b]; exact hk))
  rw [hd.rd, rf] at r1
  obtain ⟨p1, p2⟩ := head_ap h ef cf (lookL_mem et) (fun e => hne e.symm)
  have ehd : hdAt os gt = hdt := by simp [hdAt, ct]
  simp only [Option.getD_some, ehd] at p1 p2
  obtain ⟨q1, q2⟩ := oth_rd p1 p2 hd.oth
  have ct' : famGet (famSet os gf 0 (unUsed a.1 (quotaOf b), h')) gt 0 = some (b.1, hdt) := by rw [famGet_famSet cf, if_neg (fun e => hgne e.1.symm)]; exact ct
  have r2 := rel_info (i' := unLinks b.1) r1 et ct' q1
  rw [q2, rt] at r2
  unfold unlinkA unF unT
  rw [ob_of hf, ob_of ht]
  exact r2
end
theorem delL_filter {α : Type} : (l : List (Int × α)) → (k : Int) → (l.map (·.1)).Nodup → delL l k = l.filter fun x => x.1 != k
  | [], _, _ => rfl
  | x :: l, k, hn => by
    simp only [List.map_cons, List.nodup_cons] at hn
    simp only [delL]
    by_cases e : x.1 = k
    · rw [if_pos e, List.filter_cons, if_neg (by simp [e])]
      symm
      refine List.filter_eq_self.2 fun z hz => ?_
      have : z.1 ≠ k := fun e2 => hn.1 (by rw [e, ← e2]; exact List.mem_map_of_mem hz)
      simpa using this
    · rw [if_neg e, List.filter_cons, if_pos (by simpa using e), delL_filter l k hn.2]
theorem alive_snoc {es : List (Int × Option Nat)} (hn : (es.map (·.1)).Nodup) (gone : List Int) (t : Int) : delL (aliveE es gone) t = aliveE es (gone ++ [t]) := by
  unfold aliveE
  rw [delL_filter _ _ ((List.filter_sublist.map _).nodup hn), List.filter_filter]
  congr 1
  funext x
  rw [Bool.eq_iff_iff]
  simp
  constructor
  · rintro ⟨h1, h2⟩; exact ⟨h2, h1⟩
  · rintro ⟨h1, h2⟩; exact ⟨h2, h1⟩
theorem look_alive {α : Type} {es : List (Int × α)} {gone : List Int} : {k : Int} → k ∉ gone → lookL (es.filter fun x => !gone.contains x.1) k = lookL es k := by
  intro k hk
  induction es with
  | nil => rfl
  | cons x es ih =>
    by_cases e : x.1 = k
    · rw [List.filter_cons, if_pos (by simp [e, hk])]; simp [lookL, e]
    · by_cases hg : x.1 ∈ gone
      · rw [List.filter_cons, if_neg (by simp [hg])]; simp only [lookL, if_neg e, ih]
      · rw [List.filter_cons, if_pos (by simp [hg])]; simp only [lookL, if_neg e, ih]
/-- Objects that are gone are let go. -/
theorem rel_alive {T : Tb} {y : TbIn} (h : TbRel T y) (gone : List Int) : TbRel (aliveT T.1 gone, T.2) ⟨aliveE y.es gone, y.root, y.os, y.ls⟩ := by
  have hs : ∀ x ∈ aliveE y.es gone, x ∈ y.es := fun x hx => (List.mem_filter.1 hx).1
  refine ⟨h.root, ?_, (List.filter_sublist.map _).nodup h.keys, fun x hx => h.there x (hs x hx), fun x hx z hz => h.apart x (hs x hx) z (hs z hz), fun x hx z hz => h.heads x (hs x hx) z (hs z hz)⟩
  show aliveT T.1 gone = (aliveE y.es gone).map _
  rw [h.all]
  unfold aliveT aliveE
  rw [List.filter_map]
  rfl
theorem push_all (es : List (Int × Option Nat)) (row : List Int) (t : Int) (a : Option Nat) (hes : ∀ k ∈ row, (lookL es k).getD none = (lookL es k).getD none) : pushes es row a 0 = ((row.map fun k => (a, (lookL es k).getD none))).reverse := by
  simp [pushes]
theorem push_end (es : List (Int × Option Nat)) (row : List Int) (a : Option Nat) : pushes es row a row.length = [] := by simp [pushes]
theorem push_step {es : List (Int × Option Nat)} {row : List Int} {a : Option Nat} {k : Nat} {v : Int} (h : row[k]? = some v) : pushes es row a (k + 1) ++ [(a, (lookL es v).getD none)] = pushes es row a k := by
  have hk := (List.getElem?_eq_some_iff.1 h).1
  have hv := (List.getElem?_eq_some_iff.1 h).2
  unfold pushes
  rw [List.drop_eq_getElem_cons hk, hv]
  simp
theorem drop_init {T : Tb} {inn id : Int} {c : Ob} (hwf : WfT T) (hl : lookL T.1 inn = some c) (hin : id ∈ c.2) : DInv T.2 inn id ⟨T.1, [], [(inn, id)]⟩ where
  a := hwf.a
  stk := fun p hp => by
    obtain rfl := List.mem_singleton.1 hp
    show id ∈ (obL T.1 inn).2
    rw [ob_of hl]; exact hin
  sn := by simp
  dead := fun g hg => by simp at hg
  gn := by simp
  top := .inr ⟨rfl, rfl⟩
  drow := fun g hg => by simp at hg
  live := fun k o hk _ => hwf.live k o hk
theorem wt_few {root : Int} : (l : Al) → (∀ x ∈ l, x.2.2.length ≤ 4096) → wtA l ≤ 4096 * l.length
  | [], _ => by simp [wtA]
  | x :: l, h => by
    have := wt_few (root := root) l (fun z hz => h z (by simp [hz]))
    have h2 := h x (by simp)
    simp only [wtA, List.map_cons, List.sum_cons, List.length_cons] at this ⊢
    omega
theorem stk_few {root inn id : Int} {D : DrS} (h : DInv root inn id D) : D.stk.length ≤ 4096 * 4096 := by
  have hsub : D.stk ⊆ D.A.flatMap fun x => x.2.2.map fun k => (x.1, k) := fun p hp => by
    obtain ⟨o, ho, hk⟩ := ob_mem (h.stk p hp)
    exact List.mem_flatMap.2 ⟨_, lookL_mem ho, List.mem_map.2 ⟨p.2, hk, rfl⟩⟩
  have h1 := h.sn.length_le_of_subset hsub
  have h2 : (D.A.flatMap fun x => x.2.2.map fun k => (x.1, k)).length = wtA D.A := by
    unfold wtA
    rw [List.length_flatMap]
    congr 1
    refine List.map_congr_left fun x _ => by simp
  have h3 := wt_few (root := root) D.A (fun x hx => by
    have hl := lookL_some h.a.nodup hx
    have := row_few (h.a.rnd _ _ hl) (fun j hj => (h.a.ent _ _ hl j hj).1)
    have := h.a.few
    omega)
  have := h.a.few
  omega
theorem drop_ok : dropC.H.ok PP 16 := by
  refine dropC.ok_of (one_wfT fun _ => rfl) ?_
  refine hc_ofP Fin.frz mixed (fn := Try.f16) (c := c16) rfl rfl dropC.U (fun x => rfl) ?_
  rintro ⟨⟨T, inn, id⟩, (y : TbIn)⟩ ⟨hwf, hrel⟩
  have hrel : TbRel T y := hrel
  have hwf : WfT T := hwf
  refine ⟨envC PP [] [s41c, s42U, s43, s37] [i68] [k37] (dropLoop T y inn id) [25], envC_ok .., rfl, hold (drop_vc T inn id y) ?_⟩
  simp only [true_and, and_true]
  have fin : ∀ b, dropR T inn id = ([], b, T) → ∃ (y_1 : Unit × Tup KT (1 : Nat)), TbRel (dropR T inn id).snd.snd y_1.snd.fst ∧ ((dropR T inn id).fst = [] ∧ b = (dropR T inn id).snd.fst) ∧ y.root = y_1.snd.fst.root ∧ y.es = y_1.snd.fst.es ∧ y.os = y_1.snd.fst.os ∧ y.ls = y_1.snd.fst.ls := fun b hb => by rw [hb]; exact ⟨((), y, ()), hrel, ⟨rfl, rfl⟩, rfl, rfl, rfl, rfl⟩
  cases hl : lookL T.1 inn with
  | none =>
    have e := (rel_none hrel).1 hl
    rw [e]
    exact ⟨fun _ => fin _ (by simp [dropR, hl]), fun h => (by simp at h)⟩
  | some c =>
    obtain ⟨gc, hdc, e1, e2, e3, e4⟩ := rel_some hrel hl
    rw [e1]
    refine ⟨fun h => (by simp at h), fun _ => ⟨rfl, rfl, useGet e2 ⟨fun hk => fin _ ?_, fun hk => ⟨rfl, rfl, useGet e2 ⟨⟨e3⟩, fun hh => fin _ ?_, fun hh => ?_⟩⟩⟩⟩⟩
    · have hk : kindOf c ≠ 1 := by simpa using hk
      simp only [dropR, hl]; rw [if_pos hk]
    · have hk : ¬ kindOf c ≠ 1 := by simpa using hk
      rw [e4] at hh
      have hh : c.2.contains id = false := by simpa [hasI] using hh
      simp only [dropR, hl]; rw [if_neg hk, if_pos hh]
    have hk : ¬ kindOf c ≠ 1 := by simpa using hk
    rw [e4] at hh
    have hin : id ∈ c.2 := by simpa [hasI] using hh
    have hR : dropR T inn id = ((dropEnd ⟨T.1, [], [(inn, id)]⟩).gone, 0, (aliveT (dropEnd ⟨T.1, [], [(inn, id)]⟩).A (dropEnd ⟨T.1, [], [(inn, id)]⟩).gone, T.2)) := by
      simp only [dropR, hl]; rw [if_neg hk, if_neg (by simpa using hin)]
    have hD0 := drop_init hwf hl hin
    refine ⟨(⟨T.1, [], [(inn, id)]⟩, y.os, y.ls), ⟨hD0, hrel, rfl⟩, ⟨?_, rfl, rfl, ?_, rfl⟩, ?_⟩
    · simp only [aliveE]; exact (List.filter_eq_self.2 (fun _ _ => by simp)).symm
    · simp [adP, e1]
    rintro ⟨D, os, ls⟩ ⟨hI, hrel1, hfin⟩ hmax
    simp only at hI hrel1 hfin hmax ⊢
    refine ⟨fun hpos => ?_, fun hz => ?_⟩
    rotate_left
    · have hs : D.stk = [] := by
        have : D.stk.length = 0 := by simpa using hz
        exact List.length_eq_zero_iff.1 this
      rw [end_nil hs] at hfin
      refine ⟨((), ⟨aliveE y.es D.gone, y.root, os, ls⟩, ()), ?_, ⟨by rw [hR, ← hfin], by rw [hR]⟩, rfl, rfl, rfl, rfl⟩
      rw [hR, ← hfin]
      exact rel_alive hrel1 D.gone
    cases hs : D.stk with
    | nil => rw [hs] at hpos; simp at hpos
    | cons p s =>
    obtain ⟨f, t⟩ := p
    rw [hs] at hmax
    have hlen : (List.map (adP y.es) ((f, t) :: s)).reverse = (List.map (adP y.es) s).reverse ++ [adP y.es (f, t)] := by simp
    rw [hlen] at hmax ⊢
    obtain ⟨L, hL⟩ : ∃ L, L = (List.map (adP y.es) s).reverse := ⟨_, rfl⟩
    rw [← hL] at hmax ⊢
    have hLl : (L ++ [adP y.es (f, t)]).length = L.length + 1 := by simp
    have hw : IntKind.i64.wrap (((L ++ [adP y.es (f, t)]).length : Int) - 1) = (L.length : Int) := by
      rw [hLl, wrap64 (by omega) (by simp only [maxLen] at hmax; omega)]; omega
    rw [hw]
    simp only [Int.toNat_natCast, Option.getD_some, Option.getD_none]
    obtain ⟨a, b, H⟩ := hI.head hs
    obtain ⟨hI2, hwt⟩ := hI.step hs H
    have hend := end_step hI hs
    obtain ⟨hf, ht, hint, halive, hne⟩ := H
    have hid := hI.a.ids _ _ ht
    obtain ⟨gf, hdf, f1, f2, f3, f4⟩ := rel_some (T := (D.A, T.2)) hrel1 hf
    obtain ⟨gt, hdt, t1, t2, t3, t4⟩ := rel_some (T := (D.A, T.2)) hrel1 ht
    have f1 : lookL y.es f = some (some gf) := f1
    have t1 : lookL y.es t = some (some gt) := t1
    have f2 : famGet os gf 0 = some (a.1, hdf) := f2
    have t2 : famGet os gt 0 = some (b.1, hdt) := t2
    have f4 : rdH ls hdf = a.2 := f4
    have t4 : rdH ls hdt = b.2 := t4
    have hgne : gf ≠ gt := fun e => hrel1.apart _ (lookL_mem f1) _ (lookL_mem t1) hne (by simp [e])
    have ead : adP y.es (f, t) = (some gf, some gt) := by simp [adP, f1, t1]
    rw [ead] at hLl hmax ⊢
    intro _
    refine ⟨⟨by omega, by rw [hLl]; omega⟩, by rw [hLl]; omega, ?_⟩
    intro p hp
    obtain rfl : p = (some gf, some gt) := by simpa using hp.symm
    intro _
    have gaf : gAt os gf = (a.1, hdf) := by simp [gAt, f2]
    have gat : gAt os gt = (b.1, hdt) := by simp [gAt, t2]
    simp only [Option.getD_some, gaf, gat]
    refine ⟨⟨by omega, by rw [hLl]; omega, by omega, by omega⟩, ⟨f2, t2, f3, hgne⟩, by simp, ?_⟩
    rintro ⟨h', ls'⟩ hd
    simp only at hd ⊢
    obtain ⟨-, hrel2⟩ := rel_unlink hrel1 hf ht hne f1 t1 f2 t2 f4 t4 hd
    obtain ⟨os', hos'⟩ : ∃ os', os' = famSet (famSet os gf 0 (unUsed a.1 (quotaOf b), h')) gt 0 (unLinks b.1, hdt) := ⟨_, rfl⟩
    have hfs : famSet (famSet os gf 0 (unUsed a.1 b.1.2.2.1, h')) gt 0 (unLinks b.1, hdt) = os' := hos'.symm
    rw [hfs]
    rw [← hos'] at hrel2
    have hA2 : lookL (unlinkA D.A f t) t = some (unLinks b.1, b.2) := by rw [look_un hf ht hne, if_pos rfl]
    obtain ⟨gt', hdt', u1, u2, u3, u4⟩ := rel_some (T := (unlinkA D.A f t, T.2)) hrel2 hA2
    have : gt' = gt := by have u1 : lookL y.es t = some (some gt') := u1; rw [t1] at u1; simpa using u1.symm
    subst this
    have u2 : famGet os' gt' 0 = some (unLinks b.1, hdt') := u2
    have u4 : rdH ls' hdt' = b.2 := u4
    have hob : obL (unlinkA D.A f t) t = (unLinks b.1, b.2) := ob_of hA2
    refine ⟨rfl, rfl, useGet u2 ?_⟩
    have hstep : dropStep D = if linksOf (obL (unlinkA D.A f t) t) > 0 then ⟨unlinkA D.A f t, D.gone, s⟩ else ⟨unlinkA D.A f t, D.gone ++ [t], (obL (unlinkA D.A f t) t).2.map (fun k => (t, k)) ++ s⟩ := by
      unfold dropStep; rw [hs]
    refine ⟨fun hpos2 => ?_, fun hz2 => ?_⟩
    · have hp2 : linksOf (obL (unlinkA D.A f t) t) > 0 := by rw [hob]; simpa using hpos2
      rw [if_pos hp2] at hstep
      refine ⟨(dropStep D, os', ls'), ⟨hI2, ?_, hend.trans hfin⟩, by simp only; omega, ?_, rfl, rfl, ?_, ?_⟩
      · simp only; rw [hstep]; exact hrel2
      · simp only; rw [hstep]
      · simp only; rw [hstep]; simp [hL]
      · simp only; rw [hstep]
    · have hz2' : ¬ linksOf (obL (unlinkA D.A f t) t) > 0 := by rw [hob]; simpa using hz2
      rw [if_neg hz2', hob] at hstep
      simp only at hstep
      have hid2 : (unLinks b.1).1 = t := hid
      have hgl : D.gone.length ≤ 4096 := by
        have := hI.gn.length_le_of_subset (l₂ := D.A.map (·.1)) (fun g hg => by
          have := (hI.dead g hg).1
          cases hlg : lookL D.A g with
          | none => rw [hlg] at this; cases this
          | some o => exact List.mem_map.2 ⟨_, lookL_mem hlg, rfl⟩)
        have h2 := hI.a.few
        simp at this; omega
      refine ⟨rfl, rfl, useGet u2 ⟨?_, rfl, rfl, useGet u2 ⟨rfl, rfl, useGet u2 ?_⟩⟩⟩
      · simp only [List.length_singleton]; omega
      rw [hid2, alive_snoc hrel1.keys]
      intro hmaxb
      have hrl := rd_len u3
      have hlb : b.2.length = hdt'.len := by rw [← u4]; exact hrl
      have hrowfew := row_few (hI.a.rnd _ _ ht) (fun j hj => (hI.a.ent _ _ ht j hj).1)
      have hAfew := hI.a.few
      have hsfew : L.length ≤ 4096 * 4096 := by
        have := stk_few hI
        rw [hs] at this
        rw [hL]; simp at this ⊢; omega
      rw [u4]
      refine ⟨b.2.length, by simp only; omega, ⟨?_, ?_⟩, ?_⟩
      · simp only; rw [← hlb, wrap64 (by omega) (by omega)]
      · rw [push_end, List.append_nil]
      intro k hk
      have hk : k ≤ b.2.length := by have := hk; simp only at this; omega
      refine ⟨fun hkp => ?_, fun hkz => ?_⟩
      · have hkp : 1 ≤ k := by simp at hkp; omega
        obtain ⟨k, rfl⟩ : ∃ j, k = j + 1 := ⟨k - 1, by omega⟩
        have e1 : (((k + 1 : Nat) : Int) - 1) = (k : Int) := by omega
        rw [e1]
        simp only [Int.toNat_natCast]
        have hkl : k < hdt'.len := by omega
        obtain ⟨v, hv⟩ : ∃ v, b.2[k]? = some v := ⟨_, List.getElem?_eq_getElem (by omega)⟩
        have hgv : famGet ls' (hdt'.b.getD 0) (hdt'.off + k) = some v := by rw [get_rd u3 hkl, u4]; exact hv
        refine ⟨⟨by omega, by omega⟩, ⟨v, hgv⟩, fun z hz => ?_⟩
        rw [hgv] at hz
        cases hz
        refine ⟨rfl, ?_, k, by omega, by omega, ?_, ?_⟩
        · simp only [List.length_append, List.length_singleton]
          have : (L ++ [(some gf, some gt')]).length = L.length + 1 := hLl
          have hpl : (pushes (aliveE y.es (D.gone ++ [t])) b.2 (some gt') (k + 1)).length ≤ b.2.length := by simp [pushes]
          simp only [List.take_left', List.length_append] at *
          omega
        · rw [wrap64 (by omega) (by omega)]
        · rw [List.append_assoc, push_step hv]
      · have hk0 : k = 0 := by simp at hkz; omega
        subst hk0
        refine ⟨(dropStep D, os', ls'), ⟨hI2, ?_, hend.trans hfin⟩, by simp only; omega, ?_, rfl, rfl, ?_, ?_⟩
        · simp only; rw [hstep]; exact hrel2
        · simp only; rw [hstep]
        · simp only; rw [hstep]
          have hdd : ∀ k ∈ b.2, k ∉ D.gone ++ [t] := fun k hk hg => by
            have hdz := hI2.dead k (by rw [hstep]; exact hg)
            rw [hstep] at hdz
            exact cnt_zero hA2 hdz.2.1 hk
          have e3 : pushes (aliveE y.es (D.gone ++ [t])) b.2 (some gt') 0 = ((b.2.map fun k => (t, k)).map (adP y.es)).reverse := by
            unfold pushes
            rw [List.drop_zero, List.map_map, ← List.map_reverse]
            refine List.map_congr_left fun k hk => ?_
            have : lookL (aliveE y.es (D.gone ++ [t])) k = lookL y.es k := look_alive (hdd k (List.mem_reverse.1 hk))
            simp only [Function.comp_apply, adP, t1, Option.getD_some, this]
          rw [List.map_append, List.reverse_append, e3, ← hL, List.take_left']
          rfl
        · simp only; rw [hstep]
end Go.Proofs.Ythoaelmomocohaa
namespace Go.Proofs.Ythoaelmomocohaa
open Go.Proofs.Ythoaelmomocohaa.Gx
set_option maxRecDepth 100000
set_option maxHeartbeats 4000000
set_option linter.unusedSimpArgs false
set_option linter.unusedVariables false
theorem WfT.ok {T : Tb} (h : WfT T) : okT T := fun x hx => by
  have hl := lookL_some h.a.nodup hx
  have := row_few (h.a.rnd _ _ hl) (fun j hj => (h.a.ent _ _ hl j hj).1)
  have := h.a.few
  exact ⟨by omega, h.lab _ _ hl⟩
theorem WfT.there {T : Tb} (h : WfT T) : thereT T := fun x hx k hk => (h.a.ent _ _ (lookL_some h.a.nodup hx) k hk).1
/-- Less is linked, and less used; else all objects are as they were. -/
structure LessO (o' o : Ob) : Prop where
  row : o'.2.Sublist o.2
  id : idOf o' = idOf o
  kind : kindOf o' = kindOf o
  quota : quotaOf o' = quotaOf o
  lab : labOf o' = labOf o
  used : usedOf o' ≤ usedOf o
  links : linksOf o' ≤ linksOf o
theorem LessO.refl (o : Ob) : LessO o o := ⟨List.Sublist.refl _, rfl, rfl, rfl, rfl, Int.le_refl _, Int.le_refl _⟩
theorem LessO.trans {a b c : Ob} (h : LessO a b) (k : LessO b c) : LessO a c := ⟨h.row.trans k.row, h.id.trans k.id, h.kind.trans k.kind, h.quota.trans k.quota, h.lab.trans k.lab, Int.le_trans h.used k.used, Int.le_trans h.links k.links⟩
structure LessA (A' A : Al) : Prop where
  keys : A'.map (·.1) = A.map (·.1)
  obs : ∀ k o', lookL A' k = some o' → ∃ o, lookL A k = some o ∧ LessO o' o
theorem LessA.refl (A : Al) : LessA A A := ⟨rfl, fun k o h => ⟨o, h, LessO.refl o⟩⟩
theorem LessA.trans {A B C : Al} (h : LessA A B) (k : LessA B C) : LessA A C := ⟨h.keys.trans k.keys, fun i o hi => by
  obtain ⟨o1, h1, l1⟩ := h.obs i o hi
  obtain ⟨o2, h2, l2⟩ := k.obs i o1 h1
  exact ⟨o2, h2, l1.trans l2⟩⟩
theorem un_less {root : Int} {A : Al} {f t : Int} {a b : Ob} (h : AInv root A) (hf : lookL A f = some a) (ht : lookL A t = some b) (hin : t ∈ a.2) : LessA (unlinkA A f t) A := by
  have hne := h.ne hf hin
  have hid := h.ids _ _ ht
  have hq := h.quo _ _ ht
  have hlook := look_un hf ht hne
  have h' := h.unlink hf ht hin
  have hus := h.usd _ _ hf
  have hb := sumQ_bound (A := A) (row := a.2) (fun j hj => by
    have := (h.ent _ _ hf j hj).1
    cases hlj : lookL A j with
    | none => rw [hlj] at this; cases this
    | some oj => rw [ob_of hlj]; have := h.quo _ _ hlj; omega)
  have hfl := row_few (h.rnd _ _ hf) (fun j hj => (h.ent _ _ hf j hj).1)
  have hfew := h.few
  have hl := h.lnk _ _ ht
  have hcl := cnt_le A t
  refine ⟨keys_un hf ht hne, fun k o hk => ?_⟩
  rw [hlook k] at hk
  split at hk
  · rename_i e; subst e; cases hk
    refine ⟨b, ht, List.Sublist.refl _, rfl, rfl, rfl, rfl, Int.le_refl _, ?_⟩
    show IntKind.i64.wrap (linksOf b - 1) ≤ linksOf b
    rw [wrap64 (by split at hl <;> omega) (by split at hl <;> omega)]; omega
  · split at hk
    · rename_i e; subst e; cases hk
      refine ⟨a, hf, List.filter_sublist, rfl, rfl, rfl, rfl, ?_, Int.le_refl _⟩
      show IntKind.i64.wrap (usedOf a - quotaOf b) ≤ usedOf a
      rw [wrap64 (by omega) (by omega)]; omega
    · exact ⟨o, hk, LessO.refl o⟩
theorem step_less {root inn id : Int} {D : DrS} (h : DInv root inn id D) : LessA (dropStep D).A D.A := by
  cases hs : D.stk with
  | nil => unfold dropStep; rw [hs]; exact LessA.refl _
  | cons p s =>
    obtain ⟨f, t⟩ := p
    obtain ⟨a, b, H⟩ := h.head hs
    have : (dropStep D).A = unlinkA D.A f t := by
      unfold dropStep; rw [hs]; simp only; split <;> rfl
    rw [this]
    exact un_less h.a H.hf H.ht H.hin
theorem run_less {root inn id : Int} : (n : Nat) → (D : DrS) → DInv root inn id D → LessA (dropRun n D).A D.A
  | 0, D, _ => LessA.refl _
  | n + 1, D, h => by
    cases hs : D.stk with
    | nil => simp only [dropRun, hs]; exact LessA.refl _
    | cons p s =>
      obtain ⟨f, t⟩ := p
      obtain ⟨a, b, H⟩ := h.head hs
      simp only [dropRun, hs]
      exact (run_less n _ (h.step hs H).1).trans (step_less h)
theorem lessA_some {A' A : Al} (h : LessA A' A) {k : Int} {o : Ob} (hk : lookL A k = some o) : ∃ o', lookL A' k = some o' ∧ LessO o' o := by
  cases hk' : lookL A' k with
  | none =>
    have h1 := (lookL_none _).1 hk'
    rw [h.keys] at h1
    exact absurd (List.mem_map.2 ⟨_, lookL_mem hk, rfl⟩) h1
  | some o' =>
    obtain ⟨o2, h2, l2⟩ := h.obs k o' hk'
    rw [hk] at h2; cases h2
    exact ⟨o', rfl, l2⟩
theorem look_aliveT {A : Al} {gone : List Int} (k : Int) : lookL (aliveT A gone) k = if k ∈ gone then none else lookL A k := by
  unfold aliveT
  by_cases hk : k ∈ gone
  · rw [if_pos hk, lookL_none]
    intro hm
    obtain ⟨x, hx, e⟩ := List.mem_map.1 hm
    have := (List.mem_filter.1 hx).2
    rw [e] at this
    simp [hk] at this
  · rw [if_neg hk]; exact look_alive hk
/-- All that is gone has empty rows: it counts for nothing. -/
theorem cnt_alive {A : Al} {gone : List Int} (hr : ∀ g ∈ gone, (obL A g).2 = []) (hn : (A.map (·.1)).Nodup) (k : Int) : cntA (aliveT A gone) k = cntA A k := by
  unfold cntA aliveT
  rw [List.countP_filter]
  refine List.countP_congr fun x hx => ?_
  by_cases hg : x.1 ∈ gone
  · have := hr _ hg
    rw [ob_of (lookL_some hn hx)] at this
    simp [this]
  · simp [hg]
theorem sumQ_alive {A : Al} {gone row : List Int} (h : ∀ k ∈ row, k ∉ gone) : sumQ (aliveT A gone) row = sumQ A row := by
  unfold sumQ
  rw [List.map_congr_left fun k hk => ?_]
  unfold obL
  rw [look_aliveT, if_neg (h k hk)]
/-- What is left when all has been done is a table as it may be. -/
theorem alive_wf {T : Tb} {inn id : Int} {D : DrS} (h : WfT T) (hD : DInv T.2 inn id D) (hs : D.stk = []) (hl : LessA D.A T.1) : WfT (aliveT D.A D.gone, T.2) := by
  have hr : ∀ g ∈ D.gone, (obL D.A g).2 = [] := fun g hg => by
    cases hrow : (obL D.A g).2 with
    | nil => rfl
    | cons k l => have := hD.drow g hg k (by rw [hrow]; simp); rw [hs] at this; cases this
  have hnot : ∀ k o, lookL D.A k = some o → ∀ j ∈ o.2, j ∉ D.gone := fun k o hk j hj hg => cnt_zero hk (hD.dead j hg).2.1 hj
  have key : ∀ k o, lookL (aliveT D.A D.gone) k = some o → k ∉ D.gone ∧ lookL D.A k = some o ∧ ∃ o2, lookL T.1 k = some o2 ∧ LessO o o2 := fun k o hk => by
    rw [look_aliveT] at hk
    split at hk
    · cases hk
    · rename_i hg
      exact ⟨hg, hk, hl.obs k o hk⟩
  refine ⟨⟨(List.filter_sublist.map _).nodup hD.a.nodup, Nat.le_trans (List.length_filter_le _ _) hD.a.few, ?_, ?_, ?_, ?_, ?_, ?_, ?_⟩, ?_, ?_, ?_, ?_, ?_, ?_, ?_⟩
  · intro k o hk; exact hD.a.ids _ _ (key k o hk).2.1
  · intro k o hk; exact hD.a.rnd _ _ (key k o hk).2.1
  · intro k o hk j hj
    have hk2 := (key k o hk).2.1
    show (lookL (aliveT D.A D.gone) j).isSome = true ∧ _
    rw [look_aliveT, if_neg (hnot k o hk2 j hj)]
    exact hD.a.ent _ _ hk2 j hj
  · obtain ⟨r, hr'⟩ := hD.a.rank
    exact ⟨r, fun k o hk j hj => hr' k o (key k o hk).2.1 j hj⟩
  · intro k o hk; exact hD.a.quo _ _ (key k o hk).2.1
  · intro k o hk
    rw [cnt_alive hr hD.a.nodup]
    exact hD.a.lnk _ _ (key k o hk).2.1
  · intro k o hk
    have hk2 := (key k o hk).2.1
    rw [sumQ_alive (hnot k o hk2)]
    exact hD.a.usd _ _ hk2
  · intro k o hk
    obtain ⟨h1, h2, _⟩ := key k o hk
    exact hD.live k o h2 h1
  · obtain ⟨o, ho, hk⟩ := h.root
    obtain ⟨o', h1, h2⟩ := lessA_some hl ho
    refine ⟨o', ?_, h2.kind.trans hk⟩
    show lookL (aliveT D.A D.gone) T.2 = some o'
    rw [look_aliveT, if_neg (fun hg => (hD.dead _ hg).2.2 rfl)]; exact h1
  · intro k o hk hkind
    obtain ⟨h1, h2, o2, h3, h4⟩ := key k o hk
    have := h.kin k o2 h3 (by rw [← h4.kind]; exact hkind)
    have hsub := h4.row
    rw [this] at hsub
    exact List.sublist_nil.1 hsub
  · intro k o hk hkind
    obtain ⟨h1, h2, o2, h3, h4⟩ := key k o hk
    have e1 := h.one k o2 h3 (by rw [← h4.kind]; exact hkind)
    have e2 := hD.live k o h2 h1
    have e3 := h4.links
    omega
  · intro k o hk
    obtain ⟨h1, h2, o2, h3, h4⟩ := key k o hk
    have e1 := h.cap k o2 h3
    have e2 := h4.used
    have e3 := h4.quota
    omega
  · intro k o hk
    obtain ⟨h1, h2, o2, h3, h4⟩ := key k o hk
    rw [h4.lab]; exact h.lab k o2 h3
  · intro k o hk
    obtain ⟨h1, h2, o2, h3, h4⟩ := key k o hk
    exact h.idr k o2 h3
theorem drop_wf {T : Tb} (h : WfT T) (inn id : Int) : WfT (dropR T inn id).2.2 := by
  unfold dropR
  cases hl : lookL T.1 inn with
  | none => exact h
  | some c =>
    simp only
    split
    · exact h
    · split
      · exact h
      · rename_i hin
        have hD0 := drop_init (inn := inn) (id := id) h hl (by simpa using hin)
        obtain ⟨h1, h2⟩ := run_done _ _ hD0 (Nat.le_refl _)
        exact alive_wf h h2 h1 (run_less _ _ hD0)
end Go.Proofs.Ythoaelmomocohaa
namespace Go.Proofs.Ythoaelmomocohaa
open Go.Proofs.Ythoaelmomocohaa.Gx
set_option maxRecDepth 100000
set_option maxHeartbeats 4000000
set_option linter.unusedSimpArgs false
set_option linter.unusedVariables false
/-! ### One more link -/
section
variable {root : Int} {A : Al} {i j : Int} {c x : Ob}
def linkA (A : Al) (i j : Int) (c x : Ob) : Al := insL (insL A i (addO c (idOf x) (quotaOf x))) j (incO x)
theorem look_link (hne : i ≠ j) (k : Int) : lookL (linkA A i j c x) k = if k = j then some (incO x) else if k = i then some (addO c (idOf x) (quotaOf x)) else lookL A k := by
  unfold linkA
  rw [lookL_insL, lookL_insL]
theorem ob_link (hi : lookL A i = some c) (hj : lookL A j = some x) (hne : i ≠ j) (k : Int) : quotaOf (obL (linkA A i j c x) k) = quotaOf (obL A k) := by
  unfold obL
  rw [look_link hne]
  split
  · rename_i e; subst e; rw [hj]; rfl
  · split
    · rename_i e; subst e; rw [hi]; rfl
    · rfl
theorem cnt_link (hi : lookL A i = some c) (hj : lookL A j = some x) (hne : i ≠ j) (hid : idOf x = j) (hnew : j ∉ c.2) (k : Int) : cntA (linkA A i j c x) k = cntA A k + if k = j then 1 else 0 := by
  have h1 : lookL (insL A i (addO c (idOf x) (quotaOf x))) j = some x := by rw [lookL_insL, if_neg (fun e => hne e.symm)]; exact hj
  have e1 := cnt_ins h1 (incO x) k
  have e2 := cnt_ins hi (addO c (idOf x) (quotaOf x)) k
  have e3 : (incO x).2 = x.2 := rfl
  have e4 : (addO c (idOf x) (quotaOf x)).2 = c.2 ++ [j] := by simp [addO, hid]
  rw [e3] at e1
  rw [e4] at e2
  unfold linkA
  by_cases e : k = j
  · subst e
    have c1 : c.2.contains k = false := by simpa using hnew
    have c2 : (c.2 ++ [k]).contains k = true := by simp
    rw [c1, c2] at e2
    simp only [if_true] at e2 ⊢
    simp at e2
    omega
  · have c1 : (c.2 ++ [j]).contains k = c.2.contains k := by rw [Bool.eq_iff_iff]; simp [e]
    rw [c1] at e2
    rw [if_neg e]
    omega
theorem sumQ_link (hi : lookL A i = some c) (hj : lookL A j = some x) (hne : i ≠ j) (row : List Int) : sumQ (linkA A i j c x) row = sumQ A row := by
  unfold sumQ
  rw [List.map_congr_left (fun k _ => ob_link hi hj hne k)]
theorem sumQ_snoc (A : Al) (row : List Int) (k : Int) : sumQ A (row ++ [k]) = sumQ A row + quotaOf (obL A k) := by simp [sumQ]
theorem used_bound (h : AInv root A) (hi : lookL A i = some c) : 0 ≤ usedOf c ∧ usedOf c ≤ 1099511627776 * 4096 := by
  have hb := sumQ_bound (A := A) (row := c.2) (fun j hj => by
    have := (h.ent _ _ hi j hj).1
    cases hlj : lookL A j with
    | none => rw [hlj] at this; cases this
    | some oj => rw [ob_of hlj]; have := h.quo _ _ hlj; omega)
  have hfl := row_few (h.rnd _ _ hi) (fun j hj => (h.ent _ _ hi j hj).1)
  have hfew := h.few
  have hus := h.usd _ _ hi
  omega
theorem AInv.link (h : AInv root A) (hi : lookL A i = some c) (hj : lookL A j = some x) (hne : i ≠ j) (hnew : j ∉ c.2) (hjr : j ≠ root) (hx : x.2 = []) : AInv root (linkA A i j c x) := by
  have hid := h.ids _ _ hj
  have hlook := look_link (A := A) (c := c) (x := x) hne
  have hct := cnt_link hi hj hne hid hnew
  have hcl := cnt_le A j
  have hfew := h.few
  have hub := used_bound h hi
  have hq := h.quo _ _ hj
  have hkeys : (linkA A i j c x).map (·.1) = A.map (·.1) := by
    unfold linkA
    have h1 : lookL (insL A i (addO c (idOf x) (quotaOf x))) j = some x := by rw [lookL_insL, if_neg (fun e => hne e.symm)]; exact hj
    rw [keys_ins h1, keys_ins hi]
  have hlen : (linkA A i j c x).length = A.length := by have := congrArg List.length hkeys; simpa using this
  have hsome : ∀ k, (lookL (linkA A i j c x) k).isSome = (lookL A k).isSome := fun k => by
    rw [hlook k]
    split
    · rename_i e; subst e; rw [hj]; rfl
    · split
      · rename_i e; subst e; rw [hi]; rfl
      · rfl
  refine ⟨by rw [hkeys]; exact h.nodup, by rw [hlen]; exact h.few, fun k o hk => ?_, fun k o hk => ?_, fun k o hk m hm => ?_, ?_, fun k o hk => ?_, fun k o hk => ?_, fun k o hk => ?_⟩
  · rw [hlook k] at hk
    split at hk
    · rename_i e; subst e; cases hk; exact hid
    · split at hk
      · rename_i e; subst e; cases hk; exact h.ids _ c hi
      · exact h.ids _ _ hk
  · rw [hlook k] at hk
    split at hk
    · cases hk; exact h.rnd _ x hj
    · split at hk
      · cases hk
        show (c.2 ++ [idOf x]).Nodup
        rw [hid, List.nodup_append]
        exact ⟨h.rnd _ _ hi, by simp, fun a ha b hb => by obtain rfl := List.mem_singleton.1 hb; rintro rfl; exact hnew ha⟩
      · exact h.rnd _ _ hk
  · rw [hsome]
    rw [hlook k] at hk
    split at hk
    · cases hk; exact h.ent _ x hj m hm
    · split at hk
      · cases hk
        rcases List.mem_append.1 (show m ∈ c.2 ++ [idOf x] from hm) with hm | hm
        · exact h.ent _ _ hi m hm
        · obtain rfl := List.mem_singleton.1 hm
          rw [hid]
          exact ⟨by rw [hj]; rfl, hjr⟩
      · exact h.ent _ _ hk m hm
  · obtain ⟨r, hr⟩ := h.rank
    refine ⟨fun k => if k = j then max (r j) (r i + 1) else r k, fun k o hk m hm => ?_⟩
    have hkj : k ≠ j := by
      rintro rfl
      rw [hlook k, if_pos rfl] at hk
      cases hk
      rw [show (incO x).2 = [] from hx] at hm; cases hm
    simp only
    rw [if_neg hkj]
    rw [hlook k, if_neg hkj] at hk
    have old : ∀ m, r k < r m → r k < (if m = j then max (r j) (r i + 1) else r m) := fun m hm => by
      split
      · rename_i e; subst e; omega
      · exact hm
    split at hk
    · rename_i e; subst e; cases hk
      rcases List.mem_append.1 (show m ∈ c.2 ++ [idOf x] from hm) with hm | hm
      · exact old m (hr _ _ hi m hm)
      · obtain rfl := List.mem_singleton.1 hm
        rw [hid, if_pos rfl]; omega
    · exact old m (hr _ _ hk m hm)
  · rw [hlook k] at hk
    split at hk
    · cases hk; exact h.quo _ x hj
    · split at hk
      · cases hk; exact h.quo _ c hi
      · exact h.quo _ _ hk
  · have hc := hct k
    rw [hlook k] at hk
    split at hk
    · rename_i e; subst e; cases hk
      have hl := h.lnk _ _ hj
      rw [if_neg hjr] at hl ⊢
      rw [if_pos rfl] at hc
      show IntKind.i64.wrap (linksOf x + 1) = _
      rw [wrap64 (by omega) (by omega)]
      omega
    · rename_i ekj
      rw [if_neg ekj] at hc
      split at hk
      · rename_i e; subst e; cases hk
        show linksOf c = _
        rw [h.lnk _ _ hi, hc]; rfl
      · rw [h.lnk _ _ hk, hc]; rfl
  · rw [sumQ_link hi hj hne]
    rw [hlook k] at hk
    split at hk
    · cases hk; exact h.usd _ x hj
    · split at hk
      · cases hk
        show IntKind.i64.wrap (usedOf c + quotaOf x) = sumQ A (c.2 ++ [idOf x])
        rw [wrap64 (by omega) (by omega), hid, sumQ_snoc, ob_of hj, h.usd _ _ hi]
      · exact h.usd _ _ hk
end
theorem room_eq {o : Ob} (h0 : 0 ≤ usedOf o) (h1 : usedOf o ≤ quotaOf o) (h2 : quotaOf o ≤ 1099511627776) : roomOf o = quotaOf o - usedOf o := by
  unfold roomOf
  rw [wrap64 (by omega) (by omega)]
theorem WfT.room {T : Tb} (h : WfT T) {k : Int} {o : Ob} (hk : lookL T.1 k = some o) : roomOf o = quotaOf o - usedOf o :=
  room_eq (used_bound h.a hk).1 (h.cap _ _ hk) (h.a.quo _ _ hk).2
/-- A link to an object with an empty row. -/
theorem link_wf {T : Tb} {inn id : Int} {c x : Ob} (h : AInv T.2 T.1) (hrest : ∀ k o, lookL T.1 k = some o → (k ≠ id → 1 ≤ linksOf o) ∧ (kindOf o ≠ 1 → o.2 = []) ∧ (k ≠ id → kindOf o = 1 → linksOf o = 1) ∧ usedOf o ≤ quotaOf o ∧ (labOf o).2.length ≤ 16 ∧ 1 ≤ k ∧ k ≤ 2305843009213693951)
    (hroot : ∃ o, lookL T.1 T.2 = some o ∧ kindOf o = 1) (hi : lookL T.1 inn = some c) (hj : lookL T.1 id = some x) (hne : inn ≠ id) (hnew : id ∉ c.2) (hjr : id ≠ T.2) (hx : x.2 = []) (hkc : kindOf c = 1) (hkx : kindOf x = 1 → linksOf x = 0) (hlx : 0 ≤ linksOf x)
    (hq : quotaOf x ≤ quotaOf c - usedOf c) : WfT (linkT T inn id c x) := by
  have hA : AInv T.2 (linkA T.1 inn id c x) := h.link hi hj hne hnew hjr hx
  have hlook := look_link (A := T.1) (c := c) (x := x) hne
  have hub := used_bound h hi
  have hqx := h.quo _ _ hj
  have hqc := h.quo _ _ hi
  have hfew := h.few
  have hl := h.lnk _ _ hj
  rw [if_neg hjr] at hl
  have hcl := cnt_le T.1 id
  have hlk : linksOf (incO x) = linksOf x + 1 := by show IntKind.i64.wrap (linksOf x + 1) = _; rw [wrap64 (by omega) (by omega)]
  have hus : usedOf (addO c (idOf x) (quotaOf x)) = usedOf c + quotaOf x := by show IntKind.i64.wrap (usedOf c + quotaOf x) = _; rw [wrap64 (by omega) (by omega)]
  show WfT (linkA T.1 inn id c x, T.2)
  have key : ∀ k o, lookL (linkA T.1 inn id c x) k = some o → (k = id ∧ o = incO x) ∨ (k ≠ id ∧ k = inn ∧ o = addO c (idOf x) (quotaOf x)) ∨ (k ≠ id ∧ k ≠ inn ∧ lookL T.1 k = some o) := fun k o hk => by
    rw [hlook k] at hk
    split at hk
    · rename_i e; cases hk; exact .inl ⟨e, rfl⟩
    · rename_i e
      split at hk
      · rename_i e2; cases hk; exact .inr (.inl ⟨e, e2, rfl⟩)
      · rename_i e2; exact .inr (.inr ⟨e, e2, hk⟩)
  refine ⟨hA, fun k o hk => ?_, ?_, fun k o hk hkind => ?_, fun k o hk hkind => ?_, fun k o hk => ?_, fun k o hk => ?_, fun k o hk => ?_⟩
  · rcases key k o hk with ⟨rfl, rfl⟩ | ⟨e1, rfl, rfl⟩ | ⟨e1, e2, e3⟩
    · omega
    · exact (hrest _ c hi).1 e1
    · exact (hrest k o e3).1 e1
  · obtain ⟨o, h1, h2⟩ := hroot
    show ∃ o, lookL (linkA T.1 inn id c x) T.2 = some o ∧ kindOf o = 1
    rw [hlook, if_neg (fun e => hjr e.symm)]
    split
    · exact ⟨_, rfl, hkc⟩
    · exact ⟨o, h1, h2⟩
  · rcases key k o hk with ⟨rfl, rfl⟩ | ⟨e1, rfl, rfl⟩ | ⟨e1, e2, e3⟩
    · exact hx
    · exact absurd hkc hkind
    · exact (hrest k o e3).2.1 hkind
  · rcases key k o hk with ⟨rfl, rfl⟩ | ⟨e1, rfl, rfl⟩ | ⟨e1, e2, e3⟩
    · rw [hlk, hkx hkind]; rfl
    · exact (hrest _ c hi).2.2.1 e1 hkind
    · exact (hrest k o e3).2.2.1 e1 hkind
  · rcases key k o hk with ⟨rfl, rfl⟩ | ⟨e1, rfl, rfl⟩ | ⟨e1, e2, e3⟩
    · exact (hrest _ x hj).2.2.2.1
    · rw [hus]; show _ ≤ quotaOf c; omega
    · exact (hrest k o e3).2.2.2.1
  · rcases key k o hk with ⟨rfl, rfl⟩ | ⟨e1, rfl, rfl⟩ | ⟨e1, e2, e3⟩
    · exact (hrest _ x hj).2.2.2.2.1
    · exact (hrest _ c hi).2.2.2.2.1
    · exact (hrest k o e3).2.2.2.2.1
  · rcases key k o hk with ⟨rfl, rfl⟩ | ⟨e1, rfl, rfl⟩ | ⟨e1, e2, e3⟩
    · exact (hrest _ x hj).2.2.2.2.2
    · exact (hrest _ c hi).2.2.2.2.2
    · exact (hrest k o e3).2.2.2.2.2
theorem WfT.all {T : Tb} (h : WfT T) (id : Int) : ∀ k o, lookL T.1 k = some o → (k ≠ id → 1 ≤ linksOf o) ∧ (kindOf o ≠ 1 → o.2 = []) ∧ (k ≠ id → kindOf o = 1 → linksOf o = 1) ∧ usedOf o ≤ quotaOf o ∧ (labOf o).2.length ≤ 16 ∧ 1 ≤ k ∧ k ≤ 2305843009213693951 :=
  fun k o hk => ⟨fun _ => h.live k o hk, h.kin k o hk, fun _ => h.one k o hk, h.cap k o hk, h.lab k o hk, h.idr k o hk⟩
theorem linkR_wf {T : Tb} (h : WfT T) (inn id : Int) : WfT (linkR T inn id).2 := by
  unfold linkR
  cases hx : lookL T.1 id with
  | none => exact h
  | some x =>
    simp only
    cases hc : lookL T.1 inn with
    | none => exact h
    | some c =>
      simp only
      split
      · exact h
      · rename_i h1
        split
        · exact h
        · rename_i h2
          split
          · exact h
          · rename_i h3
            split
            · exact h
            · rename_i h4
              have hkc : kindOf c = 1 := by simpa using h1
              have hkx : kindOf x ≠ 1 := fun e => h2 ⟨by omega, by omega⟩
              have hne : inn ≠ id := by rintro rfl; rw [hx] at hc; cases hc; exact hkx hkc
              rw [h.room hc] at h4
              have hlv := h.live _ _ hx
              obtain ⟨o, ho1, ho2⟩ := h.root
              exact link_wf h.a (h.all id) h.root hc hx hne (by simpa using h3) (fun e => by rw [← e, hx] at ho1; cases ho1; exact hkx ho2) (h.kin _ _ hx hkx) hkc (fun e => absurd e hkx) (by omega) (by omega)
/-! ### A new object -/
theorem ins_new {α : Type} {A : List (Int × α)} {k : Int} (h : lookL A k = none) (v : α) : insL A k v = A ++ [(k, v)] := insL_new h v
theorem AInv.fresh {root : Int} {A : Al} (h : AInv root A) {id : Int} {o0 : Ob} (hn : lookL A id = none) (hr : id ≠ root) (hl : A.length < 4096) (hid : idOf o0 = id) (hrow : o0.2 = []) (hq : 1 ≤ quotaOf o0 ∧ quotaOf o0 ≤ 1099511627776) (hlk : linksOf o0 = 0) (hus : usedOf o0 = 0) : AInv root (insL A id o0) := by
  have hlook : ∀ k, lookL (insL A id o0) k = if k = id then some o0 else lookL A k := fun k => lookL_insL _ _ _ _
  have hnone : ∀ k o, lookL A k = some o → id ∉ o.2 := fun k o hk hm => by have := (h.ent k o hk id hm).1; rw [hn] at this; cases this
  have hc : ∀ k, cntA (insL A id o0) k = cntA A k := fun k => by
    unfold cntA
    rw [ins_new hn, List.countP_append]
    simp [hrow]
  have hc0 : cntA A id = 0 := by
    unfold cntA
    rw [List.countP_eq_zero]
    intro x hx
    have := hnone x.1 x.2 (lookL_some h.nodup hx)
    simpa using this
  have hne : ∀ k o, lookL A k = some o → k ≠ id := fun k o hk e => by rw [e, hn] at hk; cases hk
  refine ⟨nodup_insL _ _ _ h.nodup, by rw [ins_new hn]; simp; omega, fun k o hk => ?_, fun k o hk => ?_, fun k o hk m hm => ?_, ?_, fun k o hk => ?_, fun k o hk => ?_, fun k o hk => ?_⟩
  · rw [hlook] at hk
    split at hk
    · rename_i e; cases hk; rw [hid, e]
    · exact h.ids _ _ hk
  · rw [hlook] at hk
    split at hk
    · cases hk; rw [hrow]; simp
    · exact h.rnd _ _ hk
  · rw [hlook] at hk
    split at hk
    · cases hk; rw [hrow] at hm; cases hm
    · obtain ⟨h1, h2⟩ := h.ent _ _ hk m hm
      refine ⟨?_, h2⟩
      rw [hlook]; split
      · rfl
      · exact h1
  · obtain ⟨r, hr'⟩ := h.rank
    refine ⟨r, fun k o hk m hm => ?_⟩
    rw [hlook] at hk
    split at hk
    · cases hk; rw [hrow] at hm; cases hm
    · exact hr' _ _ hk m hm
  · rw [hlook] at hk
    split at hk
    · cases hk; exact hq
    · exact h.quo _ _ hk
  · rw [hc]
    rw [hlook] at hk
    split at hk
    · rename_i e; subst e; cases hk; rw [hlk, hc0, if_neg hr]; rfl
    · exact h.lnk _ _ hk
  · rw [hlook] at hk
    split at hk
    · cases hk; rw [hus, hrow]; rfl
    · rw [h.usd _ _ hk]
      unfold sumQ
      congr 1
      refine List.map_congr_left fun m hm => ?_
      have : m ≠ id := fun e => hnone _ _ hk (e ▸ hm)
      unfold obL
      rw [hlook, if_neg this]
theorem makeR_wf {T : Tb} (h : WfT T) (inn id kind quota : Int) (l : Lab) : WfT (makeT T inn id kind quota l).2 := by
  unfold makeT
  cases hc : lookL T.1 inn with
  | none => exact h
  | some c =>
    simp only
    split
    · exact h
    · rename_i h1
      split
      · exact h
      · rename_i h2
        split
        · exact h
        · rename_i h3
          split
          · exact h
          · rename_i h4
            split
            · exact h
            · rename_i h5
              split
              · exact h
              · rename_i h6
                simp only [not_or] at h3 h4
                have hkc : kindOf c = 1 := by simpa using h1
                have hn : lookL T.1 id = none := by
                  cases hl : lookL T.1 id with
                  | none => rfl
                  | some o => rw [hl] at h4; simp at h4
                have hir : id ≠ T.2 := by
                  obtain ⟨o, ho, _⟩ := h.root
                  rintro rfl; rw [hn] at ho; cases ho
                have hll : l.2.length ≤ 16 := by
                  have hm : mayL kind l = true := by cases hb : mayL kind l with | true => rfl | false => exact absurd hb h3.2.2
                  unfold mayL at hm
                  split at hm
                  · unfold plainL at hm; simp at hm; exact right_len hm.1
                  · exact free_short hm
                rw [h.room hc] at h6
                have hne : inn ≠ id := by rintro rfl; rw [hn] at hc; cases hc
                have hA := h.a.fresh (o0 := ((id, kind, quota, 0, 0, l), [])) hn hir (by omega) rfl rfl ⟨by show 1 ≤ quota; omega, by show quota ≤ _; omega⟩ rfl rfl
                have hlook : ∀ k, lookL (insL T.1 id ((id, kind, quota, 0, 0, l), [])) k = if k = id then some ((id, kind, quota, 0, 0, l), []) else lookL T.1 k := fun k => lookL_insL _ _ _ _
                refine link_wf (T := (insL T.1 id ((id, kind, quota, 0, 0, l), []), T.2)) (x := ((id, kind, quota, 0, 0, l), [])) hA (fun k o hk => ?_) ?_ (by show lookL (insL T.1 id _) inn = some c; rw [hlook, if_neg hne]; exact hc) (by show lookL (insL T.1 id _) id = _; rw [hlook, if_pos rfl]) hne ?_ hir rfl hkc (fun _ => rfl) (Int.le_refl _) (by show quota ≤ _; omega)
                · have hk : lookL (insL T.1 id ((id, kind, quota, 0, 0, l), [])) k = some o := hk
                  rw [hlook] at hk
                  split at hk
                  · rename_i e; cases hk
                    exact ⟨fun e2 => absurd e e2, fun _ => rfl, fun e2 => absurd e e2, by show (0 : Int) ≤ quota; omega, hll, by omega, by omega⟩
                  · exact h.all id k o hk
                · obtain ⟨o, ho1, ho2⟩ := h.root
                  refine ⟨o, ?_, ho2⟩
                  show lookL (insL T.1 id _) T.2 = some o
                  rw [hlook, if_neg (fun e => hir e.symm)]; exact ho1
                · intro hm
                  have := (h.a.ent _ _ hc id hm).1
                  rw [hn] at this; cases this
/-! ### Quota, labels -/
theorem relabelR_wf {T : Tb} (h : WfT T) (id : Int) (l : Lab) : WfT (relabelR T id l).2 := by
  unfold relabelR
  cases ho : lookL T.1 id with
  | none => exact h
  | some o =>
    simp only
    split
    · exact h
    · split
      · exact h
      · rename_i h2
        have hp : plainL l = true := by cases hb : plainL l with | true => rfl | false => exact absurd hb h2
        have hll : l.2.length ≤ 16 := by unfold plainL at hp; simp at hp; exact right_len hp.1
        have hlook : ∀ k, lookL (insL T.1 id (setL o l)) k = if k = id then some (setL o l) else lookL T.1 k := fun k => lookL_insL _ _ _ _
        have key : ∀ k o', lookL (insL T.1 id (setL o l)) k = some o' → ∃ o2, lookL T.1 k = some o2 ∧ o'.2 = o2.2 ∧ idOf o' = idOf o2 ∧ kindOf o' = kindOf o2 ∧ quotaOf o' = quotaOf o2 ∧ usedOf o' = usedOf o2 ∧ linksOf o' = linksOf o2 ∧ (labOf o').2.length ≤ 16 := fun k o' hk => by
          rw [hlook] at hk
          split at hk
          · rename_i e; subst e; cases hk; exact ⟨o, ho, rfl, rfl, rfl, rfl, rfl, rfl, hll⟩
          · exact ⟨o', hk, rfl, rfl, rfl, rfl, rfl, rfl, h.lab _ _ hk⟩
        have hsome : ∀ k, (lookL (insL T.1 id (setL o l)) k).isSome = (lookL T.1 k).isSome := fun k => by
          rw [hlook]; split
          · rename_i e; subst e; rw [ho]; rfl
          · rfl
        have hcnt : ∀ k, cntA (insL T.1 id (setL o l)) k = cntA T.1 k := fun k => by
          have := cnt_ins ho (setL o l) k
          have e : (setL o l).2 = o.2 := rfl
          rw [e] at this; omega
        have hsum : ∀ row, sumQ (insL T.1 id (setL o l)) row = sumQ T.1 row := fun row => by
          unfold sumQ
          congr 1
          refine List.map_congr_left fun k _ => ?_
          unfold obL
          rw [hlook]; split
          · rename_i e; subst e; rw [ho]; rfl
          · rfl
        refine ⟨⟨nodup_insL _ _ _ h.a.nodup, by rw [len_ins ho]; exact h.a.few, ?_, ?_, ?_, ?_, ?_, ?_, ?_⟩, ?_, ?_, ?_, ?_, ?_, ?_, ?_⟩
        · intro k o' hk; obtain ⟨o2, h1, h2, h3, h4, h5, h6, h7, h8⟩ := key k o' hk; rw [h3]; exact h.a.ids _ _ h1
        · intro k o' hk; obtain ⟨o2, h1, h2, h3, h4, h5, h6, h7, h8⟩ := key k o' hk; rw [h2]; exact h.a.rnd _ _ h1
        · intro k o' hk j hj
          obtain ⟨o2, h1, h2, h3, h4, h5, h6, h7, h8⟩ := key k o' hk
          show (lookL (insL T.1 id (setL o l)) j).isSome = true ∧ _
          rw [hsome]; exact h.a.ent _ _ h1 j (h2 ▸ hj)
        · obtain ⟨r, hr⟩ := h.a.rank
          exact ⟨r, fun k o' hk j hj => by obtain ⟨o2, h1, h2, _⟩ := key k o' hk; exact hr _ _ h1 j (h2 ▸ hj)⟩
        · intro k o' hk; obtain ⟨o2, h1, h2, h3, h4, h5, h6, h7, h8⟩ := key k o' hk; rw [h5]; exact h.a.quo _ _ h1
        · intro k o' hk; obtain ⟨o2, h1, h2, h3, h4, h5, h6, h7, h8⟩ := key k o' hk
          show linksOf o' = (cntA (insL T.1 id (setL o l)) k : Int) + _
          rw [h7, hcnt]; exact h.a.lnk _ _ h1
        · intro k o' hk; obtain ⟨o2, h1, h2, h3, h4, h5, h6, h7, h8⟩ := key k o' hk
          show usedOf o' = sumQ (insL T.1 id (setL o l)) o'.2
          rw [h6, hsum, h2]; exact h.a.usd _ _ h1
        · intro k o' hk; obtain ⟨o2, h1, h2, h3, h4, h5, h6, h7, h8⟩ := key k o' hk; rw [h7]; exact h.live _ _ h1
        · obtain ⟨o1, h1, h2⟩ := h.root
          show ∃ o1, lookL (insL T.1 id (setL o l)) T.2 = some o1 ∧ _
          rw [hlook]; split
          · rename_i e; rw [e, ho] at h1; cases h1; exact ⟨_, rfl, h2⟩
          · exact ⟨o1, h1, h2⟩
        · intro k o' hk hkind; obtain ⟨o2, h1, h2, h3, h4, h5, h6, h7, h8⟩ := key k o' hk; rw [h2]; exact h.kin _ _ h1 (by rw [← h4]; exact hkind)
        · intro k o' hk hkind; obtain ⟨o2, h1, h2, h3, h4, h5, h6, h7, h8⟩ := key k o' hk; rw [h7]; exact h.one _ _ h1 (by rw [← h4]; exact hkind)
        · intro k o' hk; obtain ⟨o2, h1, h2, h3, h4, h5, h6, h7, h8⟩ := key k o' hk; rw [h5, h6]; exact h.cap _ _ h1
        · intro k o' hk; obtain ⟨o2, h1, h2, h3, h4, h5, h6, h7, h8⟩ := key k o' hk; exact h8
        · intro k o' hk; obtain ⟨o2, h1, _⟩ := key k o' hk; exact h.idr _ _ h1
theorem sum_shift {A A' : Al} {id : Int} {n : Int} (hq : ∀ k, quotaOf (obL A' k) = quotaOf (obL A k) + if k = id then n else 0) : (row : List Int) → row.Nodup → sumQ A' row = sumQ A row + if id ∈ row then n else 0
  | [], _ => by simp [sumQ]
  | x :: row, hn => by
    simp only [List.nodup_cons] at hn
    have ih := sum_shift hq row hn.2
    simp only [sumQ, List.map_cons, List.sum_cons] at ih ⊢
    rw [hq, ih]
    by_cases e : x = id
    · subst e
      simp [hn.1]; omega
    · have : (id ∈ x :: row) ↔ id ∈ row := ⟨fun h => (List.mem_cons.1 h).resolve_left (fun e2 => e e2.symm), fun h => List.mem_cons_of_mem _ h⟩
      simp only [if_neg e, this]; omega
theorem shiftR_wf {T : Tb} (h : WfT T) (inn id n : Int) : WfT (shiftR T inn id n).2 := by
  unfold shiftR
  cases hc : lookL T.1 inn with
  | none => exact h
  | some c =>
    simp only
    split
    · exact h
    · rename_i h1
      split
      · exact h
      · rename_i h2
        cases hx : lookL T.1 id with
        | none => exact h
        | some x =>
          simp only
          split
          · exact h
          · rename_i h3
            split
            · exact h
            · rename_i h4
              split
              · exact h
              · rename_i h5
                have hin : id ∈ c.2 := by simpa using h2
                have hne := h.a.ne hc hin
                have hkx : kindOf x = 1 := by simpa using h3
                have hkc : kindOf c = 1 := by simpa using h1
                simp only [not_or] at h4 h5
                rw [h.room hc, h.room hx] at h5
                have hqx := h.a.quo _ _ hx
                have hqc := h.a.quo _ _ hc
                have hux := used_bound h.a hx
                have huc := used_bound h.a hc
                have hcx := h.cap _ _ hx
                have hcc := h.cap _ _ hc
                rw [wrap64 (n := -n) (by omega) (by omega), wrap64 (n := quotaOf x + n) (by omega) (by omega)] at h5
                have w1 : IntKind.i64.wrap (quotaOf x + n) = quotaOf x + n := wrap64 (by omega) (by omega)
                have hl1 : lookL (insL T.1 id (setQ x (IntKind.i64.wrap (quotaOf x + n)))) inn = some c := by rw [lookL_insL, if_neg hne]; exact hc
                rw [hl1]
                simp only [Option.getD_some]
                have hqc2 : quotaOf x ≤ usedOf c := by
                  have e1 := h.a.usd _ _ hc
                  have e2 := sumQ_take (A := T.1) (h.a.rnd _ _ hc) hin
                  rw [ob_of hx] at e2
                  have e3 := (sumQ_bound (A := T.1) (row := c.2.filter (· != id)) (fun j hj => by
                    have := (h.a.ent _ _ hc j (List.mem_filter.1 hj).1).1
                    cases hlj : lookL T.1 j with
                    | none => rw [hlj] at this; cases this
                    | some oj => rw [ob_of hlj]; have := h.a.quo _ _ hlj; omega)).1
                  omega
                have w2 : IntKind.i64.wrap (usedOf c + n) = usedOf c + n := wrap64 (by omega) (by omega)
                rw [w1, w2]
                obtain ⟨A', hA'⟩ : ∃ A', A' = insL (insL T.1 id (setQ x (quotaOf x + n))) inn (setU c (usedOf c + n)) := ⟨_, rfl⟩
                rw [← hA']
                have hlook : ∀ k, lookL A' k = if k = inn then some (setU c (usedOf c + n)) else if k = id then some (setQ x (quotaOf x + n)) else lookL T.1 k := fun k => by
                  rw [hA', lookL_insL, lookL_insL]
                have hl2 : lookL (insL T.1 id (setQ x (quotaOf x + n))) inn = some c := by rw [lookL_insL, if_neg hne]; exact hc
                have hkeys : A'.map (·.1) = T.1.map (·.1) := by rw [hA', keys_ins hl2, keys_ins hx]
                have hcnt : ∀ k, cntA A' k = cntA T.1 k := fun k => by
                  have e1 := cnt_ins hl2 (setU c (usedOf c + n)) k
                  have e2 := cnt_ins hx (setQ x (quotaOf x + n)) k
                  have e3 : (setU c (usedOf c + n)).2 = c.2 := rfl
                  have e4 : (setQ x (quotaOf x + n)).2 = x.2 := rfl
                  rw [e3] at e1; rw [e4] at e2; rw [hA']; omega
                have hq : ∀ k, quotaOf (obL A' k) = quotaOf (obL T.1 k) + if k = id then n else 0 := fun k => by
                  unfold obL
                  rw [hlook]
                  split
                  · rename_i e; subst e; rw [if_neg hne, hc]; show quotaOf c = quotaOf c + 0; omega
                  · split
                    · rename_i e; subst e; rw [hx]; rfl
                    · omega
                have hone : ∀ k o, lookL T.1 k = some o → id ∈ o.2 → k = inn := fun k o hk hm => by
                  have e1 := h.one _ _ hx hkx
                  have e2 := h.a.lnk _ _ hx
                  rw [if_neg (h.a.ent _ _ hc id hin).2] at e2
                  have e3 : cntA T.1 id = 1 := by omega
                  apply Classical.byContradiction
                  intro hki
                  have : 2 ≤ cntA T.1 id := by
                    unfold cntA
                    obtain ⟨l, r, s1, s2⟩ := ins_split hc
                    have hmem := lookL_mem hk
                    rw [s1] at hmem ⊢
                    have hmem : (k, o) ∈ l ∨ (k, o) ∈ r := by
                      rcases List.mem_append.1 hmem with h | h
                      · exact .inl h
                      · rcases List.mem_cons.1 h with h | h
                        · exact absurd (Prod.mk.inj h).1 hki
                        · exact .inr h
                    rw [List.countP_append, List.countP_cons, if_pos (by simpa using hin)]
                    rcases hmem with h | h
                    · have : 0 < l.countP fun x => x.2.2.contains id := List.countP_pos_iff.2 ⟨_, h, by simpa using hm⟩
                      omega
                    · have : 0 < r.countP fun x => x.2.2.contains id := List.countP_pos_iff.2 ⟨_, h, by simpa using hm⟩
                      omega
                  omega
                have key : ∀ k o', lookL A' k = some o' → ∃ o2, lookL T.1 k = some o2 ∧ o'.2 = o2.2 ∧ idOf o' = idOf o2 ∧ kindOf o' = kindOf o2 ∧ linksOf o' = linksOf o2 ∧ labOf o' = labOf o2 ∧ quotaOf o' = quotaOf o2 + (if k = id then n else 0) ∧ usedOf o' = usedOf o2 + (if k = inn then n else 0) := fun k o' hk => by
                  rw [hlook] at hk
                  split at hk
                  · rename_i e; subst e; cases hk
                    refine ⟨c, hc, rfl, rfl, rfl, rfl, rfl, ?_, ?_⟩
                    · rw [if_neg hne]; show quotaOf c = _; omega
                    · rw [if_pos rfl]; rfl
                  · rename_i ei
                    split at hk
                    · rename_i e; subst e; cases hk
                      refine ⟨x, hx, rfl, rfl, rfl, rfl, rfl, ?_, ?_⟩
                      · rw [if_pos rfl]; rfl
                      · rw [if_neg ei]; show usedOf x = _; omega
                    · rename_i ed
                      exact ⟨o', hk, rfl, rfl, rfl, rfl, rfl, by rw [if_neg ed]; omega, by rw [if_neg ei]; omega⟩
                have hsome : ∀ k, (lookL A' k).isSome = (lookL T.1 k).isSome := fun k => by
                  rw [hlook]
                  split
                  · rename_i e; subst e; rw [hc]; rfl
                  · split
                    · rename_i e; subst e; rw [hx]; rfl
                    · rfl
                refine ⟨⟨by rw [hkeys]; exact h.a.nodup, by have := congrArg List.length hkeys; have hf := h.a.few; simp at this; show A'.length ≤ 4096; omega, ?_, ?_, ?_, ?_, ?_, ?_, ?_⟩, ?_, ?_, ?_, ?_, ?_, ?_, ?_⟩
                · intro k o' hk; obtain ⟨o2, k1, k2, k3, k4, k5, k6, k7, k8⟩ := key k o' hk; rw [k3]; exact h.a.ids _ _ k1
                · intro k o' hk; obtain ⟨o2, k1, k2, k3, k4, k5, k6, k7, k8⟩ := key k o' hk; rw [k2]; exact h.a.rnd _ _ k1
                · intro k o' hk j hj
                  obtain ⟨o2, k1, k2, k3, k4, k5, k6, k7, k8⟩ := key k o' hk
                  show (lookL A' j).isSome = true ∧ _
                  rw [hsome]; exact h.a.ent _ _ k1 j (k2 ▸ hj)
                · obtain ⟨r, hr⟩ := h.a.rank
                  exact ⟨r, fun k o' hk j hj => by obtain ⟨o2, k1, k2, _⟩ := key k o' hk; exact hr _ _ k1 j (k2 ▸ hj)⟩
                · intro k o' hk
                  obtain ⟨o2, k1, k2, k3, k4, k5, k6, k7, k8⟩ := key k o' hk
                  have := h.a.quo _ _ k1
                  rw [k7]
                  split
                  · rename_i e; subst e; rw [hx] at k1; cases k1; omega
                  · omega
                · intro k o' hk; obtain ⟨o2, k1, k2, k3, k4, k5, k6, k7, k8⟩ := key k o' hk
                  show linksOf o' = (cntA A' k : Int) + _
                  rw [k5, hcnt]; exact h.a.lnk _ _ k1
                · intro k o' hk; obtain ⟨o2, k1, k2, k3, k4, k5, k6, k7, k8⟩ := key k o' hk
                  show usedOf o' = sumQ A' o'.2
                  rw [k8, k2, sum_shift hq o2.2 (h.a.rnd _ _ k1), h.a.usd _ _ k1]
                  congr 1
                  by_cases e : k = inn
                  · subst e; rw [hc] at k1; cases k1; rw [if_pos rfl, if_pos hin]
                  · rw [if_neg e, if_neg (fun hm => e (hone k o2 k1 hm))]
                · intro k o' hk; obtain ⟨o2, k1, k2, k3, k4, k5, k6, k7, k8⟩ := key k o' hk; rw [k5]; exact h.live _ _ k1
                · obtain ⟨o1, g1, g2⟩ := h.root
                  show ∃ o1, lookL A' T.2 = some o1 ∧ _
                  rw [hlook]; split
                  · exact ⟨_, rfl, hkc⟩
                  · split
                    · exact ⟨_, rfl, hkx⟩
                    · exact ⟨o1, g1, g2⟩
                · intro k o' hk hkind; obtain ⟨o2, k1, k2, k3, k4, k5, k6, k7, k8⟩ := key k o' hk; rw [k2]; exact h.kin _ _ k1 (by rw [← k4]; exact hkind)
                · intro k o' hk hkind; obtain ⟨o2, k1, k2, k3, k4, k5, k6, k7, k8⟩ := key k o' hk; rw [k5]; exact h.one _ _ k1 (by rw [← k4]; exact hkind)
                · intro k o' hk; obtain ⟨o2, k1, k2, k3, k4, k5, k6, k7, k8⟩ := key k o' hk
                  have := h.cap _ _ k1
                  rw [k7, k8]
                  split
                  · rename_i e; subst e
                    rw [hc] at k1; cases k1
                    rw [if_neg hne]; omega
                  · split
                    · rename_i e; subst e; rw [hx] at k1; cases k1; omega
                    · omega
                · intro k o' hk; obtain ⟨o2, k1, k2, k3, k4, k5, k6, k7, k8⟩ := key k o' hk; rw [k6]; exact h.lab _ _ k1
                · intro k o' hk; obtain ⟨o2, k1, _⟩ := key k o' hk; exact h.idr _ _ k1
/-! ### A new table; tables that are alike but for the order -/
theorem new_wf {root : Int} {l : Lab} (h : goodNew root l = true) : WfT (tb0 root l) := by
  unfold goodNew at h
  simp only [Bool.and_eq_true, decide_eq_true_eq] at h
  have hl := free_short h.2
  have key : ∀ k o, lookL (tb0 root l).1 k = some o → k = root ∧ o = ((root, 1, 1099511627776, 0, 1, l), []) := fun k o hk => by
    simp only [tb0, lookL] at hk
    split at hk
    · rename_i e; cases hk; exact ⟨e.symm, rfl⟩
    · cases hk
  refine ⟨⟨by simp [tb0], by simp [tb0], ?_, ?_, ?_, ⟨fun _ => 0, ?_⟩, ?_, ?_, ?_⟩, ?_, ?_, ?_, ?_, ?_, ?_, ?_⟩
  · intro k o hk; obtain ⟨rfl, rfl⟩ := key k o hk; rfl
  · intro k o hk; obtain ⟨rfl, rfl⟩ := key k o hk; simp
  · intro k o hk j hj; obtain ⟨rfl, rfl⟩ := key k o hk; cases hj
  · intro k o hk j hj; obtain ⟨rfl, rfl⟩ := key k o hk; cases hj
  · intro k o hk; obtain ⟨rfl, rfl⟩ := key k o hk; exact ⟨(by decide : (1 : Int) ≤ 1099511627776), Int.le_refl _⟩
  · intro k o hk; obtain ⟨rfl, rfl⟩ := key k o hk; simp [tb0, cntA]
  · intro k o hk; obtain ⟨rfl, rfl⟩ := key k o hk; rfl
  · intro k o hk; obtain ⟨rfl, rfl⟩ := key k o hk; exact Int.le_refl _
  · exact ⟨((root, 1, 1099511627776, 0, 1, l), []), by simp [tb0, lookL], rfl⟩
  · intro k o hk hkind; obtain ⟨rfl, rfl⟩ := key k o hk; rfl
  · intro k o hk hkind; obtain ⟨rfl, rfl⟩ := key k o hk; rfl
  · intro k o hk; obtain ⟨rfl, rfl⟩ := key k o hk; exact (by decide : (0 : Int) ≤ 1099511627776)
  · intro k o hk; obtain ⟨rfl, rfl⟩ := key k o hk; exact hl
  · intro k o hk; obtain ⟨rfl, rfl⟩ := key k o hk; omega
theorem look_perm {α : Type} {A B : List (Int × α)} (h : A.Perm B) (hn : (A.map (·.1)).Nodup) (k : Int) : lookL A k = lookL B k := by
  have hn2 : (B.map (·.1)).Nodup := (h.map _).nodup hn
  cases hb : lookL B k with
  | some o => exact lookL_some hn (h.mem_iff.2 (lookL_mem hb))
  | none => exact (lookL_none _).2 fun hm => (lookL_none _).1 hb ((h.map _).mem_iff.1 hm)
theorem perm_wf {T U : Tb} (h : WfT T) (hp : U.1.Perm T.1) (hr : U.2 = T.2) : WfT U := by
  have hn : (U.1.map (·.1)).Nodup := (hp.symm.map _).nodup h.a.nodup
  have hl : ∀ k, lookL U.1 k = lookL T.1 k := look_perm hp hn
  have ho : ∀ k, obL U.1 k = obL T.1 k := fun k => by unfold obL; rw [hl]
  have hc : ∀ k, cntA U.1 k = cntA T.1 k := fun k => hp.countP_eq _
  have hs : ∀ row, sumQ U.1 row = sumQ T.1 row := fun row => by unfold sumQ; congr 1; exact List.map_congr_left fun k _ => by rw [ho]
  obtain ⟨U1, U2⟩ := U
  simp only at hr hl ho hc hs hn hp
  subst hr
  refine ⟨⟨hn, by rw [hp.length_eq]; exact h.a.few, ?_, ?_, ?_, ?_, ?_, ?_, ?_⟩, ?_, ?_, ?_, ?_, ?_, ?_, ?_⟩
  all_goals simp only [hl, hc, hs]
  · exact h.a.ids
  · exact h.a.rnd
  · exact h.a.ent
  · exact h.a.rank
  · exact h.a.quo
  · exact h.a.lnk
  · exact h.a.usd
  · exact h.live
  · exact h.root
  · exact h.kin
  · exact h.one
  · exact h.cap
  · exact h.lab
  · exact h.idr
end Go.Proofs.Ythoaelmomocohaa
namespace Go.Proofs.Ythoaelmomocohaa
open Go.Proofs.Ythoaelmomocohaa.Gx
set_option maxRecDepth 100000
set_option maxHeartbeats 4000000
set_option linter.unusedSimpArgs false
set_option linter.unusedVariables false
/-- The second is what the first comes to. -/
structure Ran {τ : Type} (a b : τ) : Prop where
  eq : b = a
theorem Alt.Ends.eqv {α α' : Type} {A : Alt α} {A' : Alt α'} {m : Nat} {x : α} {x' : α'} {y : A.β} {y' : A'.β} (hp : A'.post x' y') (hr : A'.r x' y' = A.r x y) (hs : A'.res x' y' = A.res x y) (hk : A'.kp = A.kp)
    {ρ0 : List Value} {I : Nat → Prop} {F : Nat → Nat → Prop} {w : World} {v : Value} {ρ1 : List Value} {I' : Nat → Prop} {F' : Nat → Nat → Prop} {w' : World} (h : A.Ends m x y ρ0 I F w v ρ1 I' F' w') : A'.Ends m x' y' ρ0 I F w v ρ1 I' F' w' where
  post := hp
  own := by rw [hs]; exact h.own
  den := by rw [hr]; exact h.den
  len := by rw [hs]; exact h.len
  plain := by rw [hs]; exact h.plain
  kept := by rw [hk]; exact h.kept
  beside := by rw [hs]; exact h.beside
theorem PC1.weak {t : Ty} {K : Pk t} {P : Program} {f : FuncId} (C C' : PC1 K) (h : C.H.ok P f)
    (hw : ∀ x', C'.pre x' → ∃ x, C.pre x ∧ C.inn x = C'.inn x' ∧ C.ss x = C'.ss x' ∧ ∀ A ∈ C.alts, ∀ y, A.post x y → ∃ A' ∈ C'.alts, ∃ y', A'.post x' y' ∧ A'.r x' y' = A.r x y ∧ A'.outs x' y' = A.outs x y) : C'.H.ok P f := by
  intro x' hp ρ0 I F w vs hown hI hd
  obtain ⟨x, h1, h2, h3, h4⟩ := hw x' hp
  have hR : C'.H.Rs x' = C.H.Rs x := by show [_] = [_]; rw [h2]
  have hs : C'.H.ss x' = C.H.ss x := h3.symm
  rw [hR] at hown
  rw [hs] at hd
  refine (h x h1 ρ0 I F w vs hown hI hd).mono ?_
  rintro e w' ⟨v, rfl, B, hB, y, ρ1, I', F', hE⟩
  obtain ⟨A, hA, rfl⟩ := List.mem_map.1 hB
  obtain ⟨A', hA', y', g1, g2, g3⟩ := h4 A hA y hE.post
  exact ⟨v, rfl, _, List.mem_map.2 ⟨A', hA', rfl⟩, y', ρ1, I', F', Alt.Ends.eqv (A := { β := A.β, post := A.post, r := A.r, res := fun x y => custs K (A.outs x y), kp := [true] }) (A' := { β := A'.β, post := A'.post, r := A'.r, res := fun x y => custs K (A'.outs x y), kp := [true] }) (x := x) (y := y) (x' := x') (y' := y') g1 g2 (congrArg (custs K) g3) rfl hE⟩
/-- A method that turns a table, called. -/
def turnsV (α γ : Type) (inn : α → tblT.den) (ss : α → List SV) (r : γ → SV) (run : α → γ × tblT.den) : PC1 KT where
  α := α
  inn := inn
  ss := ss
  pre := fun x => WfT (inn x)
  alts := [{ β := γ × tblT.den, k := 1, post := fun x y => Ran (run x) y, r := fun _ y => r y.1, outs := fun _ y => [y.2] }]
def looksV (α γ : Type) (inn : α → tblT.den) (ss : α → List SV) (r : γ → SV) (run : α → γ) : PC1 KT where
  α := α
  inn := inn
  ss := ss
  pre := fun x => WfT (inn x)
  alts := [{ β := γ, k := 1, post := fun x y => Ran (run x) y, r := fun _ y => r y, outs := fun x _ => [inn x] }]
theorem turns_weak {P : Program} {f : FuncId} {α γ : Type} {inn : α → tblT.den} {ss : α → List SV} {pre : α → Prop} {rr : α → SV} {out : α → tblT.den} (h : (turnsT α inn ss pre rr out).H.ok P f) (r : γ → SV) (run : α → γ × tblT.den)
    (hpre : ∀ x, WfT (inn x) → pre x) (hr : ∀ x, r (run x).1 = rr x) (ho : ∀ x, (run x).2 = out x) : (turnsV α γ inn ss r run).H.ok P f := by
  refine PC1.weak _ _ h fun x hx => ⟨x, hpre x hx, rfl, rfl, fun A hA y hy => ?_⟩
  obtain rfl := List.mem_singleton.1 hA
  exact ⟨_, List.mem_singleton.2 rfl, run x, ⟨rfl⟩, hr x, congrArg (fun z => [z]) (ho x)⟩
theorem looks_weak {P : Program} {f : FuncId} {α γ : Type} {inn : α → tblT.den} {ss : α → List SV} {pre : α → Prop} {rr : α → SV} (h : (looksT α inn ss pre rr).H.ok P f) (r : γ → SV) (run : α → γ) (hpre : ∀ x, WfT (inn x) → pre x) (hr : ∀ x, r (run x) = rr x) : (looksV α γ inn ss r run).H.ok P f := by
  refine PC1.weak _ _ h fun x hx => ⟨x, hpre x hx, rfl, rfl, fun A hA y hy => ?_⟩
  obtain rfl := List.mem_singleton.1 hA
  exact ⟨_, List.mem_singleton.2 rfl, run x, ⟨rfl⟩, hr x, rfl⟩
abbrev intR : Int → SV := fun n => .int .i64 n
def makeV := turnsV (Tb × Int × Int × Int × Int × Lab) Int (fun x => x.1) (fun x => .ptr 0 0 :: ofArgs [i64, i64, i64, i64, lab] (x.2.1, x.2.2.1, x.2.2.2.1, x.2.2.2.2.1, x.2.2.2.2.2, ())) intR (fun x => makeT x.1 x.2.1 x.2.2.1 x.2.2.2.1 x.2.2.2.2.1 x.2.2.2.2.2)
theorem makeV_ok : makeV.H.ok PP 13 := turns_weak make_ok _ _ (fun _ h => h.ok) (fun _ => rfl) (fun _ => rfl)
def linkV := turnsV (Tb × Int × Int) Int (fun x => x.1) (fun x => .ptr 0 0 :: ofArgs [i64, i64] (x.2.1, x.2.2, ())) intR (fun x => linkR x.1 x.2.1 x.2.2)
theorem linkV_ok : linkV.H.ok PP 14 := turns_weak linkT_ok _ _ (fun _ h => h.ok) (fun _ => rfl) (fun _ => rfl)
def shiftV := turnsV (Tb × Int × Int × Int) Int (fun x => x.1) (fun x => .ptr 0 0 :: ofArgs [i64, i64, i64] (x.2.1, x.2.2.1, x.2.2.2, ())) intR (fun x => shiftR x.1 x.2.1 x.2.2.1 x.2.2.2)
theorem shiftV_ok : shiftV.H.ok PP 18 := turns_weak shift_ok _ _ (fun _ h => h.there) (fun _ => rfl) (fun _ => rfl)
def relabelV := turnsV (Tb × Int × Lab) Int (fun x => x.1) (fun x => .ptr 0 0 :: ofArgs [i64, lab] (x.2.1, x.2.2, ())) intR (fun x => relabelR x.1 x.2.1 x.2.2)
theorem relabelV_ok : relabelV.H.ok PP 27 := turns_weak relabel_ok _ _ (fun _ _ => trivial) (fun _ => rfl) (fun _ => rfl)
def dropV := turnsV (Tb × Int × Int) (List Int × Int) (fun x => x.1) (fun x => .ptr 0 0 :: ofArgs [i64, i64] (x.2.1, x.2.2, ())) (fun y => resSV (ofArgs [ints, i64] (y.1, y.2, ()))) (fun x => (((dropR x.1 x.2.1 x.2.2).1, (dropR x.1 x.2.1 x.2.2).2.1), (dropR x.1 x.2.1 x.2.2).2.2))
theorem dropV_ok : dropV.H.ok PP 16 := turns_weak drop_ok _ _ (fun _ h => h) (fun _ => rfl) (fun _ => rfl)
def infoV := looksV (Tb × Int) (Info × Bool) (fun x => x.1) (fun x => [.ptr 0 0, .int .i64 x.2]) (fun y => resSV (ofArgs [infoT, .bool] (y.1, y.2, ()))) (fun x => infoR x.1 x.2)
theorem infoV_ok : infoV.H.ok PP 15 := looks_weak info_ok _ _ (fun _ h => h.ok) (fun _ => rfl)
def listV := looksV (Tb × Int) (List Int × Int) (fun x => x.1) (fun x => [.ptr 0 0, .int .i64 x.2]) (fun y => resSV (ofArgs [ints, i64] (y.1, y.2, ()))) (fun x => listR x.1 x.2)
theorem listV_ok : listV.H.ok PP 26 := looks_weak listT_ok _ _ (fun _ h => h.ok) (fun _ => rfl)
def hasV := looksV (Tb × Int × Int) Bool (fun x => x.1) (fun x => [.ptr 0 0, .int .i64 x.2.1, .int .i64 x.2.2]) (fun y => .bool y) (fun x => hasT x.1 x.2.1 x.2.2)
theorem hasV_ok : hasV.H.ok PP 21 := looks_weak hasT_ok _ _ (fun _ _ => trivial) (fun _ => rfl)
def lenV := looksV Tb Int (fun x => x) (fun _ => [.ptr 0 0]) intR (fun x => x.1.length)
theorem lenV_ok : lenV.H.ok PP 23 := looks_weak lenT_ok _ _ (fun _ _ => trivial) (fun _ => rfl)
/-- A new table that is there. -/
structure NewP (root : Int) (l : Lab) (T : Tb) : Prop where
  good : goodNew root l = true
  eq : T = tb0 root l
structure NoNew (root : Int) (l : Lab) : Prop where
  bad : goodNew root l = false
def newV : PC0 KT where
  α := Int × Lab
  ss := fun x => ofArgs [i64, lab] (x.1, x.2, ())
  pre := fun _ => True
  alts := [{ β := Unit, k := 0, post := fun x _ => NoNew x.1 x.2, r := fun _ _ => .val (.pointer none), outs := fun _ _ => [] },
           { β := Tb, k := 1, post := fun x T => NewP x.1 x.2 T, r := fun _ _ => .ptr 0 0, outs := fun _ T => [T] }]
theorem newV_ok : newV.H.ok PP 11 := by
  intro x hp ρ0 I F w vs hown hI hd
  refine (newT_ok x hp ρ0 I F w vs hown hI hd).mono ?_
  rintro e w' ⟨v, rfl, B, hB, y, ρ1, I', F', hE⟩
  obtain ⟨r, l⟩ := x
  rcases List.mem_cons.1 hB with rfl | hB
  · exact ⟨v, rfl, _, List.mem_cons_self .., (), ρ1, I', F', Alt.Ends.eqv (α := Int × Lab) (α' := Int × Lab) (A := { β := Unit, post := fun x _ => goodNew x.1 x.2 = false, r := fun _ _ => .val (.pointer none), res := fun _ _ => [], kp := [] }) (y := y) (y' := ()) (A' := { β := Unit, post := fun x _ => NoNew x.1 x.2, r := fun _ _ => .val (.pointer none), res := fun _ _ => [], kp := [] }) (x := (r, l)) (x' := (r, l)) ⟨hE.post⟩ rfl rfl rfl hE⟩
  · obtain rfl := List.mem_singleton.1 hB
    exact ⟨v, rfl, _, List.mem_cons_of_mem _ (List.mem_cons_self ..), tb0 r l, ρ1, I', F', Alt.Ends.eqv (α := Int × Lab) (α' := Int × Lab) (A := { β := Unit, post := fun x _ => goodNew x.1 x.2 = true, r := fun _ _ => .ptr 0 0, res := fun x _ => custs KT [tb0 x.1 x.2], kp := [] }) (A' := { β := Tb, post := fun x T => NewP x.1 x.2 T, r := fun _ _ => .ptr 0 0, res := fun _ T => custs KT [T], kp := [] }) (x := (r, l)) (y := y) (x' := (r, l)) (y' := tb0 r l) ⟨hE.post, rfl⟩ rfl rfl rfl hE⟩
theorem NewP.wf {root : Int} {l : Lab} {T : Tb} (h : NewP root l T) : WfT T := h.eq ▸ new_wf h.good
end Go.Proofs.Ythoaelmomocohaa
namespace Go.Proofs.Ythoaelmomocohaa
open Go.Proofs.Ythoaelmomocohaa.Gx
set_option maxRecDepth 100000
set_option linter.unusedVariables false
set_option maxHeartbeats 0
def useTb (C : PC1 KT) (rs : List Nat) (mk : tblT.den → List SV → Option C.α) : Gx.Spec := hspec C.H rs fun ss S => match ss with
  | .ptr j 0 :: rest => match S.res[j]? with
    | some (.cust t _ x) => match decEq t tblT with
      | .isTrue h => match mk (h ▸ x) rest with
        | some a => some ([j], a)
        | none => none
      | _ => none
    | _ => none
  | _ => none
noncomputable def s12 : Sv PP := ⟨12, inl PP e0 Try.f12 c12, ⟨rfl, inl_ok (env_ok ..) rfl mixed rfl rfl⟩⟩
noncomputable def m11 : Sv PP := ⟨11, hspec newV.H [] fun ss S => match asArgs [i64, lab] ss with | some (r, l, ()) => some ([], (r, l)) | none => none, ⟨rfl, hspec_ok newV_ok _ _⟩⟩
noncomputable def m13 : Sv PP := ⟨13, useTb makeV [] fun T ss => match asArgs [i64, i64, i64, i64, lab] ss with | some (a, b, c, d, l, ()) => some (T, a, b, c, d, l) | none => none, ⟨rfl, hspec_ok makeV_ok _ _⟩⟩
noncomputable def m14 : Sv PP := ⟨14, useTb linkV [] fun T ss => match asArgs [i64, i64] ss with | some (a, b, ()) => some (T, a, b) | none => none, ⟨rfl, hspec_ok linkV_ok _ _⟩⟩
noncomputable def m15 : Sv PP := ⟨15, useTb infoV [] fun T ss => match asArgs [i64] ss with | some (a, ()) => some (T, a) | none => none, ⟨rfl, hspec_ok infoV_ok _ _⟩⟩
noncomputable def m16 : Sv PP := ⟨16, useTb dropV [] fun T ss => match asArgs [i64, i64] ss with | some (a, b, ()) => some (T, a, b) | none => none, ⟨rfl, hspec_ok dropV_ok _ _⟩⟩
noncomputable def m18 : Sv PP := ⟨18, useTb shiftV [] fun T ss => match asArgs [i64, i64, i64] ss with | some (a, b, c, ()) => some (T, a, b, c) | none => none, ⟨rfl, hspec_ok shiftV_ok _ _⟩⟩
noncomputable def m21 : Sv PP := ⟨21, useTb hasV [] fun T ss => match asArgs [i64, i64] ss with | some (a, b, ()) => some (T, a, b) | none => none, ⟨rfl, hspec_ok hasV_ok _ _⟩⟩
noncomputable def m23 : Sv PP := ⟨23, useTb lenV [] fun T ss => match asArgs [] ss with | some () => some T | none => none, ⟨rfl, hspec_ok lenV_ok _ _⟩⟩
noncomputable def m26 : Sv PP := ⟨26, useTb listV [] fun T ss => match asArgs [i64] ss with | some (a, ()) => some (T, a) | none => none, ⟨rfl, hspec_ok listV_ok _ _⟩⟩
noncomputable def m27 : Sv PP := ⟨27, useTb relabelV [] fun T ss => match asArgs [i64, lab] ss with | some (a, l, ()) => some (T, a, l) | none => none, ⟨rfl, hspec_ok relabelV_ok _ _⟩⟩
theorem lives_vc : (fvc PP (env PP [] [s12, m11, m13, m14, m16, m23] [] [] []) Try.f10 c10 (ofArgs [] ()) St0 (gives [.bool] (true, ()))) = (
  True ∧ ((1 : Int) = (1 : Int) ∧ ((2 : Int) = (2 : Int) ∧ ([] : List (Int × Int)) = [] ∧ True) ∧ True) ∧ True ∧ (∀ (y : Unit), NoNew (1 : Int) ((2 : Int), []) → false = true ∧ True) ∧ (∀ (y : Tb), NewP (1 : Int) ((2 : 
  Int), []) y → WfT y ∧ (True ∧ (1 : Int) = (1 : Int) ∧ (5 : Int) = (5 : Int) ∧ (1 : Int) = (1 : Int) ∧ (100 : Int) = (100 : Int) ∧ ((2 : Int) = (2 : Int) ∧ ([] : List (Int × Int)) = [] ∧ True) ∧ True) ∧ ((KT.cust = 
  KT.cust ∧ y = makeV.inn (y, (1 : Int), (5 : Int), (1 : Int), (100 : Int), (2 : Int), [])) ∧ True) ∧ (∀ (y_1 : Int × List (Int × (Int × Int × Int × Int × Int × Int × List (Int × Int)) × List Int) × Int), Ran (makeT y (1 
  : Int) (5 : Int) (1 : Int) (100 : Int) ((2 : Int), [])) y_1 → ((y_1.fst != (0 : Int)) = false → WfT y_1.snd ∧ (True ∧ (5 : Int) = (5 : Int) ∧ (7 : Int) = (7 : Int) ∧ (2 : Int) = (2 : Int) ∧ (60 : Int) = (60 : Int) ∧ 
  ((2 : Int) = (2 : Int) ∧ ([] : List (Int × Int)) = [] ∧ True) ∧ True) ∧ ((KT.cust = KT.cust ∧ y_1.snd = makeV.inn (y_1.snd, (5 : Int), (7 : Int), (2 : Int), (60 : Int), (2 : Int), [])) ∧ True) ∧ (∀ (y : Int × List (Int 
  × (Int × Int × Int × Int × Int × Int × List (Int × Int)) × List Int) × Int), Ran (makeT y_1.snd (5 : Int) (7 : Int) (2 : Int) (60 : Int) ((2 : Int), [])) y → ((y.fst != (0 : Int)) = false → WfT y.snd ∧ (True ∧ (5 : 
  Int) = (5 : Int) ∧ (8 : Int) = (8 : Int) ∧ (2 : Int) = (2 : Int) ∧ (41 : Int) = (41 : Int) ∧ ((2 : Int) = (2 : Int) ∧ ([] : List (Int × Int)) = [] ∧ True) ∧ True) ∧ ((KT.cust = KT.cust ∧ y.snd = makeV.inn (y.snd, (5 : 
  Int), (8 : Int), (2 : Int), (41 : Int), (2 : Int), [])) ∧ True) ∧ (∀ (y_2 : Int × List (Int × (Int × Int × Int × Int × Int × Int × List (Int × Int)) × List Int) × Int), Ran (makeT y.snd (5 : Int) (8 : Int) (2 : Int) 
  (41 : Int) ((2 : Int), [])) y_2 → ((y_2.fst != (6 : Int)) = false → WfT y_2.snd ∧ (True ∧ (1 : Int) = (1 : Int) ∧ (7 : Int) = (7 : Int) ∧ True) ∧ ((KT.cust = KT.cust ∧ y_2.snd = linkV.inn (y_2.snd, (1 : Int), (7 : 
  Int))) ∧ True) ∧ (∀ (y : Int × List (Int × (Int × Int × Int × Int × Int × Int × List (Int × Int)) × List Int) × Int), Ran (linkR y_2.snd (1 : Int) (7 : Int)) y → ((y.fst != (0 : Int)) = true → false = true ∧ True) ∧ 
  ((y.fst != (0 : Int)) = false → WfT y.snd ∧ (True ∧ (1 : Int) = (1 : Int) ∧ (5 : Int) = (5 : Int) ∧ True) ∧ ((KT.cust = KT.cust ∧ y.snd = dropV.inn (y.snd, (1 : Int), (5 : Int))) ∧ True) ∧ (∀ (y_3 : (List Int × Int) × 
  List (Int × (Int × Int × Int × Int × Int × Int × List (Int × Int)) × List Int) × Int), Ran (((dropR y.snd (1 : Int) (5 : Int)).fst, (dropR y.snd (1 : Int) (5 : Int)).snd.fst), (dropR y.snd (1 : Int) (5 : Int)).snd.snd) 
  y_3 → WfT y_3.snd ∧ (True ∧ (1 : Int) = (1 : Int) ∧ (7 : Int) = (7 : Int) ∧ True) ∧ ((KT.cust = KT.cust ∧ y_3.snd = dropV.inn (y_3.snd, (1 : Int), (7 : Int))) ∧ True) ∧ (∀ (y : (List Int × Int) × List (Int × (Int × Int 
  × Int × Int × Int × Int × List (Int × Int)) × List Int) × Int), Ran (((dropR y_3.snd (1 : Int) (7 : Int)).fst, (dropR y_3.snd (1 : Int) (7 : Int)).snd.fst), (dropR y_3.snd (1 : Int) (7 : Int)).snd.snd) y → 
  ((y_3.fst.snd == (0 : Int)) = true → y_3.fst.fst.length ≤ maxLen → (((↑y_3.fst.fst.length : Int) == (1 : Int)) = true → ((0 : Int) ≤ (0 : Int) ∧ (0 : Int) < (↑y_3.fst.fst.length : Int)) ∧ ∀ (y_4 : Int), y_3.fst.fst[(0 
  : Nat)]? = some y_4 → ((y_4 == (5 : Int)) = true → ((y.fst.snd == (0 : Int)) = true → y.fst.fst.length ≤ maxLen → (((↑y.fst.fst.length : Int) == (1 : Int)) = true → ((0 : Int) ≤ (0 : Int) ∧ (0 : Int) < 
  (↑y.fst.fst.length : Int)) ∧ ∀ (y_5 : Int), y.fst.fst[(0 : Nat)]? = some y_5 → ((y_5 == (7 : Int)) = true → WfT y.snd ∧ (True ∧ True) ∧ ((KT.cust = KT.cust ∧ y.snd = lenV.inn y.snd) ∧ True) ∧ (∀ (y_6 : Int), Ran 
  (↑y.snd.fst.length : Int) y_6 → (y_6 == (1 : Int)) = true ∧ True) ∧ True) ∧ ((y_5 == (7 : Int)) = !true → false = true ∧ True)) ∧ (((↑y.fst.fst.length : Int) == (1 : Int)) = !true → false = true ∧ True)) ∧ ((y.fst.snd 
  == (0 : Int)) = !true → false = true ∧ True)) ∧ ((y_4 == (5 : Int)) = !true → false = true ∧ True)) ∧ (((↑y_3.fst.fst.length : Int) == (1 : Int)) = !true → false = true ∧ True)) ∧ ((y_3.fst.snd == (0 : Int)) = !true → 
  false = true ∧ True)) ∧ True) ∧ True)) ∧ True) ∧ ((y_2.fst != (6 : Int)) = !false → false = true ∧ True)) ∧ True) ∧ ((y.fst != (0 : Int)) = !false → false = true ∧ True)) ∧ True) ∧ ((y_1.fst != (0 : Int)) = !false → 
  false = true ∧ True)) ∧ True) ∧ True) := by kernel_rfl
end Go.Proofs.Ythoaelmomocohaa
namespace Go.Proofs.Ythoaelmomocohaa
open Go.Proofs.Ythoaelmomocohaa.Gx
set_option maxRecDepth 100000
set_option maxHeartbeats 4000000
set_option linter.unusedSimpArgs false
set_option linter.unusedVariables false
abbrev L1 : Lab := (2, [])
def U1 : Tb := ([(1, ((1, 1, 1099511627776, 100, 1, 2, []), [5])), (5, ((5, 1, 100, 0, 1, 2, []), []))], 1)
def U2 : Tb := ([(1, ((1, 1, 1099511627776, 100, 1, 2, []), [5])), (5, ((5, 1, 100, 60, 1, 2, []), [7])), (7, ((7, 2, 60, 0, 1, 2, []), []))], 1)
def U3 : Tb := ([(1, ((1, 1, 1099511627776, 160, 1, 2, []), [5, 7])), (5, ((5, 1, 100, 60, 1, 2, []), [7])), (7, ((7, 2, 60, 0, 2, 2, []), []))], 1)
def U4 : Tb := ([(1, ((1, 1, 1099511627776, 60, 1, 2, []), [7])), (7, ((7, 2, 60, 0, 1, 2, []), []))], 1)
def U5 : Tb := ([(1, ((1, 1, 1099511627776, 0, 1, 2, []), []))], 1)
theorem g0 : goodNew 1 L1 = true := by rfl
theorem l1 : makeT (tb0 1 L1) 1 5 1 100 L1 = (0, U1) := by rfl
theorem l2 : makeT U1 5 7 2 60 L1 = (0, U2) := by rfl
theorem l3 : makeT U2 5 8 2 41 L1 = (6, U2) := by rfl
theorem l4 : linkR U2 1 7 = (0, U3) := by rfl
theorem l5 : dropR U3 1 5 = ([5], 0, U4) := by rfl
theorem l6 : dropR U4 1 7 = ([7], 0, U5) := by rfl
theorem lives_ok : PSpecOk PP 10 (Q [] [.bool] (fun _ => true) (fun _ => (true, ()))) := by
  refine pspec_Q mixed (fn := Try.f10) (c := c10) rfl rfl _ _ rfl ?_
  rintro ⟨⟩ - -
  refine ⟨env PP [] [s12, m11, m13, m14, m16, m23] [] [] [], env_ok .., rfl, hold lives_vc ?_⟩
  simp only [true_and, and_true]
  refine ⟨fun _ h => (by have := h.bad; rw [g0] at this; cases this), fun T hT => ?_⟩
  have w0 := hT.wf
  obtain rfl := hT.eq
  refine ⟨w0, rfl, fun y1 h1 => ?_⟩
  obtain rfl := h1.eq
  have w1 := makeR_wf w0 1 5 1 100 L1
  rw [l1] at w1 ⊢
  refine ⟨fun _ => ⟨w1, rfl, fun y2 h2 => ?_⟩, fun h => (by simp at h)⟩
  obtain rfl := h2.eq
  have w2 := makeR_wf w1 5 7 2 60 L1
  simp only [l2] at w2 ⊢
  refine ⟨fun _ => ⟨w2, rfl, fun y3 h3 => ?_⟩, fun h => (by simp at h)⟩
  obtain rfl := h3.eq
  simp only [l3]
  refine ⟨fun _ => ⟨w2, rfl, fun y4 h4 => ?_⟩, fun h => (by simp at h)⟩
  obtain rfl := h4.eq
  have w3 := linkR_wf w2 1 7
  simp only [l4] at w3 ⊢
  refine ⟨fun h => (by simp at h), fun _ => ⟨w3, rfl, fun y5 h5 => ?_⟩⟩
  obtain rfl := h5.eq
  have w4 := drop_wf w3 1 5
  simp only [l5] at w4 ⊢
  refine ⟨w4, rfl, fun y6 h6 => ?_⟩
  obtain rfl := h6.eq
  have w5 := drop_wf w4 1 7
  simp only [l6] at w5 ⊢
  simp
  intro _
  refine ⟨w5, rfl, fun y7 h7 => ?_⟩
  rw [h7.eq]; rfl
noncomputable def p10 : Pv PP := ⟨10, _, ⟨rfl, lives_ok⟩⟩
end Go.Proofs.Ythoaelmomocohaa
