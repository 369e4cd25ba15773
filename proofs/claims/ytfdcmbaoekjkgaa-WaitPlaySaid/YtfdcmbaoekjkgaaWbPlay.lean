/- What the functions of the program give, one by one, and the law. -/
import Derived.Test.YtfdcmbaoekjkgaaWaPlay
namespace Go.Proofs.Ytfdcmbaoekjkgaa
open Go.Proofs.Ytfdcmbaoekjkgaa.Gx
set_option maxRecDepth 100000
set_option linter.unusedVariables false
set_option maxHeartbeats 0
theorem KR_rooted : KR.rooted := by
  rintro x v w I F ⟨y, ρ, G, hrel, h0, hlen, -, hh, -, hf⟩
  have h1 := hh 0 _ rfl
  obtain ⟨b, vs, e1, -, -, e4⟩ := h1
  rw [e1] at h0
  cases h0
  exact ⟨b, rfl, (hf b).2 ⟨0, by decide, (e4 b).2 rfl⟩⟩
def noR : Rm := (0, [], [])
def roomAt (os : List (Int × Rm)) (b : Nat) : Rm := (lookL os (b : Int)).getD noR
/-- Where the rooms are. -/
def findFc : Nat → List Res → Option (Nat × List (Int × Rm))
  | _, [] => none
  | i, r :: l => match r with
    | .cust t _ x => match decEq t (famT rmT) with
      | .isTrue h => some (i, (Eq.rec (motive := fun u _ => u.den) x h : (famT rmT).den))
      | _ => findFc (i + 1) l
    | _ => findFc (i + 1) l
def useFm (C : PC1 KR) (args : C.α → List SV) (mk : Rm → List SV → Option C.α) : Gx.Spec := hspec (C.F 59 args) [] fun ss S => match ss with
  | .adr _ (some b) :: rest => match findFc 0 S.res with
    | some (j, os) => match mk (roomAt os b) rest with
      | some a => some ([j], ((a, os, b) : C.α × List (Int × Rm) × Nat))
      | none => none
    | none => none
  | _ => none
def useFmL (C : PC1 KR) (args : C.α → List SV) (mk : Rm → List SV → Option C.α) : Gx.Spec := hspec (C.FL 59 args) [] fun ss S => match ss with
  | .adr _ (some b) :: rest => match findFc 0 S.res with
    | some (j, os) => match mk (roomAt os b) rest with
      | some a => some ([j], ((a, os, b) : C.α × List (Int × Rm) × Nat))
      | none => none
    | none => none
  | _ => none
def useFmC (C : PC1 KR) (args : C.α → List SV) (mk : Rm → List SV → Option C.α) : Gx.Spec := hspec (C.FC 59 args) [] fun ss S => match ss with
  | .adr _ (some b) :: rest => match findFc 0 S.res with
    | some (j, os) => match mk (roomAt os b) rest with
      | some a => some ([j], ((a, os, b) : C.α × List (Int × Rm) × Nat))
      | none => none
    | none => none
  | _ => none
def gWait := waitC.F 59 (fun x => [.int .i64 x.2.1, .int .i64 x.2.2.1, .int .i64 x.2.2.2])
def gForget := forgetC.F 59 (fun x => [.int .i64 x.2])
def gLen := lenC.FL 59 (fun _ => [])
def gList := listC.FL 59 (fun x => [.int .i64 x.2.1, .int .i64 x.2.2])
def gWake := wakeC.F 59 (fun x => [.int .i64 x.2.1, .int .i64 x.2.2])
def gPost := postC.F 59 (fun x => [.int .i64 x.2.1, .int .i64 x.2.2])
def gTake := takeC.F 59 (fun x => [.int .i64 x.2])
def gAlerts := alertsC.FL 59 (fun x => [.int .i64 x.2])
def gClose := closeC.F 59 (fun x => [.int .i64 x.2])
def gWhere := whereC.FL 59 (fun x => [.int .i64 x.2])
def gCopy := copyC.FC 59 (fun _ => [])
def gNew := newC.F 59 (fun _ => []) noR
theorem gWait_ok : gWait.ok PP 10 := waitC.fam_ok KR_rooted (fun _ => rfl) (fun _ => rfl) (fun A hA x y => by obtain rfl := List.mem_singleton.1 hA; exact ⟨_, rfl⟩) (fun A hA x y => by obtain rfl := List.mem_singleton.1 hA; rfl) wait_ok
theorem gForget_ok : gForget.ok PP 11 := forgetC.fam_ok KR_rooted (fun _ => rfl) (fun _ => rfl) (fun A hA x y => by obtain rfl := List.mem_singleton.1 hA; exact ⟨_, rfl⟩) (fun A hA x y => by obtain rfl := List.mem_singleton.1 hA; rfl) forget_ok
theorem gLen_ok : gLen.ok PP 12 := lenC.famL_ok KR_rooted (fun _ => rfl) (fun _ => rfl) (fun A hA x y => by obtain rfl := List.mem_singleton.1 hA; rfl) (fun A hA x y => by obtain rfl := List.mem_singleton.1 hA; rfl) len_ok
theorem gList_ok : gList.ok PP 13 := listC.famL_ok KR_rooted (fun _ => rfl) (fun _ => rfl) (fun A hA x y => by obtain rfl := List.mem_singleton.1 hA; rfl) (fun A hA x y => by obtain rfl := List.mem_singleton.1 hA; rfl) list_ok
theorem gWake_ok : gWake.ok PP 14 := wakeC.fam_ok KR_rooted (fun _ => rfl) (fun _ => rfl) (fun A hA x y => by obtain rfl := List.mem_singleton.1 hA; exact ⟨_, rfl⟩) (fun A hA x y => by obtain rfl := List.mem_singleton.1 hA; rfl) wake_ok
theorem gPost_ok : gPost.ok PP 16 := postC.fam_ok KR_rooted (fun _ => rfl) (fun _ => rfl) (fun A hA x y => by obtain rfl := List.mem_singleton.1 hA; exact ⟨_, rfl⟩) (fun A hA x y => by obtain rfl := List.mem_singleton.1 hA; rfl) post_ok
theorem gTake_ok : gTake.ok PP 17 := takeC.fam_ok KR_rooted (fun _ => rfl) (fun _ => rfl) (fun A hA x y => by obtain rfl := List.mem_singleton.1 hA; exact ⟨_, rfl⟩) (fun A hA x y => by obtain rfl := List.mem_singleton.1 hA; rfl) take_ok
theorem gAlerts_ok : gAlerts.ok PP 18 := alertsC.famL_ok KR_rooted (fun _ => rfl) (fun _ => rfl) (fun A hA x y => by obtain rfl := List.mem_singleton.1 hA; rfl) (fun A hA x y => by obtain rfl := List.mem_singleton.1 hA; rfl) alerts_ok
theorem gClose_ok : gClose.ok PP 20 := closeC.fam_ok KR_rooted (fun _ => rfl) (fun _ => rfl) (fun A hA x y => by obtain rfl := List.mem_singleton.1 hA; exact ⟨_, rfl⟩) (fun A hA x y => by obtain rfl := List.mem_singleton.1 hA; rfl) close_ok
theorem gWhere_ok : gWhere.ok PP 21 := whereC.famL_ok KR_rooted (fun _ => rfl) (fun _ => rfl) (fun A hA x y => by obtain rfl := List.mem_singleton.1 hA; rfl) (fun A hA x y => by obtain rfl := List.mem_singleton.1 hA; rfl) where_ok
theorem gCopy_ok : gCopy.ok PP 22 := copyC.famC_ok KR_rooted (fun _ => rfl) (fun _ => rfl) (fun A hA x y => by obtain rfl := List.mem_singleton.1 hA; exact ⟨_, _, rfl⟩) (fun A hA x y => by obtain rfl := List.mem_singleton.1 hA; rfl) copy_ok
theorem gNew_ok : gNew.ok PP 9 := newC.fam_ok KR_rooted (fun _ => rfl) (fun A hA x y => by obtain rfl := List.mem_singleton.1 hA; exact ⟨_, rfl⟩) (fun A hA x y => by obtain rfl := List.mem_singleton.1 hA; rfl) new_ok
noncomputable def g9 : Sv PP := ⟨9, hspec gNew [] fun ss S => match ss with | [] => some ([], ()) | _ => none, ⟨rfl, hspec_ok gNew_ok _ _⟩⟩
noncomputable def g10 : Sv PP := ⟨10, useFm waitC (fun x => [.int .i64 x.2.1, .int .i64 x.2.2.1, .int .i64 x.2.2.2]) fun R ss => match ss with | [.int .i64 t, .int .i64 s, .int .i64 o] => some (R, t, s, o) | _ => none, ⟨rfl, hspec_ok gWait_ok _ _⟩⟩
noncomputable def g11 : Sv PP := ⟨11, useFm forgetC (fun x => [.int .i64 x.2]) fun R ss => match ss with | [.int .i64 t] => some (R, t) | _ => none, ⟨rfl, hspec_ok gForget_ok _ _⟩⟩
noncomputable def g12 : Sv PP := ⟨12, useFmL lenC (fun _ => []) fun R ss => match ss with | [] => some R | _ => none, ⟨rfl, hspec_ok gLen_ok _ _⟩⟩
noncomputable def g13 : Sv PP := ⟨13, useFmL listC (fun x => [.int .i64 x.2.1, .int .i64 x.2.2]) fun R ss => match ss with | [.int .i64 s, .int .i64 o] => some (R, s, o) | _ => none, ⟨rfl, hspec_ok gList_ok _ _⟩⟩
noncomputable def g14 : Sv PP := ⟨14, useFm wakeC (fun x => [.int .i64 x.2.1, .int .i64 x.2.2]) fun R ss => match ss with | [.int .i64 s, .int .i64 o] => some (R, s, o) | _ => none, ⟨rfl, hspec_ok gWake_ok _ _⟩⟩
noncomputable def g16 : Sv PP := ⟨16, useFm postC (fun x => [.int .i64 x.2.1, .int .i64 x.2.2]) fun R ss => match ss with | [.int .i64 t, .int .i64 c] => some (R, t, c) | _ => none, ⟨rfl, hspec_ok gPost_ok _ _⟩⟩
noncomputable def g17 : Sv PP := ⟨17, useFm takeC (fun x => [.int .i64 x.2]) fun R ss => match ss with | [.int .i64 t] => some (R, t) | _ => none, ⟨rfl, hspec_ok gTake_ok _ _⟩⟩
noncomputable def g18 : Sv PP := ⟨18, useFmL alertsC (fun x => [.int .i64 x.2]) fun R ss => match ss with | [.int .i64 t] => some (R, t) | _ => none, ⟨rfl, hspec_ok gAlerts_ok _ _⟩⟩
noncomputable def g20 : Sv PP := ⟨20, useFm closeC (fun x => [.int .i64 x.2]) fun R ss => match ss with | [.int .i64 t] => some (R, t) | _ => none, ⟨rfl, hspec_ok gClose_ok _ _⟩⟩
noncomputable def g21 : Sv PP := ⟨21, useFmL whereC (fun x => [.int .i64 x.2]) fun R ss => match ss with | [.int .i64 t] => some (R, t) | _ => none, ⟨rfl, hspec_ok gWhere_ok _ _⟩⟩
noncomputable def g22 : Sv PP := ⟨22, useFmC copyC (fun _ => []) fun R ss => match ss with | [] => some R | _ => none, ⟨rfl, hspec_ok gCopy_ok _ _⟩⟩
/-! ### The document's rooms by their addresses -/
abbrev OH := List (Nat × (Nat × List refT.den))
def bkAt (oh : OH) (h : Nat) : Bk := (famGet oh h 0).getD ([], [])
structure AtH (oh : OH) (h : Nat) : Prop where
  get : famGet oh h 0 = some (bkAt oh h)
  few : fewB (bkAt oh h)
def looksA (α : Type) (args : α → List SV) (r : α → Bk → SV) : HC where
  α := OH × Nat × α
  m := 1
  ss := fun x => .adr 50 (some x.2.1) :: args x.2.2
  Rs := fun x => [.fam 50 refT x.1]
  pre := fun x => AtH x.1 x.2.1
  alts := [{ β := Unit, post := fun _ _ => True, r := fun x _ => r x.2.2 (bkAt x.1 x.2.1), res := fun x _ => [.fam 50 refT x.1], kp := [true] }]
def findOh : Nat → List Res → Option (Nat × OH)
  | _, [] => none
  | i, r :: l => match r with
    | .fam _ t x => match decEq t refT with
      | .isTrue h => some (i, (Eq.rec (motive := fun u _ => List (Nat × (Nat × List u.den))) x h : OH))
      | _ => findOh (i + 1) l
    | _ => findOh (i + 1) l
def useA {α : Type} (args : α → List SV) (r : α → Bk → SV) (mk : List SV → Option α) : Gx.Spec := hspec (looksA α args r) [] fun ss S => match ss with
  | .adr _ (some b) :: rest => match findOh 0 S.res, mk rest with
    | some (j, oh), some a => some ([j], ((oh, b, a) : OH × Nat × α))
    | _, _ => none
  | _ => none
def atA : HC := looksA Int (fun t => [.int .i64 t]) (fun t W => .int .i64 (atB W.1 t))
def ofA : HC := looksA Int (fun t => [.int .i64 t]) (fun t W => .rs i64 (ofB W.2 t))
def listA : HC := looksA (Int × Int) (fun x => [.int .i64 x.1, .int .i64 x.2]) (fun x W => .rs i64 (pickB W.1 (atP x.1 x.2)))
theorem atA_vc (oh : OH) (h : Nat) (x : Int) : (fvc PP (eL atLoop) Try.f41 c41 (atA.ss (oh, h, x)) (St1 (atA.Rs (oh, h, x))) (fun r S => altsOk 1 (oh, h, x) r S atA.alts)) = (
  (some h).isSome = true ∧ (some h).isSome = true ∧ (∃ (y : List (Int × Int × Int) × List (Int × Int × Int)), famGet oh ((some h).getD (0 : Nat)) (0 : Nat) = some y) ∧ ∀ (y : List (Int × Int × Int) × List (Int × Int × 
  Int)), famGet oh ((some h).getD (0 : Nat)) (0 : Nat) = some y → y.fst.length ≤ maxLen → ∃ (x0 : Nat), (x0 ≤ y.fst.length ∧ hasB (List.take x0 y.fst) x = false) ∧ (((True ∧ True) ∧ True) ∧ ((0 : Int) = (↑x0 : Int) ∧ 
  (↑y.fst.length : Int) = (↑y.fst.length : Int) ∧ y.fst = y.fst ∧ some h = some h ∧ x = x ∧ True) ∧ oh = oh ∧ True) ∧ ∀ (x_1 : Nat), x_1 ≤ y.fst.length ∧ hasB (List.take x_1 y.fst) x = false → (decide ((↑x_1 : Int) < 
  (↑y.fst.length : Int)) = true → ((0 : Int) ≤ (↑x_1 : Int) ∧ (↑x_1 : Int) < (↑y.fst.length : Int)) ∧ ∀ (y_1 : Int × Int × Int), y.fst[(↑x_1 : Int).toNat]? = some y_1 → ((y_1.fst == x) = true → ∃ (y : Unit), True ∧ (↑x_1 
  : Int) = atB (bkAt oh h).fst x ∧ (oh = oh ∧ True) ∧ (True ∧ True) ∧ True) ∧ ((y_1.fst == x) = false → ∃ (x' : Nat), (x' ≤ y.fst.length ∧ hasB (List.take x' y.fst) x = false) ∧ y.fst.length - x' < y.fst.length - x_1 ∧ 
  ((True ∧ True) ∧ True) ∧ (IntKind.i64.wrap ((↑x_1 : Int) + (1 : Int)) = (↑x' : Int) ∧ (↑y.fst.length : Int) = (↑y.fst.length : Int) ∧ y.fst = y.fst ∧ some h = some h ∧ x = x ∧ True) ∧ oh = oh ∧ True)) ∧ (decide ((↑x_1 
  : Int) < (↑y.fst.length : Int)) = false → ∃ (y : Unit), True ∧ (-1 : Int) = atB (bkAt oh h).fst x ∧ (oh = oh ∧ True) ∧ (True ∧ True) ∧ True)) := by kernel_rfl
theorem ofA_vc (oh : OH) (h : Nat) (x : Int) : (fvc PP (eL ofLoop) Try.f43 c43 (ofA.ss (oh, h, x)) (St1 (ofA.Rs (oh, h, x))) (fun r S => Fin.frz.T r S fun r S => altsOk 1 (oh, h, x) r S ofA.alts)) = (
  (some h).isSome = true ∧ (some h).isSome = true ∧ (∃ (y : List (Int × Int × Int) × List (Int × Int × Int)), famGet oh ((some h).getD (0 : Nat)) (0 : Nat) = some y) ∧ ∀ (y : List (Int × Int × Int) × List (Int × Int × 
  Int)), famGet oh ((some h).getD (0 : Nat)) (0 : Nat) = some y → y.snd.length ≤ maxLen → ∃ (x0 : Nat), x0.le y.snd.length ∧ (((True ∧ True) ∧ True) ∧ ((0 : Int) = (↑x0 : Int) ∧ True ∧ (↑y.snd.length : Int) = 
  (↑y.snd.length : Int) ∧ y.snd = y.snd ∧ SV.val (Value.slice none (0 : Nat) (0 : Nat)) = SV.val (Value.slice none (0 : Nat) (0 : Nat)) ∧ some h = some h ∧ x = x ∧ True) ∧ oh = oh ∧ [] = ofB (List.take x0 y.snd) x ∧ 
  True) ∧ ∀ (x_1 : Nat), x_1.le y.snd.length → (decide ((↑x_1 : Int) < (↑y.snd.length : Int)) = true → ((0 : Int) ≤ (↑x_1 : Int) ∧ (↑x_1 : Int) < (↑y.snd.length : Int)) ∧ ∀ (y_1 : Int × Int × Int), y.snd[(↑x_1 : 
  Int).toNat]? = some y_1 → ((y_1.fst == x) = true → ((ofB (List.take x_1 y.snd) x).length + [y_1.snd.snd].length) * (8 : Nat) ≤ (140737488355328 : Nat) ∧ ∃ (x' : Nat), x'.le y.snd.length ∧ y.snd.length - x' < 
  y.snd.length - x_1 ∧ ((True ∧ True) ∧ True) ∧ (IntKind.i64.wrap ((↑x_1 : Int) + (1 : Int)) = (↑x' : Int) ∧ True ∧ (↑y.snd.length : Int) = (↑y.snd.length : Int) ∧ y.snd = y.snd ∧ SV.val (Value.slice none (0 : Nat) (0 : 
  Nat)) = SV.val (Value.slice none (0 : Nat) (0 : Nat)) ∧ some h = some h ∧ x = x ∧ True) ∧ oh = oh ∧ ofB (List.take x_1 y.snd) x ++ [y_1.snd.snd] = ofB (List.take x' y.snd) x ∧ True) ∧ ((y_1.fst == x) = false → ∃ (x' : 
  Nat), x'.le y.snd.length ∧ y.snd.length - x' < y.snd.length - x_1 ∧ ((True ∧ True) ∧ True) ∧ (IntKind.i64.wrap ((↑x_1 : Int) + (1 : Int)) = (↑x' : Int) ∧ True ∧ (↑y.snd.length : Int) = (↑y.snd.length : Int) ∧ y.snd = 
  y.snd ∧ SV.val (Value.slice none (0 : Nat) (0 : Nat)) = SV.val (Value.slice none (0 : Nat) (0 : Nat)) ∧ some h = some h ∧ x = x ∧ True) ∧ oh = oh ∧ ofB (List.take x_1 y.snd) x = ofB (List.take x' y.snd) x ∧ True)) ∧ 
  (decide ((↑x_1 : Int) < (↑y.snd.length : Int)) = false → ∃ (y_1 : Unit), True ∧ ofB (List.take x_1 y.snd) x = ofB (bkAt oh h).snd x ∧ (oh = oh ∧ True) ∧ (True ∧ True) ∧ True)) := by kernel_rfl
theorem listA_vc (oh : OH) (h : Nat) (x y : Int) : (fvc PP (eL bListLoop) Try.f42 c42 (listA.ss (oh, h, x, y)) (St1 (listA.Rs (oh, h, x, y))) (fun r S => Fin.frz.T r S fun r S => altsOk 1 (oh, h, x, y) r S listA.alts)) = (
  (some h).isSome = true ∧ (some h).isSome = true ∧ (∃ (y : List (Int × Int × Int) × List (Int × Int × Int)), famGet oh ((some h).getD (0 : Nat)) (0 : Nat) = some y) ∧ ∀ (y_1 : List (Int × Int × Int) × List (Int × Int × 
  Int)), famGet oh ((some h).getD (0 : Nat)) (0 : Nat) = some y_1 → y_1.fst.length ≤ maxLen → ∃ (x0 : Nat), x0.le y_1.fst.length ∧ (((True ∧ True) ∧ True) ∧ ((0 : Int) = (↑x0 : Int) ∧ True ∧ (↑y_1.fst.length : Int) = 
  (↑y_1.fst.length : Int) ∧ y_1.fst = y_1.fst ∧ SV.val (Value.slice none (0 : Nat) (0 : Nat)) = SV.val (Value.slice none (0 : Nat) (0 : Nat)) ∧ some h = some h ∧ x = x ∧ y = y ∧ True) ∧ oh = oh ∧ [] = pickB (List.take x0 
  y_1.fst) (atP x y) ∧ True) ∧ ∀ (x_1 : Nat), x_1.le y_1.fst.length → (decide ((↑x_1 : Int) < (↑y_1.fst.length : Int)) = true → ((0 : Int) ≤ (↑x_1 : Int) ∧ (↑x_1 : Int) < (↑y_1.fst.length : Int)) ∧ ∀ (y_2 : Int × Int × 
  Int), y_1.fst[(↑x_1 : Int).toNat]? = some y_2 → ∃ (v : Bool), (((y_2.snd.fst == x) = true → (y_2.snd.snd == y) = v) ∧ ((y_2.snd.fst == x) = !true → false = v)) ∧ (v = true → ((pickB (List.take x_1 y_1.fst) (atP x 
  y)).length + [y_2.fst].length) * (8 : Nat) ≤ (140737488355328 : Nat) ∧ ∃ (x' : Nat), x'.le y_1.fst.length ∧ y_1.fst.length - x' < y_1.fst.length - x_1 ∧ ((True ∧ True) ∧ True) ∧ (IntKind.i64.wrap ((↑x_1 : Int) + (1 : 
  Int)) = (↑x' : Int) ∧ True ∧ (↑y_1.fst.length : Int) = (↑y_1.fst.length : Int) ∧ y_1.fst = y_1.fst ∧ SV.val (Value.slice none (0 : Nat) (0 : Nat)) = SV.val (Value.slice none (0 : Nat) (0 : Nat)) ∧ some h = some h ∧ x = 
  x ∧ y = y ∧ True) ∧ oh = oh ∧ pickB (List.take x_1 y_1.fst) (atP x y) ++ [y_2.fst] = pickB (List.take x' y_1.fst) (atP x y) ∧ True) ∧ (v = false → ∃ (x' : Nat), x'.le y_1.fst.length ∧ y_1.fst.length - x' < 
  y_1.fst.length - x_1 ∧ ((True ∧ True) ∧ True) ∧ (IntKind.i64.wrap ((↑x_1 : Int) + (1 : Int)) = (↑x' : Int) ∧ True ∧ (↑y_1.fst.length : Int) = (↑y_1.fst.length : Int) ∧ y_1.fst = y_1.fst ∧ SV.val (Value.slice none (0 : 
  Nat) (0 : Nat)) = SV.val (Value.slice none (0 : Nat) (0 : Nat)) ∧ some h = some h ∧ x = x ∧ y = y ∧ True) ∧ oh = oh ∧ pickB (List.take x_1 y_1.fst) (atP x y) = pickB (List.take x' y_1.fst) (atP x y) ∧ True)) ∧ (decide 
  ((↑x_1 : Int) < (↑y_1.fst.length : Int)) = false → ∃ (y_2 : Unit), True ∧ pickB (List.take x_1 y_1.fst) (atP x y) = pickB (bkAt oh h).fst (atP x y) ∧ (oh = oh ∧ True) ∧ (True ∧ True) ∧ True)) := by kernel_rfl
/-! ### The document's rooms copied -/
def rcopyC : HC where
  α := Bk × OH
  m := 2
  ss := fun _ => [.ptr 0 0]
  Rs := fun x => bkRs x.1 ++ [.fam 50 refT x.2]
  pre := fun x => fewB x.1
  alts := [{ β := Nat, post := fun x h => lookN x.2 h = none, r := fun _ h => .adr 50 (some h), res := fun x h => bkRs x.1 ++ [.fam 50 refT ((h, (1, [x.1])) :: x.2)], kp := [true, true] }]
/-- What is given is taken in. -/
def finAd : Fin := ⟨fun r S k => match r with
  | .ptr q 0 => frzC q 4 [r] S fun rs S => match rs, S.res[q]?, S.res[(1 : Nat)]? with
    | [.ptr q' 0], some (.blk T' cs), some (.fam T2 t os) => match Nat.beq q' q, Nat.beq T2 T', implode t cs with
      | true, true, some (y, []) => ∀ b, lookN os b = none → k (.adr T2 (some b)) (S.adB q 1 T2 t b ((b, (1, [y])) :: os))
      | _, _, _ => False
    | _, _, _ => False
  | _ => False, fun h hk => by
    split at hk
    · rename_i q
      obtain ⟨ss, S', h1, h2⟩ := frzC_ok q 4 h hk
      split at h2
      · rename_i q' T' cs T2 t os hq hi
        split at h2
        · rename_i y b0 b1 him
          obtain rfl : q' = q := Nat.eq_of_beq_eq_true b0
          obtain rfl : T2 = T' := Nat.eq_of_beq_eq_true b1
          obtain ⟨b, g1, g2⟩ := h1.adB hq hi him
          refine ⟨_, _, ?_, h2 b g1⟩
          simp only [SV.subPL, SV.subP, beq_self_eq_true, cond_true, adF] at g2
          exact g2
        · exact h2.elim
      · exact h2.elim
    · exact hk.elim⟩
theorem rcopy_vc (W : Bk) (oh : OH) : (fvc PP e0 Try.f23 c23 (rcopyC.ss (W, oh)) (St1 (rcopyC.Rs (W, oh))) (fun r S => finAd.T r S fun r S => altsOk 2 (W, oh) r S rcopyC.alts)) = (
  W.fst.length * (24 : Nat) ≤ (140737488355328 : Nat) ∧ (W.fst = [] → W.snd.length * (24 : Nat) ≤ (140737488355328 : Nat) ∧ (W.snd = [] → ∀ (b : Nat), lookN oh b = none → ∃ (y : Nat), lookN oh y = none ∧ some b = some y 
  ∧ ((W.fst = W.fst ∧ W.snd = W.snd ∧ True) ∧ (b, (1 : Nat), [([], [])]) :: oh = (y, (1 : Nat), [W]) :: oh ∧ True) ∧ (True ∧ True ∧ True) ∧ True) ∧ (W.snd ≠ [] → ∀ (b : Nat), lookN oh b = none → ∃ (y : Nat), lookN oh y = 
  none ∧ some b = some y ∧ ((W.fst = W.fst ∧ W.snd = W.snd ∧ True) ∧ (b, (1 : Nat), [([], W.snd)]) :: oh = (y, (1 : Nat), [W]) :: oh ∧ True) ∧ (True ∧ True ∧ True) ∧ True)) ∧ (W.fst ≠ [] → W.snd.length * (24 : Nat) ≤ 
  (140737488355328 : Nat) ∧ (W.snd = [] → ∀ (b : Nat), lookN oh b = none → ∃ (y : Nat), lookN oh y = none ∧ some b = some y ∧ ((W.fst = W.fst ∧ W.snd = W.snd ∧ True) ∧ (b, (1 : Nat), [(W.fst, [])]) :: oh = (y, (1 : Nat), 
  [W]) :: oh ∧ True) ∧ (True ∧ True ∧ True) ∧ True) ∧ (W.snd ≠ [] → ∀ (b : Nat), lookN oh b = none → ∃ (y : Nat), lookN oh y = none ∧ some b = some y ∧ ((W.fst = W.fst ∧ W.snd = W.snd ∧ True) ∧ (b, (1 : Nat), [(W.fst, 
  W.snd)]) :: oh = (y, (1 : Nat), [W]) :: oh ∧ True) ∧ (True ∧ True ∧ True) ∧ True))) := by kernel_rfl
end Go.Proofs.Ytfdcmbaoekjkgaa
namespace Go.Proofs.Ytfdcmbaoekjkgaa
open Go.Proofs.Ytfdcmbaoekjkgaa.Gx
set_option maxRecDepth 100000
set_option maxHeartbeats 4000000
set_option linter.unusedSimpArgs false
set_option linter.unusedVariables false
theorem useA_get {oh : OH} {h : Nat} {G : Bk → Prop} (ha : AtH oh h) (hg : G (bkAt oh h)) : (∃ y : Bk, famGet oh ((some h).getD 0) 0 = some y) ∧ ∀ y : Bk, famGet oh ((some h).getD 0) 0 = some y → G y :=
  ⟨⟨_, ha.get⟩, fun y hy => by
    have : famGet oh h 0 = some y := hy
    rw [ha.get] at this; cases this; exact hg⟩
theorem atA_ok : atA.ok PP 41 := by
  refine hc_of mixed (fn := Try.f41) (c := c41) rfl rfl atA (fun x => rfl) ?_
  rintro ⟨oh, h, x⟩ hp
  have hp : AtH oh h := hp
  refine ⟨eL atLoop, env_ok .., rfl, hold (atA_vc oh h x) ?_⟩
  simp only [true_and, and_true]
  refine ⟨rfl, rfl, useA_get hp ?_⟩
  generalize bkAt oh h = W
  intro hA
  refine ⟨0, ⟨Nat.zero_le _, rfl⟩, rfl, ?_⟩
  rintro i ⟨hi, hn⟩
  refine ⟨fun hlt => ?_, fun hge => ⟨(), ?_⟩⟩
  · have hlt : i < W.1.length := by simpa using hlt
    refine ⟨⟨by omega, by omega⟩, fun y hy => ⟨fun he => ⟨(), (atB_some (get_at hy) hn he).symm⟩, fun he => ⟨i + 1, ⟨hlt, ?_⟩, by omega, wrap_succ hlt hA⟩⟩⟩
    rw [hasB_snoc (get_at hy), hn, he]; rfl
  · have : i = W.1.length := by have : ¬ i < W.1.length := by simpa using hge
                                omega
    subst this
    rw [List.take_length] at hn
    exact (atB_none hn).symm
theorem ofA_ok : ofA.ok PP 43 := by
  refine hc_ofP Fin.frz mixed (fn := Try.f43) (c := c43) rfl rfl ofA (fun x => rfl) ?_
  rintro ⟨oh, h, x⟩ hp
  have hp : AtH oh h := hp
  refine ⟨eL ofLoop, env_ok .., rfl, hold (ofA_vc oh h x) ?_⟩
  simp only [true_and, and_true]
  refine ⟨rfl, rfl, useA_get hp ?_⟩
  have hf := hp.few
  generalize bkAt oh h = W at *
  intro hA
  refine ⟨0, Nat.zero_le _, ⟨rfl, rfl⟩, ?_⟩
  intro i hi
  refine ⟨fun hlt => ?_, fun hge => ⟨(), ?_⟩⟩
  · have hlt : i < W.2.length := by simpa using hlt
    refine ⟨⟨by omega, by omega⟩, fun y hy => ⟨fun he => ⟨?_, i + 1, hlt, by omega, wrap_succ hlt hA, ?_⟩, fun he => ⟨i + 1, hlt, by omega, wrap_succ hlt hA, ?_⟩⟩⟩
    · have := ofB_len (W.2.take i) x
      have := take_len W.2 i
      have := hf.2
      simp only [List.length_singleton]; omega
    · rw [ofB_snoc (get_at hy), if_pos he]
    · rw [ofB_snoc (get_at hy), if_neg (by rw [he]; simp)]
  · have : i = W.2.length := by
      have h2 : ¬ i < W.2.length := by simpa using hge
      have : i ≤ W.2.length := hi
      omega
    subst this
    rw [List.take_length]
theorem listA_ok : listA.ok PP 42 := by
  refine hc_ofP Fin.frz mixed (fn := Try.f42) (c := c42) rfl rfl listA (fun x => rfl) ?_
  rintro ⟨oh, h, x, z⟩ hp
  have hp : AtH oh h := hp
  refine ⟨eL bListLoop, env_ok .., rfl, hold (listA_vc oh h x z) ?_⟩
  simp only [true_and, and_true]
  refine ⟨rfl, rfl, useA_get hp ?_⟩
  have hf := hp.few
  generalize bkAt oh h = W at *
  intro hA
  refine ⟨0, Nat.zero_le _, ⟨rfl, rfl⟩, ?_⟩
  intro i hi
  refine ⟨fun hlt => ?_, fun hge => ⟨(), ?_⟩⟩
  · have hlt : i < W.1.length := by simpa using hlt
    refine ⟨⟨by omega, by omega⟩, fun y hy => ⟨atP x z y.2, ⟨fun he => by unfold atP; rw [he]; rfl, fun he => by unfold atP; rw [he]; rfl⟩, fun he => ⟨?_, i + 1, hlt, by omega, wrap_succ hlt hA, ?_⟩, fun he => ⟨i + 1, hlt, by omega, wrap_succ hlt hA, ?_⟩⟩⟩
    · have := pick_len (W.1.take i) (atP x z)
      have := take_len W.1 i
      have := hf.1
      simp only [List.length_singleton]; omega
    · rw [pick_snoc (get_at hy), if_pos he]
    · rw [pick_snoc (get_at hy), if_neg (by rw [he]; simp)]
  · have : i = W.1.length := by
      have h2 : ¬ i < W.1.length := by simpa using hge
      have : i ≤ W.1.length := hi
      omega
    subst this
    rw [List.take_length]
noncomputable def a41 : Sv PP := ⟨41, useA (fun t => [.int .i64 t]) (fun t W => .int .i64 (atB W.1 t)) fun ss => match ss with | [.int .i64 t] => some t | _ => none, ⟨rfl, hspec_ok atA_ok _ _⟩⟩
noncomputable def a42 : Sv PP := ⟨42, useA (fun x => [.int .i64 x.1, .int .i64 x.2]) (fun x W => .rs i64 (pickB W.1 (atP x.1 x.2))) fun ss => match ss with | [.int .i64 s, .int .i64 o] => some (s, o) | _ => none, ⟨rfl, hspec_ok listA_ok _ _⟩⟩
noncomputable def a43 : Sv PP := ⟨43, useA (fun t => [.int .i64 t]) (fun t W => .rs i64 (ofB W.2 t)) fun ss => match ss with | [.int .i64 t] => some t | _ => none, ⟨rfl, hspec_ok ofA_ok _ _⟩⟩
end Go.Proofs.Ytfdcmbaoekjkgaa
namespace Go.Proofs.Ytfdcmbaoekjkgaa
open Go.Proofs.Ytfdcmbaoekjkgaa.Gx
set_option linter.unusedSimpArgs false
set_option linter.unusedVariables false
abbrev opT : Ty := .pair i64 (.pair i64 (.pair i64 (.pair i64 i64)))
/-- Each waits once. -/
structure Wait1 (R : Rm) (n : Nat) : Prop where
  nd : ((tks R).map (·.1)).Nodup
  few : (tks R).length ≤ n
def allW (R : Rm) : List Int := (tks R).map (·.1)
def without (l g : List Int) : List Int := l.filter fun x => !inL g x
def goneOf (t : Nat) (S : St) : Option (List Int) := match getT S.fr.tm t with
  | .row g => match S.res[g]? with
    | some (.row _ (.int .i64) xs) => some xs
    | _ => none
  | .rs (.int .i64) ys => some ys
  | .val (.slice none 0 0) => some []
  | _ => none
def ansLoop (sc : List opT.den) : List (Nat × (St → Option LoopSpec)) :=
  [(6, fun (S : St) => match getT S.fr.tm 3, getT S.fr.tm 4 with
    | .ptr j 0, .row k => some { α := Nat × Rm × List Int, inv := fun x => (x.1 ≤ sc.length ∧ x.1 ≤ 200) ∧ Wait1 x.2.1 x.1 ∧ x.2.2 = allW x.2.1, ov := fun x => [(26, .int .i64 (x.1 : Int)), (4, .row k)], rov := fun x => [(j, .cust rmT KR.cust x.2.1), (k, .row 0 i64 x.2.2)], meas := fun x => sc.length - x.1, mv := [(.slot 4, k)] }
    | _, _ => none),
   (30, fun (S : St) => match goneOf 103 S, getT S.fr.tm 4 with
    | some g, .row k => match S.res[k]? with
      | some (.row _ (.int .i64) ws) => some { α := Nat, inv := fun i => i ≤ g.length, ov := fun i => [(105, .int .i64 (i : Int)), (4, .row k)], rov := fun i => [(k, .row 0 i64 (without ws (g.take i)))], meas := fun i => g.length - i, mv := [(.slot 4, k)], nil := [(.slot 103, 3, i64)] }
      | _ => none
    | _, _ => none),
   (36, fun (S : St) => match getT S.fr.tm 114, getT S.fr.tm 11 with
    | .row j, .int .i64 t => match S.res[j]? with
      | some (.row _ (.int .i64) xs) => match getT S.fr.tm 12 with
        | .row k => some { α := Nat, inv := fun i => i ≤ xs.length, ov := fun i => [(116, .int .i64 (i : Int)), (12, .row k)], rov := fun i => [(k, .row 0 i64 ((xs.take i).filter (· != t)))], meas := fun i => xs.length - i }
        | _ => none
      | _ => none
    | _, _ => none),
   (46, fun (S : St) => match getT S.fr.tm 135 with
    | .row j => match S.res[j]? with
      | some (.row _ (.int .i64) xs) => some { α := Nat, inv := fun i => i ≤ xs.length, ov := fun i => [(137, .int .i64 (i : Int))], rov := fun _ => [], meas := fun i => xs.length - i }
      | _ => none
    | _ => none)]
end Go.Proofs.Ytfdcmbaoekjkgaa
namespace Go.Proofs.Ytfdcmbaoekjkgaa
open Go.Proofs.Ytfdcmbaoekjkgaa.Gx
set_option maxRecDepth 100000
set_option linter.unusedSimpArgs false
set_option linter.unusedVariables false
theorem flt_yes {l : List Int} {i : Nat} {y t : Int} (h : l[i]? = some y) (hp : (y != t) = true) : (l.take i).filter (fun x => x != t) ++ [y] = (l.take (i + 1)).filter fun x => x != t := by
  rw [take_snoc h, List.filter_append, List.filter_cons, if_pos hp]; rfl
theorem flt_no {l : List Int} {i : Nat} {y t : Int} (h : l[i]? = some y) (hp : (y != t) = false) : (l.take i).filter (fun x => x != t) = (l.take (i + 1)).filter fun x => x != t := by
  rw [take_snoc h, List.filter_append, List.filter_cons, if_neg (by rw [hp]; simp)]; simp
theorem inL_mem {l : List Int} {x : Int} : inL l x = true ↔ x ∈ l := by
  simp [inL, List.any_eq_true]
theorem without_nil (ws : List Int) : without ws [] = ws := List.filter_eq_self.2 fun x _ => by simp [inL]
theorem without_step {ws g : List Int} {i : Nat} {t : Int} (h : g[i]? = some t) : (without ws (g.take i)).filter (fun x => x != t) = without ws (g.take (i + 1)) := by
  unfold without
  rw [take_snoc h, List.filter_filter]
  refine List.filter_congr fun x _ => ?_
  have : inL (g.take i ++ [t]) x = (inL (g.take i) x || t == x) := by simp [inL, List.any_append]
  rw [this]
  have e : (t == x) = (x == t) := by
    by_cases e : t = x
    · subst e; rfl
    · rw [beq_eq_false_iff_ne.2 e, beq_eq_false_iff_ne.2 (fun h => e h.symm)]
  rw [e]
  cases inL (g.take i) x <;> cases h2 : x == t <;> simp [bne, h2]
theorem without_in {ws g : List Int} (hsub : ∀ x ∈ g, x ∈ ws) (hnd : g.Nodup) {i : Nat} {t : Int} (h : g[i]? = some t) : (!inL (without ws (g.take i)) t) = false := by
  have hm : t ∈ without ws (g.take i) := by
    unfold without
    refine List.mem_filter.2 ⟨hsub t (List.mem_of_getElem? h), ?_⟩
    have h1 : (g.take (i + 1)).Nodup := List.Nodup.sublist (List.take_sublist _ _) hnd
    rw [take_snoc h, List.nodup_append] at h1
    have : t ∉ g.take i := fun hx => h1.2.2 t hx t (by simp) rfl
    cases hi : inL (g.take i) t with
    | true => exact absurd (inL_mem.1 hi) this
    | false => rfl
  rw [inL_mem.2 hm]; rfl
theorem there_is {R : Rm} {t : Int} (h : t ∈ allW R) : (lookL (tks R) t).isSome = true := by
  cases hl : lookL (tks R) t with
  | none => exact absurd h ((lookL_none _).1 hl)
  | some _ => rfl
theorem look_in {R : Rm} {t : Int} (h : (lookL (tks R) t).isSome = true) : t ∈ allW R := by
  cases hl : lookL (tks R) t with
  | none => rw [hl] at h; cases h
  | some v => exact List.mem_map_of_mem (lookL_mem hl)
theorem there_in {R : Rm} {t : Int} (h : t ∈ allW R) {l : List Int} (hl : Row (tks R) (keysAt (tks R) (atP (placeOf R t).1 (placeOf R t).2)) l) : (!inL l t) = false := by
  have hm : t ∈ keysAt (tks R) (atP (placeOf R t).1 (placeOf R t).2) := by
    refine List.mem_filter.2 ⟨h, ?_⟩
    have := there_is h
    unfold tkOf placeOf
    cases hh : lookL (tks R) t with
    | none => rw [hh] at this; cases this
    | some v => simp [atP]
  rw [inL_mem.2 (hl.perm.symm.subset hm)]; rfl
theorem all_gone {ts : List (Int × Tk)} (hn : (ts.map (·.1)).Nodup) (g : List Int) : (delAll ts g).map (·.1) = without (ts.map (·.1)) g := by
  rw [delAll_filter _ _ hn]
  unfold without
  rw [List.filter_map]
  congr 1
  refine List.filter_congr fun x _ => ?_
  simp only [Function.comp]
  congr 1
  cases h : inL g x.1 with
  | true => simpa using inL_mem.1 h
  | false => simpa using fun hm => by rw [inL_mem.2 hm] at h; cases h
theorem delL_absent {α : Type} : {l : List (Int × α)} → {k : Int} → lookL l k = none → delL l k = l
  | [], _, _ => rfl
  | x :: l, k, h => by
    unfold lookL at h
    split at h
    · cases h
    · rename_i hne
      simp only [delL, if_neg hne, delL_absent h]
theorem post_two (R : Rm) (t c : Int) : ((postR R t c).2.1 = 0 → (postR R t c).1 = true → (lookL (tks R) t).isSome = true ∧ tks (postR R t c).2.2 = delAll (tks R) [t]) ∧ ((decide ((postR R t c).2.1 = 0) && (postR R t c).1) = false → tks (postR R t c).2.2 = tks R) := by
  unfold postR
  split
  · exact ⟨fun h => by simp at h, fun _ => rfl⟩
  · split
    · exact ⟨fun h => by simp at h, fun _ => rfl⟩
    · refine ⟨fun _ h => ⟨h, rfl⟩, fun h => ?_⟩
      show delL (tks R) t = tks R
      refine delL_absent ?_
      simpa using h
end Go.Proofs.Ytfdcmbaoekjkgaa
namespace Go.Proofs.Ytfdcmbaoekjkgaa
open Go.Proofs.Ytfdcmbaoekjkgaa.Gx
set_option maxRecDepth 100000
set_option maxHeartbeats 4000000
set_option linter.unusedSimpArgs false
set_option linter.unusedVariables false
def oneOf (x : Int × Tk) : One := (x.1, x.2.1.1, x.2.1.2)
/-- Both have the same. -/
structure PR (R : Rm) (W : Bk) (n : Nat) : Prop where
  came : (tks R).Pairwise fun a b => a.2.2 < b.2.2
  keys : ((tks R).map (·.1)).Nodup
  le : ∀ x ∈ tks R, x.2.2 ≤ last R
  l0 : 0 ≤ last R
  ln : last R ≤ n
  A : W.1 = (tks R).map oneOf
  akeys : ((als R).map (·.1)).Nodup
  al : ∀ t, alOf R t = ofB W.2 t
  eight : ∀ t, (ofB W.2 t).length ≤ 8
  la : W.1.length ≤ n
  lb : W.2.length ≤ n
theorem PR.zero : PR (0, [], []) ([], []) 0 := ⟨by simp [tks], by simp [tks], by simp [tks], by simp [last], by simp [last], rfl, by simp [als], fun t => rfl, fun t => by simp [ofB], by simp, by simp⟩
variable {R : Rm} {W : Bk} {n : Nat}
theorem PR.mono (h : PR R W n) {m : Nat} (hm : n ≤ m) : PR R W m := ⟨h.came, h.keys, h.le, h.l0, by have := h.ln; omega, h.A, h.akeys, h.al, h.eight, by have := h.la; omega, by have := h.lb; omega⟩
theorem has_iff : (ts : List (Int × Tk)) → (t : Int) → hasB (ts.map oneOf) t = (lookL ts t).isSome
  | [], t => rfl
  | x :: ts, t => by
    have := has_iff ts t
    simp only [hasB, List.map_cons, List.any_cons, lookL] at this ⊢
    by_cases e : x.1 = t
    · rw [if_pos e]; simp [oneOf, e]
    · rw [if_neg e, ← this]; simp [oneOf, e]
theorem atB_at (A : List One) (t : Int) : decide (atB A t ≥ 0) = hasB A t ∧ (hasB A t = true → 0 ≤ atB A t ∧ atB A t < A.length ∧ ∃ y, A[(atB A t).toNat]? = some y ∧ y.1 = t) := by
  cases hb : hasB A t with
  | false =>
    have : A.findIdx? (fun x => x.1 == t) = none := by
      rw [List.findIdx?_eq_none_iff]
      have h2 : ∀ z ∈ A, ¬ (z.1 == t) = true := by simpa [hasB, List.any_eq_false] using hb
      exact fun z hz => by simpa using h2 z hz
    refine ⟨?_, fun h => by cases h⟩
    unfold atB; rw [this]; rfl
  | true =>
    cases hf : A.findIdx? (fun x => x.1 == t) with
    | none =>
      rw [List.findIdx?_eq_none_iff] at hf
      have h2 : ∃ z ∈ A, (z.1 == t) = true := by simpa [hasB, List.any_eq_true] using hb
      obtain ⟨z, hz, he⟩ := h2
      rw [hf z hz] at he; cases he
    | some i =>
      have e : atB A t = (i : Int) := by unfold atB; rw [hf]
      rw [List.findIdx?_eq_some_iff_getElem] at hf
      obtain ⟨hi, he, -⟩ := hf
      refine ⟨by rw [e]; simp, fun _ => ⟨by omega, by omega, A[i], ?_, by simpa using he⟩⟩
      rw [e]; exact List.getElem?_eq_getElem hi
theorem PR.has (h : PR R W n) (t : Int) : hasB W.1 t = (lookL (tks R) t).isSome := by rw [h.A]; exact has_iff _ t
theorem PR.ge (h : PR R W n) (t : Int) : decide (atB W.1 t ≥ 0) = (lookL (tks R) t).isSome := (atB_at W.1 t).1.trans (h.has t)
/-- Where a thread waits. -/
theorem PR.place (h : PR R W n) {t : Int} (hs : (lookL (tks R) t).isSome = true) : 0 ≤ atB W.1 t ∧ atB W.1 t < W.1.length ∧ ∃ y, W.1[(atB W.1 t).toNat]? = some y ∧ y.2 = placeOf R t := by
  obtain ⟨h1, h2, y, h3, h4⟩ := (atB_at W.1 t).2 ((h.has t).trans hs)
  refine ⟨h1, h2, y, h3, ?_⟩
  have hm := List.mem_of_getElem? h3
  rw [h.A] at hm
  obtain ⟨x, hx, rfl⟩ := List.mem_map.1 hm
  have : lookL (tks R) t = some x.2 := by rw [← h4]; exact lookL_some h.keys hx
  unfold placeOf
  rw [this]; rfl
theorem placeOf_none {t : Int} (hs : (lookL (tks R) t).isSome = false) : placeOf R t = (0, 0) := by
  unfold placeOf
  cases hl : lookL (tks R) t with
  | none => rfl
  | some v => rw [hl] at hs; cases hs
theorem PR.len (h : PR R W n) : (tks R).length = W.1.length := by rw [h.A, List.length_map]
theorem PR.pick (h : PR R W n) (p : Int × Int → Bool) : pickB W.1 p = keysAt (tks R) p := by
  rw [keysAt_eq h.keys, h.A]
  unfold pickB
  rw [List.filter_map, List.map_map]
  rfl
theorem PR.row (h : PR R W n) {p : Int × Int → Bool} {ys : List Int} (hy : Row (tks R) (keysAt (tks R) p) ys) : ys = pickB W.1 p := by
  rw [h.pick p]; exact row_eq hy (keysAt_lt h.keys h.came p)
theorem PR.short (h : PR R W n) : shortA R := fun x hx => by
  have h1 : alOf R x.1 = x.2 := by unfold alOf; rw [lookL_some h.akeys hx]; rfl
  have := h.eight x.1
  rw [← h.al, h1] at this
  omega
theorem PR.fewT (h : PR R W n) (hn : n ≤ 100000) : fewT R := by
  have := h.len
  have := h.la
  show (tks R).length ≤ 1000000000000
  omega
theorem PR.fewR (h : PR R W n) (hn : n ≤ 100000) : fewR W := ⟨Nat.le_trans h.la hn, Nat.le_trans h.lb hn⟩
theorem PR.fewB (h : PR R W n) (hn : n ≤ 100000) : fewB W := ⟨Nat.le_trans h.la (by omega), Nat.le_trans h.lb (by omega)⟩
/-! ### The calls -/
theorem PR.wait (h : PR R W n) (hn : n ≤ 1000) (t s o : Int) : (waitR R t s o).1 = (waitB W t s o).1 ∧ PR (waitR R t s o).2 (waitB W t s o).2 (n + 1) := by
  have e1 : decide (o ≥ 4096) = decide (o > 4095) := by by_cases h : o ≥ 4096 <;> simp [h] <;> omega
  unfold waitR waitB
  rw [e1]
  by_cases c1 : (!idB t || !idB s || decide (o < 0) || decide (o > 4095)) = true
  · rw [if_pos c1, if_pos c1]; exact ⟨rfl, h.mono (Nat.le_succ n)⟩
  rw [if_neg c1, if_neg c1]
  have hg := h.ge t
  by_cases c2 : (lookL (tks R) t).isSome = true
  · rw [if_pos c2, if_pos (by rw [c2] at hg; simpa using hg)]; exact ⟨rfl, h.mono (Nat.le_succ n)⟩
  rw [if_neg c2, if_neg (show ¬ (atB W.1 t ≥ 0) by rw [Bool.eq_false_iff.2 c2] at hg; simpa using hg), ← h.al t]
  by_cases c3 : alOf R t ≠ []
  · rw [if_pos c3, if_pos c3]; exact ⟨rfl, h.mono (Nat.le_succ n)⟩
  rw [if_neg c3, if_neg c3]
  have hno : lookL (tks R) t = none := by
    cases hl : lookL (tks R) t with
    | none => rfl
    | some v => rw [hl] at c2; exact absurd rfl c2
  have hl0 := h.l0
  have hln := h.ln
  have hw : IntKind.i64.wrap (last R + 1) = last R + 1 := wrap64 (by omega) (by omega)
  refine ⟨rfl, ?_⟩
  rw [insL_new hno, hw]
  refine ⟨?_, ?_, fun x hx => ?_, by show 0 ≤ last R + 1; omega, by show last R + 1 ≤ ((n + 1 : Nat) : Int); omega, ?_, h.akeys, h.al, h.eight, ?_, by have := h.lb; show W.2.length ≤ n + 1; omega⟩
  · show (tks R ++ [(t, ((s, o), last R + 1))]).Pairwise _
    rw [List.pairwise_append]
    exact ⟨h.came, by simp, fun a ha b hb => by
      obtain rfl := List.mem_singleton.1 hb
      have := h.le a ha
      show a.2.2 < last R + 1
      omega⟩
  · show ((tks R ++ [(t, ((s, o), last R + 1))]).map (·.1)).Nodup
    rw [List.map_append, List.nodup_append]
    exact ⟨h.keys, by simp, fun a ha b hb => by
      obtain rfl := List.mem_singleton.1 hb
      rintro rfl
      exact (lookL_none _).1 hno ha⟩
  · show x.2.2 ≤ last R + 1
    rcases List.mem_append.1 (show x ∈ tks R ++ [(t, ((s, o), last R + 1))] from hx) with hx | hx
    · have := h.le x hx; omega
    · obtain rfl := List.mem_singleton.1 hx; exact Int.le_refl _
  · show W.1 ++ [(t, s, o)] = (tks R ++ [(t, ((s, o), last R + 1))]).map oneOf
    rw [List.map_append, h.A]; rfl
  · show (W.1 ++ [(t, s, o)]).length ≤ n + 1
    have := h.la
    simp; omega
theorem dropB_flt2 {A : List One} (hn : (A.map (·.1)).Nodup) (t : Int) : dropB A t = A.filter fun x => x.1 != t := by
  induction A with
  | nil => rfl
  | cons x A ih =>
    simp only [List.map_cons, List.nodup_cons] at hn
    simp only [dropB]
    by_cases e : x.1 = t
    · rw [if_pos e, List.filter_cons, if_neg (by simp [e])]
      refine (List.filter_eq_self.2 fun y hy => ?_).symm
      have : y.1 ≠ t := fun e2 => hn.1 (by rw [e, ← e2]; exact List.mem_map_of_mem hy)
      simpa using this
    · rw [if_neg e, List.filter_cons, if_pos (by simpa using e), ih hn.2]
theorem ones_keys (ts : List (Int × Tk)) : (ts.map oneOf).map (·.1) = ts.map (·.1) := by rw [List.map_map]; rfl
/-- One waits no more. -/
theorem PR.del (h : PR R W n) (t : Int) : dropB W.1 t = (delL (tks R) t).map oneOf := by
  rw [h.A, dropB_flt2 (by rw [ones_keys]; exact h.keys), delL_filter _ _ h.keys, List.filter_map]; rfl
theorem PR.delAll (h : PR R W n) (l : List Int) : dropsB W.1 l = (Go.Proofs.Ytfdcmbaoekjkgaa.delAll (tks R) l).map oneOf := by
  have key : ∀ (l : List Int) (ts : List (Int × Tk)), (ts.map (·.1)).Nodup → dropsB (ts.map oneOf) l = (Go.Proofs.Ytfdcmbaoekjkgaa.delAll ts l).map oneOf := by
    intro l
    induction l with
    | nil => intros; rfl
    | cons t l ih =>
      intro ts hn
      show dropsB (dropB (ts.map oneOf) t) l = (Go.Proofs.Ytfdcmbaoekjkgaa.delAll (delL ts t) l).map oneOf
      rw [dropB_flt2 (by rw [ones_keys]; exact hn), ← ih _ (List.Nodup.sublist ((delL_sub ts t).map _) hn), delL_filter _ _ hn, List.filter_map]; rfl
  rw [h.A]; exact key l _ h.keys
/-- Fewer wait. -/
theorem PR.sub (h : PR R W n) {ts : List (Int × Tk)} (hs : ts.Sublist (tks R)) : PR (last R, ts, als R) (ts.map oneOf, W.2) n :=
  ⟨h.came.sublist hs, List.Nodup.sublist (hs.map _) h.keys, fun x hx => h.le x (hs.subset hx), h.l0, h.ln, rfl, h.akeys, h.al, h.eight, by have := hs.length_le; have := h.len; have := h.la; show (ts.map oneOf).length ≤ n; rw [List.length_map]; omega, h.lb⟩
theorem delAll_subl (l : List Int) : ∀ ts, (Go.Proofs.Ytfdcmbaoekjkgaa.delAll ts l).Sublist ts := by
  induction l with
  | nil => exact fun ts => List.Sublist.refl _
  | cons x l ih => exact fun ts => (ih (delL ts x)).trans (delL_sub ts x)
theorem dropB_len0 : (A : List One) → (x : Int) → (dropB A x).length ≤ A.length
  | [], _ => Nat.le_refl _
  | a :: A, x => by
    have := dropB_len0 A x
    simp only [dropB]
    split
    · simp
    · simp only [List.length_cons]; omega
theorem PR.wake (h : PR R W n) {p : Int × Int → Bool} {ys : List Int} (hy : Row (tks R) (keysAt (tks R) p) ys) : ys = (wakeB W p).1 ∧ PR (last R, Go.Proofs.Ytfdcmbaoekjkgaa.delAll (tks R) ys, als R) (wakeB W p).2 n := by
  have e := h.row hy
  refine ⟨e, ?_⟩
  have h1 := h.sub (delAll_subl ys (tks R))
  rw [← h.delAll] at h1
  unfold wakeB
  rw [← e]; exact h1
theorem ofB_app (B C : List One) (t : Int) : ofB (B ++ C) t = ofB B t ++ ofB C t := by unfold ofB; rw [List.filter_append, List.map_append]
theorem ofB_flt (B : List One) (t u : Int) : ofB (B.filter fun x => x.1 != t) u = if u = t then [] else ofB B u := by
  unfold ofB
  rw [List.filter_filter]
  by_cases e : u = t
  · subst e
    rw [if_pos rfl]
    have : B.filter (fun x => x.1 == u && x.1 != u) = [] := by
      rw [List.filter_eq_nil_iff]
      intro x _
      by_cases e : x.1 = u <;> simp [e]
    rw [this]; rfl
  · rw [if_neg e]
    congr 1
    refine List.filter_congr fun x _ => ?_
    by_cases e2 : x.1 = u
    · have : x.1 ≠ t := fun e3 => e (e2.symm.trans e3)
      simp [e2, this]; exact e
    · simp [e2]
theorem ofB_drop : (B : List One) → (t u : Int) → ofB (dropB B t) u = if u = t then (ofB B u).drop 1 else ofB B u
  | [], t, u => by simp [dropB, ofB]
  | x :: B, t, u => by
    have ih := ofB_drop B t u
    simp only [dropB]
    by_cases e : x.1 = t
    · rw [if_pos e]
      by_cases e2 : u = t
      · rw [if_pos e2]
        have : ofB (x :: B) u = x.2.2 :: ofB B u := by unfold ofB; rw [List.filter_cons, if_pos (by simp [e, e2])]; rfl
        rw [this]; rfl
      · rw [if_neg e2]
        unfold ofB; rw [List.filter_cons, if_neg (by simp; exact fun e3 => e2 (e3.symm.trans e))]
    · rw [if_neg e]
      by_cases e3 : x.1 = u
      · have e2 : ¬ u = t := fun e2 => e (e3.trans e2)
        rw [if_neg e2] at ih ⊢
        have h1 : ∀ C : List One, ofB (x :: C) u = x.2.2 :: ofB C u := fun C => by unfold ofB; rw [List.filter_cons, if_pos (by simp [e3])]; rfl
        rw [h1, h1, ih]
      · have h1 : ∀ C : List One, ofB (x :: C) u = ofB C u := fun C => by unfold ofB; rw [List.filter_cons, if_neg (by simpa using e3)]
        rw [h1, h1, ih]
theorem al_look (R : Rm) (l : List (Int × List Int)) (k : Int) (v : List Int) (la : Int) (ts : List (Int × Tk)) (u : Int) : alOf (la, ts, insL l k v) u = if u = k then v else (lookL l u).getD [] := by
  unfold alOf als
  simp only
  rw [lookL_insL]
  split <;> rfl
theorem al_del {l : List (Int × List Int)} (hn : (l.map (·.1)).Nodup) (k : Int) (la : Int) (ts : List (Int × Tk)) (u : Int) : alOf (la, ts, delL l k) u = if u = k then [] else (lookL l u).getD [] := by
  unfold alOf als
  simp only
  rw [lookL_delL _ _ hn]
  split <;> rfl
theorem PR.post (h : PR R W n) (t c : Int) : (postR R t c).1 = (postB W t c).1 ∧ (postR R t c).2.1 = (postB W t c).2.1 ∧ PR (postR R t c).2.2 (postB W t c).2.2 (n + 1) := by
  unfold postR postB
  by_cases c1 : (!idB t || decide (c < 0) || decide (c > 255)) = true
  · rw [if_pos c1, if_pos c1]; exact ⟨rfl, rfl, h.mono (Nat.le_succ n)⟩
  rw [if_neg c1, if_neg c1]
  have h8 := h.eight t
  have hal := h.al t
  by_cases c2 : (alOf R t).length ≥ 8
  · rw [if_pos c2, if_pos (by rw [hal] at c2; omega)]; exact ⟨rfl, rfl, h.mono (Nat.le_succ n)⟩
  rw [if_neg c2, if_neg (by rw [hal] at c2; omega)]
  refine ⟨(h.ge t).symm, rfl, ?_⟩
  have h1 := h.sub (delL_sub (tks R) t)
  rw [← h.del] at h1
  have hlb := h.lb
  refine ⟨h1.came, h1.keys, h1.le, h.l0, by have := h.ln; show last R ≤ ((n + 1 : Nat) : Int); omega, h1.A, ?_, fun u => ?_, fun u => ?_, by have := h1.la; show (dropB W.1 t).length ≤ n + 1; exact Nat.le_succ_of_le this, by show (W.2 ++ [(t, 0, c)]).length ≤ n + 1; simp; omega⟩
  · exact nodup_insL _ _ _ h.akeys
  · rw [al_look R]
    show _ = ofB (W.2 ++ [(t, 0, c)]) u
    rw [ofB_app]
    by_cases e : u = t
    · subst e
      rw [if_pos rfl, hal]
      simp [ofB]
    · rw [if_neg e]
      have h2 : ofB [(t, 0, c)] u = [] := by unfold ofB; simp; exact fun e2 => e e2.symm
      rw [h2, List.append_nil]
      exact h.al u
  · show (ofB (W.2 ++ [(t, 0, c)]) u).length ≤ 8
    rw [ofB_app]
    by_cases e : u = t
    · subst e
      rw [hal] at c2
      have h2 : ofB [(u, (0 : Int), c)] u = [c] := by simp [ofB]
      rw [h2, List.length_append]
      simp only [List.length_singleton]; omega
    · have h2 : ofB [(t, 0, c)] u = [] := by unfold ofB; simp; exact fun e2 => e e2.symm
      rw [h2, List.append_nil]
      exact h.eight u
theorem PR.take (h : PR R W n) (t : Int) : (takeR R t).1 = (takeB W t).1 ∧ (takeR R t).2.1 = (takeB W t).2.1 ∧ PR (takeR R t).2.2 (takeB W t).2.2 n := by
  have hal := h.al t
  unfold takeR takeB
  cases he : alOf R t with
  | nil =>
    rw [← hal, he]
    refine ⟨rfl, rfl, h.came, h.keys, h.le, h.l0, h.ln, h.A, List.Nodup.sublist ((delL_sub (als R) t).map _) h.akeys, fun u => ?_, h.eight, h.la, h.lb⟩
    rw [al_del h.akeys]
    by_cases e : u = t
    · subst e; rw [if_pos rfl, ← h.al, he]
    · rw [if_neg e]; exact h.al u
  | cons c l =>
    rw [← hal, he]
    refine ⟨rfl, rfl, h.came, h.keys, h.le, h.l0, h.ln, h.A, ?_, fun u => ?_, fun u => ?_, h.la, by have := dropB_len0 W.2 t; have := h.lb; show (dropB W.2 t).length ≤ n; omega⟩
    · show ((if l = [] then delL (als R) t else insL (als R) t l).map (·.1)).Nodup
      split
      · exact List.Nodup.sublist ((delL_sub (als R) t).map _) h.akeys
      · exact nodup_insL _ _ _ h.akeys
    · show alOf (last R, tks R, if l = [] then delL (als R) t else insL (als R) t l) u = ofB (dropB W.2 t) u
      rw [ofB_drop, ← h.al u]
      by_cases e : u = t
      · subst e
        rw [if_pos rfl, he]
        split
        · rename_i e2; rw [al_del h.akeys, if_pos rfl, e2]; rfl
        · rw [al_look R, if_pos rfl]; rfl
      · rw [if_neg e]
        split
        · rw [al_del h.akeys, if_neg e]; rfl
        · rw [al_look R, if_neg e]; rfl
    · show (ofB (dropB W.2 t) u).length ≤ 8
      rw [ofB_drop]
      have := h.eight u
      split
      · rw [List.length_drop]; omega
      · exact this
theorem PR.forget (h : PR R W n) (t : Int) : (lookL (tks R) t).isSome = (forgetB W t).1 ∧ PR (forgetR R t) (forgetB W t).2 n := by
  refine ⟨(h.ge t).symm, ?_⟩
  have h1 := h.sub (delL_sub (tks R) t)
  rw [← h.del] at h1
  refine ⟨h1.came, h1.keys, h1.le, h.l0, h.ln, h1.A, List.Nodup.sublist ((delL_sub (als R) t).map _) h.akeys, fun u => ?_, fun u => ?_, h1.la, Nat.le_trans (List.length_filter_le _ _) h.lb⟩
  · show alOf (last R, delL (tks R) t, delL (als R) t) u = ofB (W.2.filter fun x => x.1 != t) u
    rw [al_del h.akeys, ofB_flt]
    split
    · rfl
    · exact h.al u
  · show (ofB (W.2.filter fun x => x.1 != t) u).length ≤ 8
    rw [ofB_flt]
    have := h.eight u
    split
    · simp
    · exact this
/-- A copy is the same. -/
theorem PR.copy (h : PR R W n) {a : List (Int × List Int)} (ha : a.Perm (als R)) : PR (last R, tks R, a) W n := by
  have hk : (a.map (·.1)).Nodup := (ha.map _).nodup_iff.2 h.akeys
  refine ⟨h.came, h.keys, h.le, h.l0, h.ln, h.A, hk, fun u => ?_, h.eight, h.la, h.lb⟩
  rw [← h.al u]
  show (lookL a u).getD [] = (lookL (als R) u).getD []
  congr 1
  cases h1 : lookL (als R) u with
  | none =>
    rw [lookL_none] at h1 ⊢
    exact fun hm => h1 ((ha.map _).mem_iff.1 hm)
  | some v => exact lookL_some hk (ha.mem_iff.2 (lookL_mem h1))
end Go.Proofs.Ytfdcmbaoekjkgaa
namespace Go.Proofs.Ytfdcmbaoekjkgaa
open Go.Proofs.Ytfdcmbaoekjkgaa.Gx
set_option maxRecDepth 100000
set_option maxHeartbeats 4000000
set_option linter.unusedVariables false
theorem rcopy_ok : rcopyC.ok PP 23 := by
  refine hc_ofP finAd mixed (fn := Try.f23) (c := c23) rfl rfl rcopyC (fun x => rfl) ?_
  rintro ⟨W, oh⟩ hp
  have hp : fewB W := hp
  refine ⟨e0, env_ok .., rfl, hold (rcopy_vc W oh) ?_⟩
  simp only [true_and, and_true]
  have h1 := hp.1
  have h2 := hp.2
  refine ⟨by omega, fun e1 => ⟨by omega, fun e2 b hb => ⟨b, hb, rfl, ?_⟩, fun e2 b hb => ⟨b, hb, rfl, ?_⟩⟩, fun e1 => ⟨by omega, fun e2 b hb => ⟨b, hb, rfl, ?_⟩, fun e2 b hb => ⟨b, hb, rfl, rfl⟩⟩⟩
  · rw [show W = ([], []) from Prod.ext e1 e2]
  · rw [show W = ([], W.2) from Prod.ext e1 rfl]
  · rw [show W = (W.1, []) from Prod.ext rfl e2]
noncomputable def m23 : Sv PP := ⟨23, preB (hspec rcopyC [] fun ss S => match ss with
  | [.ptr j 0] => match S.res[j]?, findFam 50 0 S.res with
    | some (.blk _ [a, b]), some f => match asTy (.slice oneT) a, asTy (.slice oneT) b, S.res[f]? with
      | some A, some B, some (.fam _ t oh) => match decEq t refT with
        | .isTrue h => some ([j, f], ((A, B), (Eq.rec (motive := fun u _ => List (Nat × (Nat × List u.den))) oh h : OH)))
        | _ => none
      | _, _, _ => none
    | _, _ => none
  | _ => none), ⟨rfl, preB_ok (hspec_ok rcopy_ok _ _)⟩⟩
/-- The rooms are the second resource here. -/
def finB2 : Fin := ⟨fun r S k => frzC 1 4 [r] S fun rs S => match rs with
  | [r] => k r S
  | _ => False, fun h hk => by
    obtain ⟨ss, S', h1, h2⟩ := frzC_ok 1 4 h hk
    split at h2
    · exact ⟨_, S', h1, h2⟩
    · exact h2.elim⟩
abbrev Op5 := Int × Int × Int × Int × Int
/-- Both have the same; the rooms are known by the address b. -/
structure At (os : List (Int × Rm)) (b : Nat) (W : Bk) (n : Nat) : Prop where
  few : n ≤ 1000
  look : lookL os (b : Int) = some (roomAt os b)
  pr : PR (roomAt os b) W n
structure StX where
  os : List (Int × Rm)
  b : Nat
  W : Bk
  o : Op5
  n : Nat
def stepH : HC where
  α := StX
  m := 2
  ss := fun x => [.adr 59 (some x.b), .ptr 1 0] ++ ofArgs [opT] (x.o, ())
  Rs := fun x => [.cust (famT rmT) KR.fam x.os] ++ bkRs x.W
  pre := fun x => At x.os x.b x.W x.n
  alts := [{ β := Rm × Bk, post := fun x y => PR y.1 y.2 (x.n + 1), r := fun _ _ => .bool true, res := fun x y => [.cust (famT rmT) KR.fam (insL x.os (x.b : Int) y.1)] ++ bkRs y.2, kp := [true, true] }]
theorem step_vc (x : StX) : (fvc PP (env PP [p15] [g10, g11, g14, g16, g17, g20, m35, m36, m37, m38, m39, m40] [] [] []) Try.f24 c24 (stepH.ss x) (St1 (stepH.Rs x)) (fun r S => finB2.T r S fun r S => altsOk 2 x r S stepH.alts)) = (
  ((x.o.fst == (1 : Int)) = true → True ∧ (True ∧ lookL x.os (↑x.b : Int) = some (waitC.inn (roomAt x.os x.b, x.o.snd.fst, x.o.snd.snd.fst, x.o.snd.snd.snd.fst))) ∧ (some x.b = some x.b ∧ x.o.snd.fst = x.o.snd.fst ∧ 
  x.o.snd.snd.fst = x.o.snd.snd.fst ∧ x.o.snd.snd.snd.fst = x.o.snd.snd.snd.fst ∧ True) ∧ ((KR.fam = KR.fam ∧ x.os = x.os) ∧ True) ∧ (∀ (y : Unit), True → (True ∧ True ∧ x.o.snd.fst = x.o.snd.fst ∧ True ∧ x.o.snd.snd.fst 
  = x.o.snd.snd.fst ∧ True ∧ x.o.snd.snd.snd.fst = x.o.snd.snd.snd.fst ∧ True) ∧ (x.W.fst.length ≤ (100000 : Nat) ∧ x.W.snd.length ≤ (100000 : Nat)) ∧ (True ∧ x.o.snd.fst = x.o.snd.fst ∧ x.o.snd.snd.fst = x.o.snd.snd.fst 
  ∧ x.o.snd.snd.snd.fst = x.o.snd.snd.snd.fst ∧ True) ∧ ((x.W.fst = x.W.fst ∧ x.W.snd = x.W.snd ∧ True) ∧ True) ∧ (∀ (y : Unit), True → True ∧ ∃ (y : Rm × Bk), PR y.fst y.snd (x.n + (1 : Nat)) ∧ ((waitR (roomAt x.os x.b) 
  x.o.snd.fst x.o.snd.snd.fst x.o.snd.snd.snd.fst).fst == (waitB (x.W.fst, x.W.snd) x.o.snd.fst x.o.snd.snd.fst x.o.snd.snd.snd.fst).fst) = true ∧ ((KR.fam = KR.fam ∧ insL x.os (↑x.b : Int) ([(waitR (roomAt x.os x.b) 
  x.o.snd.fst x.o.snd.snd.fst x.o.snd.snd.snd.fst).snd][(0 : Nat)]?.getD (waitC.inn (roomAt x.os x.b, x.o.snd.fst, x.o.snd.snd.fst, x.o.snd.snd.snd.fst))) = insL x.os (↑x.b : Int) y.fst) ∧ ((waitB (x.W.fst, x.W.snd) 
  x.o.snd.fst x.o.snd.snd.fst x.o.snd.snd.snd.fst).snd.fst = y.snd.fst ∧ (waitB (x.W.fst, x.W.snd) x.o.snd.fst x.o.snd.snd.fst x.o.snd.snd.snd.fst).snd.snd = y.snd.snd ∧ True) ∧ True) ∧ (True ∧ True ∧ True) ∧ True) ∧ 
  True) ∧ True) ∧ ((x.o.fst == (1 : Int)) = false → ((x.o.fst == (2 : Int)) = true → True ∧ ((tks (roomAt x.os x.b)).length.le (1000000000000 : Nat) ∧ lookL x.os (↑x.b : Int) = some (wakeC.inn (roomAt x.os x.b, 
  x.o.snd.snd.fst, x.o.snd.snd.snd.fst))) ∧ (some x.b = some x.b ∧ x.o.snd.snd.fst = x.o.snd.snd.fst ∧ x.o.snd.snd.snd.fst = x.o.snd.snd.snd.fst ∧ True) ∧ ((KR.fam = KR.fam ∧ x.os = x.os) ∧ True) ∧ (∀ (y : List Int), Row 
  (tks (roomAt x.os x.b)) (keysAt (tks (roomAt x.os x.b)) (atP x.o.snd.snd.fst x.o.snd.snd.snd.fst)) y → (True ∧ True ∧ x.o.snd.snd.fst = x.o.snd.snd.fst ∧ True ∧ x.o.snd.snd.snd.fst = x.o.snd.snd.snd.fst ∧ True) ∧ 
  (x.W.fst.length ≤ (100000 : Nat) ∧ x.W.snd.length ≤ (100000 : Nat)) ∧ (True ∧ x.o.snd.snd.fst = x.o.snd.snd.fst ∧ x.o.snd.snd.snd.fst = x.o.snd.snd.snd.fst ∧ True) ∧ ((x.W.fst = x.W.fst ∧ x.W.snd = x.W.snd ∧ True) ∧ 
  True) ∧ (∀ (y_1 : Unit), True → True ∧ true = true ∧ True ∧ ∃ (y_2 : Rm × Bk), PR y_2.fst y_2.snd (x.n + (1 : Nat)) ∧ sameI y (wakeB (x.W.fst, x.W.snd) (atP x.o.snd.snd.fst x.o.snd.snd.snd.fst)).fst = true ∧ ((KR.fam = 
  KR.fam ∧ insL x.os (↑x.b : Int) ([(last (roomAt x.os x.b), delAll (tks (roomAt x.os x.b)) y, als (roomAt x.os x.b))][(0 : Nat)]?.getD (wakeC.inn (roomAt x.os x.b, x.o.snd.snd.fst, x.o.snd.snd.snd.fst))) = insL x.os 
  (↑x.b : Int) y_2.fst) ∧ ((wakeB (x.W.fst, x.W.snd) (atP x.o.snd.snd.fst x.o.snd.snd.snd.fst)).snd.fst = y_2.snd.fst ∧ (wakeB (x.W.fst, x.W.snd) (atP x.o.snd.snd.fst x.o.snd.snd.snd.fst)).snd.snd = y_2.snd.snd ∧ True) ∧ 
  True) ∧ (True ∧ True ∧ True) ∧ True) ∧ True) ∧ True) ∧ ((x.o.fst == (2 : Int)) = false → ((x.o.fst == (3 : Int)) = true → (True ∧ lookL x.os (↑x.b : Int) = some (postC.inn (roomAt x.os x.b, x.o.snd.fst, 
  x.o.snd.snd.snd.snd))) ∧ (some x.b = some x.b ∧ x.o.snd.fst = x.o.snd.fst ∧ x.o.snd.snd.snd.snd = x.o.snd.snd.snd.snd ∧ True) ∧ ((KR.fam = KR.fam ∧ x.os = x.os) ∧ True) ∧ (∀ (y : Unit), True → (x.W.fst.length ≤ (100000 
  : Nat) ∧ x.W.snd.length ≤ (100000 : Nat)) ∧ (True ∧ x.o.snd.fst = x.o.snd.fst ∧ x.o.snd.snd.snd.snd = x.o.snd.snd.snd.snd ∧ True) ∧ ((x.W.fst = x.W.fst ∧ x.W.snd = x.W.snd ∧ True) ∧ True) ∧ (∀ (y : Unit), True → ∃ (v : 
  Bool), ((((postR (roomAt x.os x.b) x.o.snd.fst x.o.snd.snd.snd.snd).fst == (postB (x.W.fst, x.W.snd) x.o.snd.fst x.o.snd.snd.snd.snd).fst) = true → ((postR (roomAt x.os x.b) x.o.snd.fst x.o.snd.snd.snd.snd).snd.fst == 
  (postB (x.W.fst, x.W.snd) x.o.snd.fst x.o.snd.snd.snd.snd).snd.fst) = v) ∧ (((postR (roomAt x.os x.b) x.o.snd.fst x.o.snd.snd.snd.snd).fst == (postB (x.W.fst, x.W.snd) x.o.snd.fst x.o.snd.snd.snd.snd).fst) = !true → 
  false = v)) ∧ ∃ (y : Rm × Bk), PR y.fst y.snd (x.n + (1 : Nat)) ∧ v = true ∧ ((KR.fam = KR.fam ∧ insL x.os (↑x.b : Int) ([(postR (roomAt x.os x.b) x.o.snd.fst x.o.snd.snd.snd.snd).snd.snd][(0 : Nat)]?.getD (postC.inn 
  (roomAt x.os x.b, x.o.snd.fst, x.o.snd.snd.snd.snd))) = insL x.os (↑x.b : Int) y.fst) ∧ ((postB (x.W.fst, x.W.snd) x.o.snd.fst x.o.snd.snd.snd.snd).snd.snd.fst = y.snd.fst ∧ (postB (x.W.fst, x.W.snd) x.o.snd.fst 
  x.o.snd.snd.snd.snd).snd.snd.snd = y.snd.snd ∧ True) ∧ True) ∧ (True ∧ True ∧ True) ∧ True) ∧ True) ∧ True) ∧ ((x.o.fst == (3 : Int)) = false → ((x.o.fst == (4 : Int)) = true → (True ∧ lookL x.os (↑x.b : Int) = some 
  (takeC.inn (roomAt x.os x.b, x.o.snd.fst))) ∧ (some x.b = some x.b ∧ x.o.snd.fst = x.o.snd.fst ∧ True) ∧ ((KR.fam = KR.fam ∧ x.os = x.os) ∧ True) ∧ (∀ (y : Unit), True → (x.W.fst.length ≤ (100000 : Nat) ∧ 
  x.W.snd.length ≤ (100000 : Nat)) ∧ (True ∧ x.o.snd.fst = x.o.snd.fst ∧ True) ∧ ((x.W.fst = x.W.fst ∧ x.W.snd = x.W.snd ∧ True) ∧ True) ∧ (∀ (y : Unit), True → ∃ (v : Bool), ((((takeR (roomAt x.os x.b) x.o.snd.fst).fst 
  == (takeB (x.W.fst, x.W.snd) x.o.snd.fst).fst) = true → ((takeR (roomAt x.os x.b) x.o.snd.fst).snd.fst == (takeB (x.W.fst, x.W.snd) x.o.snd.fst).snd.fst) = v) ∧ (((takeR (roomAt x.os x.b) x.o.snd.fst).fst == (takeB 
  (x.W.fst, x.W.snd) x.o.snd.fst).fst) = !true → false = v)) ∧ ∃ (y : Rm × Bk), PR y.fst y.snd (x.n + (1 : Nat)) ∧ v = true ∧ ((KR.fam = KR.fam ∧ insL x.os (↑x.b : Int) ([(takeR (roomAt x.os x.b) x.o.snd.fst).snd.snd][(0 
  : Nat)]?.getD (takeC.inn (roomAt x.os x.b, x.o.snd.fst))) = insL x.os (↑x.b : Int) y.fst) ∧ ((takeB (x.W.fst, x.W.snd) x.o.snd.fst).snd.snd.fst = y.snd.fst ∧ (takeB (x.W.fst, x.W.snd) x.o.snd.fst).snd.snd.snd = 
  y.snd.snd ∧ True) ∧ True) ∧ (True ∧ True ∧ True) ∧ True) ∧ True) ∧ True) ∧ ((x.o.fst == (4 : Int)) = false → ((x.o.fst == (5 : Int)) = true → True ∧ ((tks (roomAt x.os x.b)).length.le (1000000000000 : Nat) ∧ lookL x.os 
  (↑x.b : Int) = some (closeC.inn (roomAt x.os x.b, x.o.snd.snd.fst))) ∧ (some x.b = some x.b ∧ x.o.snd.snd.fst = x.o.snd.snd.fst ∧ True) ∧ ((KR.fam = KR.fam ∧ x.os = x.os) ∧ True) ∧ (∀ (y : List Int), Row (tks (roomAt 
  x.os x.b)) (keysAt (tks (roomAt x.os x.b)) (inP x.o.snd.snd.fst)) y → (True ∧ True ∧ x.o.snd.snd.fst = x.o.snd.snd.fst ∧ True) ∧ (x.W.fst.length ≤ (100000 : Nat) ∧ x.W.snd.length ≤ (100000 : Nat)) ∧ (True ∧ 
  x.o.snd.snd.fst = x.o.snd.snd.fst ∧ True) ∧ ((x.W.fst = x.W.fst ∧ x.W.snd = x.W.snd ∧ True) ∧ True) ∧ (∀ (y_1 : Unit), True → True ∧ true = true ∧ True ∧ ∃ (y_2 : Rm × Bk), PR y_2.fst y_2.snd (x.n + (1 : Nat)) ∧ sameI 
  y (wakeB (x.W.fst, x.W.snd) (inP x.o.snd.snd.fst)).fst = true ∧ ((KR.fam = KR.fam ∧ insL x.os (↑x.b : Int) ([(last (roomAt x.os x.b), delAll (tks (roomAt x.os x.b)) y, als (roomAt x.os x.b))][(0 : Nat)]?.getD 
  (closeC.inn (roomAt x.os x.b, x.o.snd.snd.fst))) = insL x.os (↑x.b : Int) y_2.fst) ∧ ((wakeB (x.W.fst, x.W.snd) (inP x.o.snd.snd.fst)).snd.fst = y_2.snd.fst ∧ (wakeB (x.W.fst, x.W.snd) (inP x.o.snd.snd.fst)).snd.snd = 
  y_2.snd.snd ∧ True) ∧ True) ∧ (True ∧ True ∧ True) ∧ True) ∧ True) ∧ True) ∧ ((x.o.fst == (5 : Int)) = false → ((x.o.fst == (6 : Int)) = true → True ∧ (True ∧ lookL x.os (↑x.b : Int) = some (forgetC.inn (roomAt x.os 
  x.b, x.o.snd.fst))) ∧ (some x.b = some x.b ∧ x.o.snd.fst = x.o.snd.fst ∧ True) ∧ ((KR.fam = KR.fam ∧ x.os = x.os) ∧ True) ∧ (∀ (y : Unit), True → (True ∧ True ∧ x.o.snd.fst = x.o.snd.fst ∧ True) ∧ (x.W.fst.length ≤ 
  (100000 : Nat) ∧ x.W.snd.length ≤ (100000 : Nat)) ∧ (True ∧ x.o.snd.fst = x.o.snd.fst ∧ True) ∧ ((x.W.fst = x.W.fst ∧ x.W.snd = x.W.snd ∧ True) ∧ True) ∧ (∀ (y : Unit), True → True ∧ ∃ (y : Rm × Bk), PR y.fst y.snd 
  (x.n + (1 : Nat)) ∧ ((lookL (tks (roomAt x.os x.b)) x.o.snd.fst).isSome == (forgetB (x.W.fst, x.W.snd) x.o.snd.fst).fst) = true ∧ ((KR.fam = KR.fam ∧ insL x.os (↑x.b : Int) ([forgetR (roomAt x.os x.b) x.o.snd.fst][(0 : 
  Nat)]?.getD (forgetC.inn (roomAt x.os x.b, x.o.snd.fst))) = insL x.os (↑x.b : Int) y.fst) ∧ ((forgetB (x.W.fst, x.W.snd) x.o.snd.fst).snd.fst = y.snd.fst ∧ (forgetB (x.W.fst, x.W.snd) x.o.snd.fst).snd.snd = y.snd.snd ∧ 
  True) ∧ True) ∧ (True ∧ True ∧ True) ∧ True) ∧ True) ∧ True) ∧ ((x.o.fst == (6 : Int)) = false → ∃ (y : Rm × Bk), PR y.fst y.snd (x.n + (1 : Nat)) ∧ true = true ∧ ((KR.fam = KR.fam ∧ x.os = insL x.os (↑x.b : Int) 
  y.fst) ∧ (x.W.fst = y.snd.fst ∧ x.W.snd = y.snd.snd ∧ True) ∧ True) ∧ (True ∧ True ∧ True) ∧ True))))))) := by kernel_rfl
def toldH : HC where
  α := StX
  m := 2
  ss := fun x => [.adr 59 (some x.b), .ptr 1 0] ++ ofArgs [opT] (x.o, ())
  Rs := fun x => [.cust (famT rmT) KR.fam x.os] ++ bkRs x.W
  pre := fun x => At x.os x.b x.W x.n
  alts := [{ β := Unit, post := fun _ _ => True, r := fun _ _ => .bool true, res := fun x _ => [.cust (famT rmT) KR.fam x.os] ++ bkRs x.W, kp := [true, true] }]
theorem told_vc (x : StX) : (fvc PP (env PP [p15] [g12, g13, g18, g21, m41, m42, m43] [] [] []) Try.f25 c25 (toldH.ss x) (St1 (toldH.Rs x)) (fun r S => altsOk 2 x r S toldH.alts)) = (
  (True ∧ lookL x.os (↑x.b : Int) = some (whereC.inn (roomAt x.os x.b, x.o.snd.fst))) ∧ (some x.b = some x.b ∧ x.o.snd.fst = x.o.snd.fst ∧ True) ∧ ((KR.fam = KR.fam ∧ x.os = x.os) ∧ True) ∧ (∀ (y : Unit), True → 
  (x.W.fst.length ≤ (1000000 : Nat) ∧ x.W.snd.length ≤ (1000000 : Nat)) ∧ (True ∧ x.o.snd.fst = x.o.snd.fst ∧ True) ∧ ((x.W.fst = x.W.fst ∧ x.W.snd = x.W.snd ∧ True) ∧ True) ∧ (∀ (y : Unit), True → ∃ (v : Bool), 
  (((!(lookL (tks (roomAt x.os x.b)) x.o.snd.fst).isSome == decide (atB x.W.fst x.o.snd.fst ≥ (0 : Int))) = false → ((lookL (tks (roomAt x.os x.b)) x.o.snd.fst).isSome = true → ((0 : Int) ≤ atB x.W.fst x.o.snd.fst ∧ atB 
  x.W.fst x.o.snd.fst < (↑x.W.fst.length : Int)) ∧ ∀ (y : Int × Int × Int), x.W.fst[(atB x.W.fst x.o.snd.fst).toNat]? = some y → ((y.snd.fst != (placeOf (roomAt x.os x.b) x.o.snd.fst).fst) = false → ((0 : Int) ≤ atB 
  x.W.fst x.o.snd.fst ∧ atB x.W.fst x.o.snd.fst < (↑x.W.fst.length : Int)) ∧ ∀ (y : Int × Int × Int), x.W.fst[(atB x.W.fst x.o.snd.fst).toNat]? = some y → ((y.snd.snd != (placeOf (roomAt x.os x.b) x.o.snd.fst).snd) = 
  false → ((!(lookL (tks (roomAt x.os x.b)) x.o.snd.fst).isSome) = true → (((placeOf (roomAt x.os x.b) x.o.snd.fst).fst != (0 : Int)) = false → ((placeOf (roomAt x.os x.b) x.o.snd.fst).snd != (0 : Int)) = v) ∧ (((placeOf 
  (roomAt x.os x.b) x.o.snd.fst).fst != (0 : Int)) = !false → true = v)) ∧ ((!(lookL (tks (roomAt x.os x.b)) x.o.snd.fst).isSome) = !true → false = v)) ∧ ((y.snd.snd != (placeOf (roomAt x.os x.b) x.o.snd.fst).snd) = 
  !false → true = v)) ∧ ((y.snd.fst != (placeOf (roomAt x.os x.b) x.o.snd.fst).fst) = !false → true = v)) ∧ ((lookL (tks (roomAt x.os x.b)) x.o.snd.fst).isSome = !true → ((!(lookL (tks (roomAt x.os x.b)) 
  x.o.snd.fst).isSome) = true → (((placeOf (roomAt x.os x.b) x.o.snd.fst).fst != (0 : Int)) = false → ((placeOf (roomAt x.os x.b) x.o.snd.fst).snd != (0 : Int)) = v) ∧ (((placeOf (roomAt x.os x.b) x.o.snd.fst).fst != (0 
  : Int)) = !false → true = v)) ∧ ((!(lookL (tks (roomAt x.os x.b)) x.o.snd.fst).isSome) = !true → false = v))) ∧ ((!(lookL (tks (roomAt x.os x.b)) x.o.snd.fst).isSome == decide (atB x.W.fst x.o.snd.fst ≥ (0 : Int))) = 
  !false → true = v)) ∧ (v = true → ∃ (y : Unit), True ∧ false = true ∧ ((KR.fam = KR.fam ∧ x.os = x.os) ∧ (x.W.fst = x.W.fst ∧ x.W.snd = x.W.snd ∧ True) ∧ True) ∧ (True ∧ True ∧ True) ∧ True) ∧ (v = false → 
  x.W.fst.length ≤ maxLen → True ∧ (True ∧ lookL x.os (↑x.b : Int) = some (lenC.inn (roomAt x.os x.b))) ∧ (some x.b = some x.b ∧ True) ∧ ((KR.fam = KR.fam ∧ x.os = x.os) ∧ True) ∧ (∀ (y : Unit), True → (((↑(tks (roomAt 
  x.os x.b)).length : Int) == (↑x.W.fst.length : Int)) = true → (True ∧ True ∧ True ∧ x.W.fst = x.W.fst ∧ (x.W.fst.length ≤ maxLen → (↑x.W.fst.length : Int) = (↑x.W.fst.length : Int)) ∧ ((↑(tks (roomAt x.os x.b)).length 
  : Int) == (↑x.W.fst.length : Int)) = ((↑(tks (roomAt x.os x.b)).length : Int) == (↑x.W.fst.length : Int)) ∧ ((↑(tks (roomAt x.os x.b)).length : Int) == (↑x.W.fst.length : Int)) = true ∧ some x.b = some x.b ∧ True ∧ 
  x.o.snd.snd.fst = x.o.snd.snd.fst ∧ True ∧ x.o.snd.snd.snd.fst = x.o.snd.snd.snd.fst ∧ True ∧ True ∧ x.o.snd.snd.fst = x.o.snd.snd.fst ∧ True ∧ x.o.snd.snd.snd.fst = x.o.snd.snd.snd.fst ∧ True) ∧ ((tks (roomAt x.os 
  x.b)).length.le (1000000000000 : Nat) ∧ lookL x.os (↑x.b : Int) = some (listC.inn (roomAt x.os x.b, x.o.snd.snd.fst, x.o.snd.snd.snd.fst))) ∧ (some x.b = some x.b ∧ x.o.snd.snd.fst = x.o.snd.snd.fst ∧ 
  x.o.snd.snd.snd.fst = x.o.snd.snd.snd.fst ∧ True) ∧ ((KR.fam = KR.fam ∧ x.os = x.os) ∧ True) ∧ (∀ (y : List Int), Row (tks (roomAt x.os x.b)) (keysAt (tks (roomAt x.os x.b)) (atP x.o.snd.snd.fst x.o.snd.snd.snd.fst)) y 
  → (True ∧ True ∧ x.o.snd.snd.fst = x.o.snd.snd.fst ∧ True ∧ x.o.snd.snd.snd.fst = x.o.snd.snd.snd.fst ∧ True) ∧ (x.W.fst.length ≤ (1000000 : Nat) ∧ x.W.snd.length ≤ (1000000 : Nat)) ∧ (True ∧ x.o.snd.snd.fst = 
  x.o.snd.snd.fst ∧ x.o.snd.snd.snd.fst = x.o.snd.snd.snd.fst ∧ True) ∧ ((x.W.fst = x.W.fst ∧ x.W.snd = x.W.snd ∧ True) ∧ True) ∧ (∀ (y_1 : Unit), True → True ∧ true = true ∧ (sameI y (pickB x.W.fst (atP x.o.snd.snd.fst 
  x.o.snd.snd.snd.fst)) = true → True ∧ ((∀ (x_1 : Int × List Int), List.Mem x_1 (als (roomAt x.os x.b)) → x_1.snd.length ≤ (1000000000000 : Nat)) ∧ lookL x.os (↑x.b : Int) = some (alertsC.inn (roomAt x.os x.b, 
  x.o.snd.fst))) ∧ (some x.b = some x.b ∧ x.o.snd.fst = x.o.snd.fst ∧ True) ∧ ((KR.fam = KR.fam ∧ x.os = x.os) ∧ True) ∧ (∀ (y : Unit), True → (True ∧ True ∧ x.o.snd.fst = x.o.snd.fst ∧ True) ∧ (x.W.fst.length ≤ (1000000 
  : Nat) ∧ x.W.snd.length ≤ (1000000 : Nat)) ∧ (True ∧ x.o.snd.fst = x.o.snd.fst ∧ True) ∧ ((x.W.fst = x.W.fst ∧ x.W.snd = x.W.snd ∧ True) ∧ True) ∧ (∀ (y : Unit), True → True ∧ true = true ∧ True ∧ ∃ (y : Unit), True ∧ 
  sameI (alOf (roomAt x.os x.b) x.o.snd.fst) (ofB x.W.snd x.o.snd.fst) = true ∧ ((KR.fam = KR.fam ∧ x.os = x.os) ∧ (x.W.fst = x.W.fst ∧ x.W.snd = x.W.snd ∧ True) ∧ True) ∧ (True ∧ True ∧ True) ∧ True) ∧ True) ∧ True) ∧ 
  (sameI y (pickB x.W.fst (atP x.o.snd.snd.fst x.o.snd.snd.snd.fst)) = !true → True ∧ (True ∧ True ∧ True ∧ True) ∧ True ∧ True ∧ ∃ (y : Unit), True ∧ false = true ∧ ((KR.fam = KR.fam ∧ x.os = x.os) ∧ (x.W.fst = x.W.fst 
  ∧ x.W.snd = x.W.snd ∧ True) ∧ True) ∧ (True ∧ True ∧ True) ∧ True)) ∧ True) ∧ True) ∧ (((↑(tks (roomAt x.os x.b)).length : Int) == (↑x.W.fst.length : Int)) = !true → (True ∧ True ∧ True ∧ x.W.fst = x.W.fst ∧ 
  (x.W.fst.length ≤ maxLen → (↑x.W.fst.length : Int) = (↑x.W.fst.length : Int)) ∧ ((↑(tks (roomAt x.os x.b)).length : Int) == (↑x.W.fst.length : Int)) = ((↑(tks (roomAt x.os x.b)).length : Int) == (↑x.W.fst.length : 
  Int)) ∧ ((↑(tks (roomAt x.os x.b)).length : Int) == (↑x.W.fst.length : Int)) = !true ∧ True ∧ True ∧ True ∧ True ∧ True ∧ True ∧ True ∧ True ∧ True ∧ True ∧ True) ∧ (True ∧ True ∧ True ∧ True ∧ True ∧ True) ∧ True ∧ 
  True ∧ (True ∧ True ∧ True ∧ True) ∧ True ∧ True ∧ ∃ (y : Unit), True ∧ false = true ∧ ((KR.fam = KR.fam ∧ x.os = x.os) ∧ (x.W.fst = x.W.fst ∧ x.W.snd = x.W.snd ∧ True) ∧ True) ∧ (True ∧ True ∧ True) ∧ True)) ∧ True)) 
  ∧ True) ∧ True) := by kernel_rfl
structure TlX where
  os : List (Int × Rm)
  b : Nat
  oh : OH
  h : Nat
  o : Op5
  n : Nat
def toldA : HC where
  α := TlX
  m := 2
  ss := fun x => [.adr 59 (some x.b), .adr 50 (some x.h)] ++ ofArgs [opT] (x.o, ())
  Rs := fun x => [.cust (famT rmT) KR.fam x.os, .fam 50 refT x.oh]
  pre := fun x => At x.os x.b (bkAt x.oh x.h) x.n ∧ AtH x.oh x.h
  alts := [{ β := Unit, post := fun _ _ => True, r := fun _ _ => .bool true, res := fun x _ => [.cust (famT rmT) KR.fam x.os, .fam 50 refT x.oh], kp := [true, true] }]
theorem toldA_vc (x : TlX) : (fvc PP (env PP [p15] [g12, g13, g18, g21, a41, a42, a43] [] [] []) Try.f25 c25 (toldA.ss x) (St1 (toldA.Rs x)) (fun r S => altsOk 2 x r S toldA.alts)) = (
  (True ∧ lookL x.os (↑x.b : Int) = some (whereC.inn (roomAt x.os x.b, x.o.snd.fst))) ∧ (some x.b = some x.b ∧ x.o.snd.fst = x.o.snd.fst ∧ True) ∧ ((KR.fam = KR.fam ∧ x.os = x.os) ∧ True) ∧ (∀ (y : Unit), True → AtH x.oh 
  x.h ∧ (some x.h = some x.h ∧ x.o.snd.fst = x.o.snd.fst ∧ True) ∧ (x.oh = x.oh ∧ True) ∧ (∀ (y : Unit), True → ∃ (v : Bool), (((!(lookL (tks (roomAt x.os x.b)) x.o.snd.fst).isSome == decide (atB (bkAt x.oh x.h).fst 
  x.o.snd.fst ≥ (0 : Int))) = false → ((lookL (tks (roomAt x.os x.b)) x.o.snd.fst).isSome = true → (some x.h).isSome = true ∧ (some x.h).isSome = true ∧ (∃ (y : List (Int × Int × Int) × List (Int × Int × Int)), famGet 
  x.oh ((some x.h).getD (0 : Nat)) (0 : Nat) = some y) ∧ ∀ (y : List (Int × Int × Int) × List (Int × Int × Int)), famGet x.oh ((some x.h).getD (0 : Nat)) (0 : Nat) = some y → ((0 : Int) ≤ atB (bkAt x.oh x.h).fst 
  x.o.snd.fst ∧ atB (bkAt x.oh x.h).fst x.o.snd.fst < (↑y.fst.length : Int)) ∧ ∀ (y_1 : Int × Int × Int), y.fst[(atB (bkAt x.oh x.h).fst x.o.snd.fst).toNat]? = some y_1 → ((y_1.snd.fst != (placeOf (roomAt x.os x.b) 
  x.o.snd.fst).fst) = false → (some x.h).isSome = true ∧ (some x.h).isSome = true ∧ (∃ (y : List (Int × Int × Int) × List (Int × Int × Int)), famGet x.oh ((some x.h).getD (0 : Nat)) (0 : Nat) = some y) ∧ ∀ (y : List (Int 
  × Int × Int) × List (Int × Int × Int)), famGet x.oh ((some x.h).getD (0 : Nat)) (0 : Nat) = some y → ((0 : Int) ≤ atB (bkAt x.oh x.h).fst x.o.snd.fst ∧ atB (bkAt x.oh x.h).fst x.o.snd.fst < (↑y.fst.length : Int)) ∧ ∀ 
  (y_2 : Int × Int × Int), y.fst[(atB (bkAt x.oh x.h).fst x.o.snd.fst).toNat]? = some y_2 → ((y_2.snd.snd != (placeOf (roomAt x.os x.b) x.o.snd.fst).snd) = false → ((!(lookL (tks (roomAt x.os x.b)) x.o.snd.fst).isSome) = 
  true → (((placeOf (roomAt x.os x.b) x.o.snd.fst).fst != (0 : Int)) = false → ((placeOf (roomAt x.os x.b) x.o.snd.fst).snd != (0 : Int)) = v) ∧ (((placeOf (roomAt x.os x.b) x.o.snd.fst).fst != (0 : Int)) = !false → true 
  = v)) ∧ ((!(lookL (tks (roomAt x.os x.b)) x.o.snd.fst).isSome) = !true → false = v)) ∧ ((y_2.snd.snd != (placeOf (roomAt x.os x.b) x.o.snd.fst).snd) = !false → true = v)) ∧ ((y_1.snd.fst != (placeOf (roomAt x.os x.b) 
  x.o.snd.fst).fst) = !false → true = v)) ∧ ((lookL (tks (roomAt x.os x.b)) x.o.snd.fst).isSome = !true → ((!(lookL (tks (roomAt x.os x.b)) x.o.snd.fst).isSome) = true → (((placeOf (roomAt x.os x.b) x.o.snd.fst).fst != 
  (0 : Int)) = false → ((placeOf (roomAt x.os x.b) x.o.snd.fst).snd != (0 : Int)) = v) ∧ (((placeOf (roomAt x.os x.b) x.o.snd.fst).fst != (0 : Int)) = !false → true = v)) ∧ ((!(lookL (tks (roomAt x.os x.b)) 
  x.o.snd.fst).isSome) = !true → false = v))) ∧ ((!(lookL (tks (roomAt x.os x.b)) x.o.snd.fst).isSome == decide (atB (bkAt x.oh x.h).fst x.o.snd.fst ≥ (0 : Int))) = !false → true = v)) ∧ (v = true → ∃ (y : Unit), True ∧ 
  false = true ∧ ((KR.fam = KR.fam ∧ x.os = x.os) ∧ x.oh = x.oh ∧ True) ∧ (True ∧ True ∧ True) ∧ True) ∧ (v = false → (some x.h).isSome = true ∧ (some x.h).isSome = true ∧ (∃ (y : List (Int × Int × Int) × List (Int × Int 
  × Int)), famGet x.oh ((some x.h).getD (0 : Nat)) (0 : Nat) = some y) ∧ ∀ (y : List (Int × Int × Int) × List (Int × Int × Int)), famGet x.oh ((some x.h).getD (0 : Nat)) (0 : Nat) = some y → y.fst.length ≤ maxLen → True 
  ∧ (True ∧ lookL x.os (↑x.b : Int) = some (lenC.inn (roomAt x.os x.b))) ∧ (some x.b = some x.b ∧ True) ∧ ((KR.fam = KR.fam ∧ x.os = x.os) ∧ True) ∧ (∀ (y_1 : Unit), True → (((↑(tks (roomAt x.os x.b)).length : Int) == 
  (↑y.fst.length : Int)) = true → (some x.h = some x.h ∧ ((some x.h).isSome = true ∧ some x.h = some x.h) ∧ ((some x.h).isSome = true ∧ SV.fp (50 : TypeId) ((some x.h).getD (0 : Nat)) (0 : Nat) (0 : Nat) (0 : Nat) = 
  SV.fp (50 : TypeId) ((some x.h).getD (0 : Nat)) (0 : Nat) (0 : Nat) (0 : Nat)) ∧ ((∃ (y : List (Int × Int × Int) × List (Int × Int × Int)), famGet x.oh ((some x.h).getD (0 : Nat)) (0 : Nat) = some y) ∧ ∀ (y_2 : List 
  (Int × Int × Int) × List (Int × Int × Int)), famGet x.oh ((some x.h).getD (0 : Nat)) (0 : Nat) = some y_2 → y_2.fst = y.fst) ∧ (y.fst.length ≤ maxLen → (↑y.fst.length : Int) = (↑y.fst.length : Int)) ∧ ((↑(tks (roomAt 
  x.os x.b)).length : Int) == (↑y.fst.length : Int)) = ((↑(tks (roomAt x.os x.b)).length : Int) == (↑y.fst.length : Int)) ∧ ((↑(tks (roomAt x.os x.b)).length : Int) == (↑y.fst.length : Int)) = true ∧ some x.b = some x.b 
  ∧ True ∧ x.o.snd.snd.fst = x.o.snd.snd.fst ∧ True ∧ x.o.snd.snd.snd.fst = x.o.snd.snd.snd.fst ∧ some x.h = some x.h ∧ True ∧ x.o.snd.snd.fst = x.o.snd.snd.fst ∧ True ∧ x.o.snd.snd.snd.fst = x.o.snd.snd.snd.fst ∧ True) 
  ∧ ((tks (roomAt x.os x.b)).length.le (1000000000000 : Nat) ∧ lookL x.os (↑x.b : Int) = some (listC.inn (roomAt x.os x.b, x.o.snd.snd.fst, x.o.snd.snd.snd.fst))) ∧ (some x.b = some x.b ∧ x.o.snd.snd.fst = 
  x.o.snd.snd.fst ∧ x.o.snd.snd.snd.fst = x.o.snd.snd.snd.fst ∧ True) ∧ ((KR.fam = KR.fam ∧ x.os = x.os) ∧ True) ∧ (∀ (y : List Int), Row (tks (roomAt x.os x.b)) (keysAt (tks (roomAt x.os x.b)) (atP x.o.snd.snd.fst 
  x.o.snd.snd.snd.fst)) y → (some x.h = some x.h ∧ True ∧ x.o.snd.snd.fst = x.o.snd.snd.fst ∧ True ∧ x.o.snd.snd.snd.fst = x.o.snd.snd.snd.fst ∧ True) ∧ AtH x.oh x.h ∧ (some x.h = some x.h ∧ x.o.snd.snd.fst = 
  x.o.snd.snd.fst ∧ x.o.snd.snd.snd.fst = x.o.snd.snd.snd.fst ∧ True) ∧ (x.oh = x.oh ∧ True) ∧ (∀ (y_2 : Unit), True → True ∧ true = true ∧ (sameI y (pickB (bkAt x.oh x.h).fst (atP x.o.snd.snd.fst x.o.snd.snd.snd.fst)) = 
  true → True ∧ ((∀ (x_1 : Int × List Int), List.Mem x_1 (als (roomAt x.os x.b)) → x_1.snd.length ≤ (1000000000000 : Nat)) ∧ lookL x.os (↑x.b : Int) = some (alertsC.inn (roomAt x.os x.b, x.o.snd.fst))) ∧ (some x.b = some 
  x.b ∧ x.o.snd.fst = x.o.snd.fst ∧ True) ∧ ((KR.fam = KR.fam ∧ x.os = x.os) ∧ True) ∧ (∀ (y : Unit), True → (some x.h = some x.h ∧ True ∧ x.o.snd.fst = x.o.snd.fst ∧ True) ∧ AtH x.oh x.h ∧ (some x.h = some x.h ∧ 
  x.o.snd.fst = x.o.snd.fst ∧ True) ∧ (x.oh = x.oh ∧ True) ∧ (∀ (y : Unit), True → True ∧ true = true ∧ True ∧ ∃ (y : Unit), True ∧ sameI (alOf (roomAt x.os x.b) x.o.snd.fst) (ofB (bkAt x.oh x.h).snd x.o.snd.fst) = true 
  ∧ ((KR.fam = KR.fam ∧ x.os = x.os) ∧ x.oh = x.oh ∧ True) ∧ (True ∧ True ∧ True) ∧ True) ∧ True) ∧ True) ∧ (sameI y (pickB (bkAt x.oh x.h).fst (atP x.o.snd.snd.fst x.o.snd.snd.snd.fst)) = !true → True ∧ (True ∧ True ∧ 
  True ∧ True) ∧ True ∧ True ∧ ∃ (y : Unit), True ∧ false = true ∧ ((KR.fam = KR.fam ∧ x.os = x.os) ∧ x.oh = x.oh ∧ True) ∧ (True ∧ True ∧ True) ∧ True)) ∧ True) ∧ True) ∧ (((↑(tks (roomAt x.os x.b)).length : Int) == 
  (↑y.fst.length : Int)) = !true → (some x.h = some x.h ∧ ((some x.h).isSome = true ∧ some x.h = some x.h) ∧ ((some x.h).isSome = true ∧ SV.fp (50 : TypeId) ((some x.h).getD (0 : Nat)) (0 : Nat) (0 : Nat) (0 : Nat) = 
  SV.fp (50 : TypeId) ((some x.h).getD (0 : Nat)) (0 : Nat) (0 : Nat) (0 : Nat)) ∧ ((∃ (y : List (Int × Int × Int) × List (Int × Int × Int)), famGet x.oh ((some x.h).getD (0 : Nat)) (0 : Nat) = some y) ∧ ∀ (y_2 : List 
  (Int × Int × Int) × List (Int × Int × Int)), famGet x.oh ((some x.h).getD (0 : Nat)) (0 : Nat) = some y_2 → y_2.fst = y.fst) ∧ (y.fst.length ≤ maxLen → (↑y.fst.length : Int) = (↑y.fst.length : Int)) ∧ ((↑(tks (roomAt 
  x.os x.b)).length : Int) == (↑y.fst.length : Int)) = ((↑(tks (roomAt x.os x.b)).length : Int) == (↑y.fst.length : Int)) ∧ ((↑(tks (roomAt x.os x.b)).length : Int) == (↑y.fst.length : Int)) = !true ∧ True ∧ True ∧ True 
  ∧ True ∧ True ∧ True ∧ True ∧ True ∧ True ∧ True ∧ True) ∧ (True ∧ True ∧ True ∧ True ∧ True ∧ True) ∧ True ∧ True ∧ (True ∧ True ∧ True ∧ True) ∧ True ∧ True ∧ ∃ (y : Unit), True ∧ false = true ∧ ((KR.fam = KR.fam ∧ 
  x.os = x.os) ∧ x.oh = x.oh ∧ True) ∧ (True ∧ True ∧ True) ∧ True)) ∧ True)) ∧ True) ∧ True) := by kernel_rfl
end Go.Proofs.Ytfdcmbaoekjkgaa
namespace Go.Proofs.Ytfdcmbaoekjkgaa
open Go.Proofs.Ytfdcmbaoekjkgaa.Gx
set_option maxRecDepth 100000
set_option maxHeartbeats 4000000
set_option linter.unusedSimpArgs false
set_option linter.unusedVariables false
theorem At.inn {os : List (Int × Rm)} {b : Nat} {W : Bk} {n : Nat} (h : At os b W n) {α : Type} {f : α → Rm} {a : α} (e : f a = roomAt os b) : lookL os (b : Int) = some (f a) := by rw [e]; exact h.look
theorem told_ok : toldH.ok PP 25 := by
  refine hc_of mixed (fn := Try.f25) (c := c25) rfl rfl toldH (fun x => rfl) ?_
  rintro ⟨os, b, W, o, n⟩ hp
  have hp : At os b W n := hp
  have h := hp.pr
  refine ⟨env PP [p15] [g12, g13, g18, g21, m41, m42, m43] [] [] [], env_ok .., rfl, hold (told_vc ⟨os, b, W, o, n⟩) ?_⟩
  simp only [true_and, and_true]
  have hl := hp.look
  generalize roomAt os b = R at *
  have hn := hp.few
  have hfew := h.fewB (by omega)
  have hlen := h.len
  refine ⟨hl, fun _ _ => ⟨hfew, fun _ _ => ⟨false, ⟨fun _ => ⟨fun hs => ?_, fun hs => ?_⟩, fun he => ?_⟩, fun h => (by cases h), fun _ hA => ⟨hl, fun _ _ => ⟨fun _ => ⟨⟨fun _ => trivial, by rw [hlen]; simp⟩, ⟨h.fewT (by omega), hl⟩, fun y hy => ⟨hfew, fun _ _ => ⟨fun _ => ⟨⟨h.short, hl⟩, fun _ _ => ⟨hfew, fun _ _ => ⟨(), ?_⟩⟩⟩, fun hne => ?_⟩⟩⟩, fun hne => ?_⟩⟩⟩⟩⟩
  · obtain ⟨p1, p2, y0, hy0, e0⟩ := h.place hs
    refine ⟨⟨p1, p2⟩, fun y hy => ⟨fun _ => ⟨⟨p1, p2⟩, fun z hz => ⟨fun _ => ⟨fun h2 => (by rw [hs] at h2; cases h2), fun _ => rfl⟩, fun hne => ?_⟩⟩, fun hne => ?_⟩⟩
    · rw [hy0] at hz; cases hz
      rw [e0] at hne; simp at hne
    · rw [hy0] at hy; cases hy
      rw [e0] at hne; simp at hne
  · have e := placeOf_none hs
    refine ⟨fun _ => ⟨fun _ => by rw [e]; rfl, fun h2 => ?_⟩, fun _ => rfl⟩
    rw [e] at h2; simp at h2
  · rw [h.ge] at he; simp at he
  · simp [sameI, h.al]
  · rw [h.row hy] at hne; simp [sameI] at hne
  · rw [hlen] at hne; simp at hne
theorem toldA_ok : toldA.ok PP 25 := by
  refine hc_of mixed (fn := Try.f25) (c := c25) rfl rfl toldA (fun x => rfl) ?_
  rintro ⟨os, b, oh, k, o, n⟩ hp
  have hp : At os b (bkAt oh k) n ∧ AtH oh k := hp
  obtain ⟨hp, hk⟩ := hp
  have h := hp.pr
  refine ⟨env PP [p15] [g12, g13, g18, g21, a41, a42, a43] [] [] [], env_ok .., rfl, hold (toldA_vc ⟨os, b, oh, k, o, n⟩) ?_⟩
  simp only [true_and, and_true]
  have hl := hp.look
  generalize roomAt os b = R at *
  have hn := hp.few
  have hlen := h.len
  have hopen : ∀ (y : List (Int × Int × Int) × List (Int × Int × Int)), famGet oh ((some k).getD 0) 0 = some y → y = bkAt oh k := fun y hy => by
    have : famGet oh k 0 = some y := hy
    rw [hk.get] at this; cases this; rfl
  refine ⟨hl, fun _ _ => ⟨hk, fun _ _ => ⟨false, ⟨fun _ => ⟨fun hs => ⟨rfl, rfl, ⟨_, hk.get⟩, fun y0 h0 => ?_⟩, fun hs => ?_⟩, fun he => ?_⟩, fun h => (by cases h), fun _ => ⟨rfl, rfl, ⟨_, hk.get⟩, fun y0 h0 => ?_⟩⟩⟩⟩
  · obtain rfl := hopen y0 h0
    obtain ⟨p1, p2, y0, hy0, e0⟩ := h.place hs
    refine ⟨⟨p1, p2⟩, fun y hy => ⟨fun _ => ⟨rfl, rfl, ⟨_, hk.get⟩, fun y1 h1 => ?_⟩, fun hne => ?_⟩⟩
    · obtain rfl := hopen y1 h1
      refine ⟨⟨p1, p2⟩, fun z hz => ⟨fun _ => ⟨fun h2 => (by rw [hs] at h2; cases h2), fun _ => rfl⟩, fun hne => ?_⟩⟩
      rw [hy0] at hz; cases hz
      rw [e0] at hne; simp at hne
    · rw [hy0] at hy; cases hy
      rw [e0] at hne; simp at hne
  · have e := placeOf_none hs
    refine ⟨fun _ => ⟨fun _ => by rw [e]; rfl, fun h2 => ?_⟩, fun _ => rfl⟩
    rw [e] at h2; simp at h2
  · rw [h.ge] at he; simp at he
  · obtain rfl := hopen y0 h0
    refine fun hA => ⟨hl, fun _ _ => ⟨fun _ => ⟨⟨rfl, rfl, ⟨⟨_, hk.get⟩, fun y1 h1 => (by rw [hopen y1 h1])⟩, fun _ => trivial, by rw [hlen]; simp⟩, ⟨h.fewT (by omega), hl⟩, fun y hy => ⟨hk, fun _ _ => ⟨fun _ => ⟨⟨h.short, hl⟩, fun _ _ => ⟨hk, fun _ _ => ⟨(), ?_⟩⟩⟩, fun hne => ?_⟩⟩⟩, fun hne => ?_⟩⟩
    · simp [sameI, h.al]
    · rw [h.row hy] at hne; simp [sameI] at hne
    · rw [hlen] at hne; simp at hne
theorem step_ok : stepH.ok PP 24 := by
  refine hc_ofP finB2 mixed (fn := Try.f24) (c := c24) rfl rfl stepH (fun x => rfl) ?_
  rintro ⟨os, b, W, o, n⟩ hp
  have hp : At os b W n := hp
  have h := hp.pr
  refine ⟨env PP [p15] [g10, g11, g14, g16, g17, g20, m35, m36, m37, m38, m39, m40] [] [] [], env_ok .., rfl, hold (step_vc ⟨os, b, W, o, n⟩) ?_⟩
  simp only [true_and, and_true]
  have hl := hp.look
  generalize roomAt os b = R at *
  have hn := hp.few
  have hfew := h.fewR (by omega)
  have hT := h.fewT (by omega)
  refine ⟨fun _ => ⟨hl, fun _ _ => ⟨hfew, fun _ _ => ?_⟩⟩, fun _ => ⟨fun _ => ⟨⟨hT, hl⟩, fun y hy => ⟨hfew, fun _ _ => ?_⟩⟩, fun _ => ⟨fun _ => ⟨hl, fun _ _ => ⟨hfew, fun _ _ => ?_⟩⟩, fun _ => ⟨fun _ => ⟨hl, fun _ _ => ⟨hfew, fun _ _ => ?_⟩⟩, fun _ => ⟨fun _ => ⟨⟨hT, hl⟩, fun y hy => ⟨hfew, fun _ _ => ?_⟩⟩, fun _ => ⟨fun _ => ⟨hl, fun _ _ => ⟨hfew, fun _ _ => ?_⟩⟩, fun _ => ?_⟩⟩⟩⟩⟩⟩
  · obtain ⟨h1, h2⟩ := h.wait hn o.2.1 o.2.2.1 o.2.2.2.1
    exact ⟨(_, _), h2, by rw [h1]; simp, rfl, rfl, rfl⟩
  · obtain ⟨h1, h2⟩ := h.wake hy
    exact ⟨(_, _), h2.mono (Nat.le_succ n), by rw [h1]; simp [sameI], rfl, rfl, rfl⟩
  · obtain ⟨h1, h2, h3⟩ := h.post o.2.1 o.2.2.2.2
    exact ⟨true, by rw [h1, h2]; simp, (_, _), h3, rfl, rfl, rfl, rfl⟩
  · obtain ⟨h1, h2, h3⟩ := h.take o.2.1
    exact ⟨true, by rw [h1, h2]; simp, (_, _), h3.mono (Nat.le_succ n), rfl, rfl, rfl, rfl⟩
  · obtain ⟨h1, h2⟩ := h.wake hy
    exact ⟨(_, _), h2.mono (Nat.le_succ n), by rw [h1]; simp [sameI], rfl, rfl, rfl⟩
  · obtain ⟨h1, h2⟩ := h.forget o.2.1
    exact ⟨(_, _), h2.mono (Nat.le_succ n), by rw [h1]; simp, rfl, rfl, rfl⟩
  · exact ⟨(R, W), h.mono (Nat.le_succ n), (insL_same hl).symm, rfl, rfl⟩
end Go.Proofs.Ytfdcmbaoekjkgaa
namespace Go.Proofs.Ytfdcmbaoekjkgaa
open Go.Proofs.Ytfdcmbaoekjkgaa.Gx
set_option maxRecDepth 100000
set_option maxHeartbeats 4000000
set_option linter.unusedVariables false
def nOf (R : Rm) (W : Bk) : Nat := Nat.max (last R).toNat (Nat.max W.1.length W.2.length)
theorem PR.least {R : Rm} {W : Bk} {m : Nat} (h : PR R W m) : PR R W (nOf R W) ∧ nOf R W ≤ m := by
  have h1 := h.l0
  have h2 := h.ln
  have h3 := h.la
  have h4 := h.lb
  have e1 : (last R).toNat ≤ nOf R W := Nat.le_max_left _ _
  have e2 : W.1.length ≤ nOf R W := Nat.le_trans (Nat.le_max_left _ _) (Nat.le_max_right _ _)
  have e3 : W.2.length ≤ nOf R W := Nat.le_trans (Nat.le_max_right _ _) (Nat.le_max_right _ _)
  exact ⟨⟨h.came, h.keys, h.le, h.l0, by omega, h.A, h.akeys, h.al, h.eight, e2, e3⟩, Nat.max_le.2 ⟨by omega, Nat.max_le.2 ⟨h3, h4⟩⟩⟩
noncomputable def t24 : Sv PP := ⟨24, hspec stepH [] fun ss S => match ss with
  | .adr _ (some b) :: .ptr j 0 :: rest => match findFc 0 S.res, S.res[j]?, asArgs [opT] rest with
    | some (i, os), some (.blk _ [u, v]), some (o, ()) => match asTy (.slice oneT) u, asTy (.slice oneT) v with
      | some A, some B => some ([i, j], ⟨os, b, (A, B), o, nOf (roomAt os b) (A, B)⟩)
      | _, _ => none
    | _, _, _ => none
  | _ => none, ⟨rfl, hspec_ok step_ok _ _⟩⟩
def told1 : Gx.Spec := hspec toldH [] fun ss S => match ss with
  | .adr _ (some b) :: .ptr j 0 :: rest => match findFc 0 S.res, S.res[j]?, asArgs [opT] rest with
    | some (i, os), some (.blk _ [u, v]), some (o, ()) => match asTy (.slice oneT) u, asTy (.slice oneT) v with
      | some A, some B => some ([i, j], ⟨os, b, (A, B), o, nOf (roomAt os b) (A, B)⟩)
      | _, _ => none
    | _, _, _ => none
  | _ => none
def told2 : Gx.Spec := hspec toldA [] fun ss S => match ss with
  | .adr _ x :: .adr _ y :: rest => match findFc 0 S.res, findOh 0 S.res, asArgs [opT] rest with
    | some (i, os), some (j, oh), some (o, ()) => some ([i, j], ⟨os, x.getD 0, oh, y.getD 0, o, nOf (roomAt os (x.getD 0)) (bkAt oh (y.getD 0))⟩)
    | _, _, _ => none
  | _ => none
def toldS : Gx.Spec := fun ss S K => match ss with
  | .adr _ _ :: .adr _ _ :: _ => told2 ss S K
  | _ => told1 ss S K
theorem toldS_ok : SpecOk PP 25 toldS := by
  intro cx S a w sv ss vs K hok hk
  unfold toldS at hk
  split at hk
  · exact hspec_ok toldA_ok _ _ cx S a w sv _ vs K hok hk
  · exact hspec_ok told_ok _ _ cx S a w sv _ vs K hok hk
noncomputable def t25 : Sv PP := ⟨25, toldS, ⟨rfl, toldS_ok⟩⟩
structure PlG where
  i : Nat
  b : Nat
  os : List (Int × Rm)
  W : Bk
  old : List (Option Nat)
  had : List (Option Nat)
  oh : OH
structure PlInv (sc : List Op5) (g : PlG) : Prop where
  le : g.i ≤ sc.length
  few : g.i ≤ 200
  look : lookL g.os (g.b : Int) = some (roomAt g.os g.b)
  pr : PR (roomAt g.os g.b) g.W g.i
  len : g.old.length = g.had.length
  short : g.old.length ≤ g.i
  pairs : ∀ (k : Nat) (x y : Option Nat), g.old[k]? = some x → g.had[k]? = some y → ∃ b h, x = some b ∧ y = some h ∧ b ≠ g.b ∧ lookL g.os (b : Int) = some (roomAt g.os b) ∧ PR (roomAt g.os b) (bkAt g.oh h) 200 ∧ AtH g.oh h
def playLoop (sc : List Op5) : List (Nat × (St → Option LoopSpec)) :=
  [(7, fun S => match findFc 0 S.res, getT S.fr.tm 4 with
    | some (jr, _), .ptr jw 0 => some { α := PlG, inv := fun g => PlInv sc g, ov := fun g => [(20, .int .i64 (g.i : Int)), (3, .adr 59 (some g.b)), (5, .row (S.res.length + 1)), (6, .row (S.res.length + 2))], rov := fun g => [(jr, .cust (famT rmT) KR.fam g.os), (jw, .blk 0 [.rs oneT g.W.1, .rs oneT g.W.2]), (S.res.length, .fam 50 refT g.oh), (S.res.length + 1, .row 0 (.adr 59) g.old), (S.res.length + 2, .row 0 (.adr 50) g.had)], meas := fun g => sc.length - g.i, nil := [(.slot 5, 24, .adr 59), (.slot 6, 47, .adr 50)], fm := [(50, refT)] }
    | _, _ => none),
   (21, fun S => match getT S.fr.tm 58 with
     | .int _ n => some { α := Nat, inv := fun i => (i : Int) ≤ n, ov := fun i => [(59, .int .i64 (i : Int))], rov := fun _ => [], meas := fun i => n.toNat - i }
     | _ => none),
   (24, fun S => match getT S.fr.tm 67 with
     | .int _ n => some { α := Nat, inv := fun i => (i : Int) ≤ n, ov := fun i => [(68, .int .i64 (i : Int))], rov := fun _ => [], meas := fun i => n.toNat - i }
     | _ => none)]
theorem play_vc (sc : List Op5) : (fvc PP (env PP [p8] [g9, g22, m23, t24, t25] [] [] (playLoop sc)) Try.f6 c6 (ofArgs [.slice opT] (sc, ())) St0 (gives [.bool] (true, ()))) = (
  true = true ∧ ((!true) = true → false = true ∧ True) ∧ ((!true) = false → True ∧ True ∧ True ∧ (∀ (y : Unit × Nat), True → sc.length ≤ maxLen → ∃ (x0 : PlG), PlInv sc x0 ∧ ((True ∧ True) ∧ ((0 : Int) = (↑x0.i : Int) ∧ 
  some y.snd = some x0.b ∧ True ∧ True ∧ (↑sc.length : Int) = (↑sc.length : Int) ∧ sc = sc ∧ True ∧ false = false ∧ sc = sc ∧ True) ∧ (KR.fam = KR.fam ∧ [((↑y.snd : Int), [((0 : Int), [], [])][(0 : Nat)]?.getD noR)] = 
  x0.os) ∧ (x0.W.fst = [] ∧ x0.W.snd = [] ∧ True) ∧ [] = x0.oh ∧ [] = x0.old ∧ [] = x0.had ∧ True) ∧ ∀ (x : PlG), PlInv sc x → (decide ((↑x.i : Int) < (↑sc.length : Int)) = true → ((0 : Int) ≤ (↑x.i : Int) ∧ (↑x.i : Int) 
  < (↑sc.length : Int)) ∧ ∀ (y : Int × Int × Int × Int × Int), sc[(↑x.i : Int).toNat]? = some y → (decide ((↑x.i : Int) ≥ (200 : Int)) = true → x.old.length ≤ maxLen → ∃ (x0 : Nat), ((↑x.old.length : Int) - (↑x0 : 
  Int)).NonNeg ∧ ((True ∧ True) ∧ ((0 : Int) = (↑x0 : Int) ∧ (↑x.old.length : Int) = (↑x.old.length : Int) ∧ true = true ∧ (↑x.i : Int) = (↑x.i : Int) ∧ True ∧ true = true ∧ (↑x.i : Int) = (↑x.i : Int) ∧ some x.b = some 
  x.b ∧ True ∧ True ∧ (↑sc.length : Int) = (↑sc.length : Int) ∧ sc = sc ∧ True ∧ false = false ∧ sc = sc ∧ True) ∧ (KR.fam = KR.fam ∧ x.os = x.os) ∧ (x.W.fst = x.W.fst ∧ x.W.snd = x.W.snd ∧ True) ∧ x.oh = x.oh ∧ x.old = 
  x.old ∧ x.had = x.had ∧ (y.fst = y.fst ∧ y.snd.fst = y.snd.fst ∧ y.snd.snd.fst = y.snd.snd.fst ∧ y.snd.snd.snd.fst = y.snd.snd.snd.fst ∧ y.snd.snd.snd.snd = y.snd.snd.snd.snd ∧ True) ∧ True) ∧ ∀ (x_1 : Nat), 
  ((↑x.old.length : Int) - (↑x_1 : Int)).NonNeg → (decide ((↑x_1 : Int) < (↑x.old.length : Int)) = true → sc.length ≤ maxLen → ((0 : Int) ≤ (some (minI (↑sc.length : Int) (200 : Int))).getD (↑sc.length : Int) ∧ (some 
  (minI (↑sc.length : Int) (200 : Int))).getD (↑sc.length : Int) ≤ (↑sc.length : Int) ∧ (0 : Int) ≤ none.getD (0 : Int) ∧ none.getD (0 : Int) ≤ (some (minI (↑sc.length : Int) (200 : Int))).getD (↑sc.length : Int)) ∧ 
  ((List.drop (0 : Nat) (List.take ((some (minI (↑sc.length : Int) (200 : Int))).getD (↑sc.length : Int)).toNat sc)).length ≤ maxLen → ∃ (x0 : Nat), ((↑(List.drop (0 : Nat) (List.take ((some (minI (↑sc.length : Int) (200 
  : Int))).getD (↑sc.length : Int)).toNat sc)).length : Int) - (↑x0 : Int)).NonNeg ∧ ((True ∧ True) ∧ ((0 : Int) = (↑x0 : Int) ∧ (↑(List.drop (0 : Nat) (List.take ((some (minI (↑sc.length : Int) (200 : Int))).getD 
  (↑sc.length : Int)).toNat sc)).length : Int) = (↑(List.drop (0 : Nat) (List.take ((some (minI (↑sc.length : Int) (200 : Int))).getD (↑sc.length : Int)).toNat sc)).length : Int) ∧ List.drop (0 : Nat) (List.take ((some 
  (minI (↑sc.length : Int) (200 : Int))).getD (↑sc.length : Int)).toNat sc) = List.drop (0 : Nat) (List.take ((some (minI (↑sc.length : Int) (200 : Int))).getD (↑sc.length : Int)).toNat sc) ∧ (↑x_1 : Int) = (↑x_1 : Int) 
  ∧ true = true ∧ (↑x_1 : Int) = (↑x_1 : Int) ∧ (↑x.old.length : Int) = (↑x.old.length : Int) ∧ true = true ∧ (↑x.i : Int) = (↑x.i : Int) ∧ True ∧ true = true ∧ (↑x.i : Int) = (↑x.i : Int) ∧ some x.b = some x.b ∧ True ∧ 
  True ∧ (↑sc.length : Int) = (↑sc.length : Int) ∧ sc = sc ∧ True ∧ false = false ∧ sc = sc ∧ True) ∧ (KR.fam = KR.fam ∧ x.os = x.os) ∧ (x.W.fst = x.W.fst ∧ x.W.snd = x.W.snd ∧ True) ∧ x.oh = x.oh ∧ x.old = x.old ∧ x.had 
  = x.had ∧ (y.fst = y.fst ∧ y.snd.fst = y.snd.fst ∧ y.snd.snd.fst = y.snd.snd.fst ∧ y.snd.snd.snd.fst = y.snd.snd.snd.fst ∧ y.snd.snd.snd.snd = y.snd.snd.snd.snd ∧ True) ∧ True) ∧ ∀ (x_2 : Nat), ((↑(List.drop (0 : Nat) 
  (List.take ((some (minI (↑sc.length : Int) (200 : Int))).getD (↑sc.length : Int)).toNat sc)).length : Int) - (↑x_2 : Int)).NonNeg → (decide ((↑x_2 : Int) < (↑(List.drop (0 : Nat) (List.take ((some (minI (↑sc.length : 
  Int) (200 : Int))).getD (↑sc.length : Int)).toNat sc)).length : Int)) = true → ((0 : Int) ≤ (↑x_2 : Int) ∧ (↑x_2 : Int) < (↑(List.drop (0 : Nat) (List.take ((some (minI (↑sc.length : Int) (200 : Int))).getD (↑sc.length 
  : Int)).toNat sc)).length : Int)) ∧ ∀ (y_1 : Int × Int × Int × Int × Int), (List.drop (0 : Nat) (List.take ((some (minI (↑sc.length : Int) (200 : Int))).getD (↑sc.length : Int)).toNat sc))[(↑x_2 : Int).toNat]? = some 
  y_1 → ((0 : Int) ≤ (↑x_1 : Int) ∧ (↑x_1 : Int) < (↑x.old.length : Int)) ∧ (↑x_1 : Int).toNat < x.old.length ∧ ∀ (y_2 : Option Nat), x.old[(↑x_1 : Int).toNat]? = some y_2 → ((0 : Int) ≤ (↑x_1 : Int) ∧ (↑x_1 : Int) < 
  (↑x.had.length : Int)) ∧ (↑x_1 : Int).toNat < x.had.length ∧ ∀ (y_3 : Option Nat), x.had[(↑x_1 : Int).toNat]? = some y_3 → (At x.os (y_2.getD (0 : Nat)) (bkAt x.oh (y_3.getD (0 : Nat))) (nOf (roomAt x.os (y_2.getD (0 : 
  Nat))) (bkAt x.oh (y_3.getD (0 : Nat)))) ∧ AtH x.oh (y_3.getD (0 : Nat))) ∧ (y_2 = some (y_2.getD (0 : Nat)) ∧ y_3 = some (y_3.getD (0 : Nat)) ∧ (y_1.fst = y_1.fst ∧ y_1.snd.fst = y_1.snd.fst ∧ y_1.snd.snd.fst = 
  y_1.snd.snd.fst ∧ y_1.snd.snd.snd.fst = y_1.snd.snd.snd.fst ∧ y_1.snd.snd.snd.snd = y_1.snd.snd.snd.snd ∧ True) ∧ True) ∧ ((KR.fam = KR.fam ∧ x.os = x.os) ∧ x.oh = x.oh ∧ True) ∧ (∀ (y_4 : Unit), True → ((!true) = true 
  → false = true ∧ True) ∧ ((!true) = false → ∃ (x' : Nat), ((↑(List.drop (0 : Nat) (List.take ((some (minI (↑sc.length : Int) (200 : Int))).getD (↑sc.length : Int)).toNat sc)).length : Int) - (↑x' : Int)).NonNeg ∧ 
  (↑(List.drop (0 : Nat) (List.take ((some (minI (↑sc.length : Int) (200 : Int))).getD (↑sc.length : Int)).toNat sc)).length : Int).toNat - x' < (↑(List.drop (0 : Nat) (List.take ((some (minI (↑sc.length : Int) (200 : 
  Int))).getD (↑sc.length : Int)).toNat sc)).length : Int).toNat - x_2 ∧ (True ∧ True) ∧ (IntKind.i64.wrap ((↑x_2 : Int) + (1 : Int)) = (↑x' : Int) ∧ (↑(List.drop (0 : Nat) (List.take ((some (minI (↑sc.length : Int) (200 
  : Int))).getD (↑sc.length : Int)).toNat sc)).length : Int) = (↑(List.drop (0 : Nat) (List.take ((some (minI (↑sc.length : Int) (200 : Int))).getD (↑sc.length : Int)).toNat sc)).length : Int) ∧ List.drop (0 : Nat) 
  (List.take ((some (minI (↑sc.length : Int) (200 : Int))).getD (↑sc.length : Int)).toNat sc) = List.drop (0 : Nat) (List.take ((some (minI (↑sc.length : Int) (200 : Int))).getD (↑sc.length : Int)).toNat sc) ∧ (↑x_1 : 
  Int) = (↑x_1 : Int) ∧ true = true ∧ (↑x_1 : Int) = (↑x_1 : Int) ∧ (↑x.old.length : Int) = (↑x.old.length : Int) ∧ true = true ∧ (↑x.i : Int) = (↑x.i : Int) ∧ True ∧ true = true ∧ (↑x.i : Int) = (↑x.i : Int) ∧ some x.b 
  = some x.b ∧ True ∧ True ∧ (↑sc.length : Int) = (↑sc.length : Int) ∧ sc = sc ∧ True ∧ false = false ∧ sc = sc ∧ True) ∧ (KR.fam = KR.fam ∧ x.os = x.os) ∧ (x.W.fst = x.W.fst ∧ x.W.snd = x.W.snd ∧ True) ∧ x.oh = x.oh ∧ 
  x.old = x.old ∧ x.had = x.had ∧ (y.fst = y.fst ∧ y.snd.fst = y.snd.fst ∧ y.snd.snd.fst = y.snd.snd.fst ∧ y.snd.snd.snd.fst = y.snd.snd.snd.fst ∧ y.snd.snd.snd.snd = y.snd.snd.snd.snd ∧ True) ∧ True)) ∧ True) ∧ (decide 
  ((↑x_2 : Int) < (↑(List.drop (0 : Nat) (List.take ((some (minI (↑sc.length : Int) (200 : Int))).getD (↑sc.length : Int)).toNat sc)).length : Int)) = false → ∃ (x' : Nat), ((↑x.old.length : Int) - (↑x' : Int)).NonNeg ∧ 
  (↑x.old.length : Int).toNat - x' < (↑x.old.length : Int).toNat - x_1 ∧ (True ∧ True) ∧ (IntKind.i64.wrap ((↑x_1 : Int) + (1 : Int)) = (↑x' : Int) ∧ (↑x.old.length : Int) = (↑x.old.length : Int) ∧ true = true ∧ (↑x.i : 
  Int) = (↑x.i : Int) ∧ True ∧ true = true ∧ (↑x.i : Int) = (↑x.i : Int) ∧ some x.b = some x.b ∧ True ∧ True ∧ (↑sc.length : Int) = (↑sc.length : Int) ∧ sc = sc ∧ True ∧ false = false ∧ sc = sc ∧ True) ∧ (KR.fam = KR.fam 
  ∧ x.os = x.os) ∧ (x.W.fst = x.W.fst ∧ x.W.snd = x.W.snd ∧ True) ∧ x.oh = x.oh ∧ x.old = x.old ∧ x.had = x.had ∧ (y.fst = y.fst ∧ y.snd.fst = y.snd.fst ∧ y.snd.snd.fst = y.snd.snd.fst ∧ y.snd.snd.snd.fst = 
  y.snd.snd.snd.fst ∧ y.snd.snd.snd.snd = y.snd.snd.snd.snd ∧ True) ∧ True))) ∧ (decide ((↑x_1 : Int) < (↑x.old.length : Int)) = false → true = true ∧ True)) ∧ (decide ((↑x.i : Int) ≥ (200 : Int)) = false → ((y.fst == (7 
  : Int)) = true → ((∀ (x_1 : Int × List Int), List.Mem x_1 (als (roomAt x.os x.b)) → x_1.snd.length ≤ (1000000000000 : Nat)) ∧ lookL x.os (↑x.b : Int) = some (copyC.inn (roomAt x.os x.b))) ∧ (some x.b = some x.b ∧ True) 
  ∧ ((KR.fam = KR.fam ∧ x.os = x.os) ∧ True) ∧ (∀ (y : List (Int × List Int) × Nat), y.fst.Perm (als (roomAt x.os x.b)) ∧ lookL x.os (↑y.snd : Int) = none → ((some y.snd).isNone = true → false = true ∧ True) ∧ ((some 
  y.snd).isNone = false → (x.old.length + [some x.b].length) * (8 : Nat) ≤ (140737488355328 : Nat) ∧ (x.W.fst.length ≤ (1000000 : Nat) ∧ x.W.snd.length ≤ (1000000 : Nat)) ∧ (True ∧ True) ∧ ((x.W.fst = x.W.fst ∧ x.W.snd = 
  x.W.snd ∧ True) ∧ x.oh = x.oh ∧ True) ∧ (∀ (y_1 : Nat), lookN x.oh y_1 = none → (x.had.length + [some y_1].length) * (8 : Nat) ≤ (140737488355328 : Nat) ∧ ∃ (x' : PlG), PlInv sc x' ∧ sc.length - x'.i < sc.length - x.i 
  ∧ (True ∧ True) ∧ (IntKind.i64.wrap ((↑x.i : Int) + (1 : Int)) = (↑x'.i : Int) ∧ some y.snd = some x'.b ∧ True ∧ True ∧ (↑sc.length : Int) = (↑sc.length : Int) ∧ sc = sc ∧ True ∧ false = false ∧ sc = sc ∧ True) ∧ 
  (KR.fam = KR.fam ∧ insL x.os (↑x.b : Int) ([roomAt x.os x.b, (last (roomAt x.os x.b), tks (roomAt x.os x.b), y.fst)][(0 : Nat)]?.getD (copyC.inn (roomAt x.os x.b))) ++ [((↑y.snd : Int), [roomAt x.os x.b, (last (roomAt 
  x.os x.b), tks (roomAt x.os x.b), y.fst)][(1 : Nat)]?.getD (copyC.inn (roomAt x.os x.b)))] = x'.os) ∧ (x.W.fst = x'.W.fst ∧ x.W.snd = x'.W.snd ∧ True) ∧ (y_1, (1 : Nat), [(x.W.fst, x.W.snd)]) :: x.oh = x'.oh ∧ x.old ++ 
  [some x.b] = x'.old ∧ x.had ++ [some y_1] = x'.had ∧ True) ∧ True)) ∧ True) ∧ ((y.fst == (7 : Int)) = false → At x.os x.b (x.W.fst, x.W.snd) (nOf (roomAt x.os x.b) (x.W.fst, x.W.snd)) ∧ (some x.b = some x.b ∧ True ∧ 
  (y.fst = y.fst ∧ y.snd.fst = y.snd.fst ∧ y.snd.snd.fst = y.snd.snd.fst ∧ y.snd.snd.snd.fst = y.snd.snd.snd.fst ∧ y.snd.snd.snd.snd = y.snd.snd.snd.snd ∧ True) ∧ True) ∧ ((KR.fam = KR.fam ∧ x.os = x.os) ∧ (x.W.fst = 
  x.W.fst ∧ x.W.snd = x.W.snd ∧ True) ∧ True) ∧ (∀ (y_1 : Rm × Bk), PR y_1.fst y_1.snd (nOf (roomAt x.os x.b) (x.W.fst, x.W.snd) + (1 : Nat)) → ((!true) = false → At (insL x.os (↑x.b : Int) y_1.fst) x.b (y_1.snd.fst, 
  y_1.snd.snd) (nOf (roomAt (insL x.os (↑x.b : Int) y_1.fst) x.b) (y_1.snd.fst, y_1.snd.snd)) ∧ (some x.b = some x.b ∧ True ∧ (y.fst = y.fst ∧ y.snd.fst = y.snd.fst ∧ y.snd.snd.fst = y.snd.snd.fst ∧ y.snd.snd.snd.fst = 
  y.snd.snd.snd.fst ∧ y.snd.snd.snd.snd = y.snd.snd.snd.snd ∧ True) ∧ True) ∧ ((KR.fam = KR.fam ∧ insL x.os (↑x.b : Int) y_1.fst = insL x.os (↑x.b : Int) y_1.fst) ∧ (y_1.snd.fst = y_1.snd.fst ∧ y_1.snd.snd = y_1.snd.snd 
  ∧ True) ∧ True) ∧ (∀ (y : Unit), True → ((!true) = true → false = true ∧ True) ∧ ((!true) = false → ∃ (x' : PlG), PlInv sc x' ∧ sc.length - x'.i < sc.length - x.i ∧ (True ∧ True) ∧ (IntKind.i64.wrap ((↑x.i : Int) + (1 
  : Int)) = (↑x'.i : Int) ∧ some x.b = some x'.b ∧ True ∧ True ∧ (↑sc.length : Int) = (↑sc.length : Int) ∧ sc = sc ∧ True ∧ false = false ∧ sc = sc ∧ True) ∧ (KR.fam = KR.fam ∧ insL x.os (↑x.b : Int) y_1.fst = x'.os) ∧ 
  (y_1.snd.fst = x'.W.fst ∧ y_1.snd.snd = x'.W.snd ∧ True) ∧ x.oh = x'.oh ∧ x.old = x'.old ∧ x.had = x'.had ∧ True)) ∧ True) ∧ ((!true) = !false → false = true ∧ True)) ∧ True))) ∧ (decide ((↑x.i : Int) < (↑sc.length : 
  Int)) = false → x.old.length ≤ maxLen → ∃ (x0 : Nat), ((↑x.old.length : Int) - (↑x0 : Int)).NonNeg ∧ ((True ∧ True) ∧ ((0 : Int) = (↑x0 : Int) ∧ (↑x.old.length : Int) = (↑x.old.length : Int) ∧ false = false ∧ (↑x.i : 
  Int) = (↑x.i : Int) ∧ some x.b = some x.b ∧ True ∧ True ∧ (↑sc.length : Int) = (↑sc.length : Int) ∧ sc = sc ∧ True ∧ false = false ∧ sc = sc ∧ True) ∧ (KR.fam = KR.fam ∧ x.os = x.os) ∧ (x.W.fst = x.W.fst ∧ x.W.snd = 
  x.W.snd ∧ True) ∧ x.oh = x.oh ∧ x.old = x.old ∧ x.had = x.had ∧ True) ∧ ∀ (x_1 : Nat), ((↑x.old.length : Int) - (↑x_1 : Int)).NonNeg → (decide ((↑x_1 : Int) < (↑x.old.length : Int)) = true → sc.length ≤ maxLen → ((0 : 
  Int) ≤ (some (minI (↑sc.length : Int) (200 : Int))).getD (↑sc.length : Int) ∧ (some (minI (↑sc.length : Int) (200 : Int))).getD (↑sc.length : Int) ≤ (↑sc.length : Int) ∧ (0 : Int) ≤ none.getD (0 : Int) ∧ none.getD (0 : 
  Int) ≤ (some (minI (↑sc.length : Int) (200 : Int))).getD (↑sc.length : Int)) ∧ ((List.drop (0 : Nat) (List.take ((some (minI (↑sc.length : Int) (200 : Int))).getD (↑sc.length : Int)).toNat sc)).length ≤ maxLen → ∃ (x0 
  : Nat), ((↑(List.drop (0 : Nat) (List.take ((some (minI (↑sc.length : Int) (200 : Int))).getD (↑sc.length : Int)).toNat sc)).length : Int) - (↑x0 : Int)).NonNeg ∧ ((True ∧ True) ∧ ((0 : Int) = (↑x0 : Int) ∧ 
  (↑(List.drop (0 : Nat) (List.take ((some (minI (↑sc.length : Int) (200 : Int))).getD (↑sc.length : Int)).toNat sc)).length : Int) = (↑(List.drop (0 : Nat) (List.take ((some (minI (↑sc.length : Int) (200 : Int))).getD 
  (↑sc.length : Int)).toNat sc)).length : Int) ∧ List.drop (0 : Nat) (List.take ((some (minI (↑sc.length : Int) (200 : Int))).getD (↑sc.length : Int)).toNat sc) = List.drop (0 : Nat) (List.take ((some (minI (↑sc.length : 
  Int) (200 : Int))).getD (↑sc.length : Int)).toNat sc) ∧ (↑x_1 : Int) = (↑x_1 : Int) ∧ true = true ∧ (↑x_1 : Int) = (↑x_1 : Int) ∧ (↑x.old.length : Int) = (↑x.old.length : Int) ∧ false = false ∧ (↑x.i : Int) = (↑x.i : 
  Int) ∧ some x.b = some x.b ∧ True ∧ True ∧ (↑sc.length : Int) = (↑sc.length : Int) ∧ sc = sc ∧ True ∧ false = false ∧ sc = sc ∧ True) ∧ (KR.fam = KR.fam ∧ x.os = x.os) ∧ (x.W.fst = x.W.fst ∧ x.W.snd = x.W.snd ∧ True) ∧ 
  x.oh = x.oh ∧ x.old = x.old ∧ x.had = x.had ∧ True) ∧ ∀ (x_2 : Nat), ((↑(List.drop (0 : Nat) (List.take ((some (minI (↑sc.length : Int) (200 : Int))).getD (↑sc.length : Int)).toNat sc)).length : Int) - (↑x_2 : 
  Int)).NonNeg → (decide ((↑x_2 : Int) < (↑(List.drop (0 : Nat) (List.take ((some (minI (↑sc.length : Int) (200 : Int))).getD (↑sc.length : Int)).toNat sc)).length : Int)) = true → ((0 : Int) ≤ (↑x_2 : Int) ∧ (↑x_2 : 
  Int) < (↑(List.drop (0 : Nat) (List.take ((some (minI (↑sc.length : Int) (200 : Int))).getD (↑sc.length : Int)).toNat sc)).length : Int)) ∧ ∀ (y : Int × Int × Int × Int × Int), (List.drop (0 : Nat) (List.take ((some 
  (minI (↑sc.length : Int) (200 : Int))).getD (↑sc.length : Int)).toNat sc))[(↑x_2 : Int).toNat]? = some y → ((0 : Int) ≤ (↑x_1 : Int) ∧ (↑x_1 : Int) < (↑x.old.length : Int)) ∧ (↑x_1 : Int).toNat < x.old.length ∧ ∀ (y_1 
  : Option Nat), x.old[(↑x_1 : Int).toNat]? = some y_1 → ((0 : Int) ≤ (↑x_1 : Int) ∧ (↑x_1 : Int) < (↑x.had.length : Int)) ∧ (↑x_1 : Int).toNat < x.had.length ∧ ∀ (y_2 : Option Nat), x.had[(↑x_1 : Int).toNat]? = some y_2 
  → (At x.os (y_1.getD (0 : Nat)) (bkAt x.oh (y_2.getD (0 : Nat))) (nOf (roomAt x.os (y_1.getD (0 : Nat))) (bkAt x.oh (y_2.getD (0 : Nat)))) ∧ AtH x.oh (y_2.getD (0 : Nat))) ∧ (y_1 = some (y_1.getD (0 : Nat)) ∧ y_2 = 
  some (y_2.getD (0 : Nat)) ∧ (y.fst = y.fst ∧ y.snd.fst = y.snd.fst ∧ y.snd.snd.fst = y.snd.snd.fst ∧ y.snd.snd.snd.fst = y.snd.snd.snd.fst ∧ y.snd.snd.snd.snd = y.snd.snd.snd.snd ∧ True) ∧ True) ∧ ((KR.fam = KR.fam ∧ 
  x.os = x.os) ∧ x.oh = x.oh ∧ True) ∧ (∀ (y : Unit), True → ((!true) = true → false = true ∧ True) ∧ ((!true) = false → ∃ (x' : Nat), ((↑(List.drop (0 : Nat) (List.take ((some (minI (↑sc.length : Int) (200 : Int))).getD 
  (↑sc.length : Int)).toNat sc)).length : Int) - (↑x' : Int)).NonNeg ∧ (↑(List.drop (0 : Nat) (List.take ((some (minI (↑sc.length : Int) (200 : Int))).getD (↑sc.length : Int)).toNat sc)).length : Int).toNat - x' < 
  (↑(List.drop (0 : Nat) (List.take ((some (minI (↑sc.length : Int) (200 : Int))).getD (↑sc.length : Int)).toNat sc)).length : Int).toNat - x_2 ∧ (True ∧ True) ∧ (IntKind.i64.wrap ((↑x_2 : Int) + (1 : Int)) = (↑x' : Int) 
  ∧ (↑(List.drop (0 : Nat) (List.take ((some (minI (↑sc.length : Int) (200 : Int))).getD (↑sc.length : Int)).toNat sc)).length : Int) = (↑(List.drop (0 : Nat) (List.take ((some (minI (↑sc.length : Int) (200 : Int))).getD 
  (↑sc.length : Int)).toNat sc)).length : Int) ∧ List.drop (0 : Nat) (List.take ((some (minI (↑sc.length : Int) (200 : Int))).getD (↑sc.length : Int)).toNat sc) = List.drop (0 : Nat) (List.take ((some (minI (↑sc.length : 
  Int) (200 : Int))).getD (↑sc.length : Int)).toNat sc) ∧ (↑x_1 : Int) = (↑x_1 : Int) ∧ true = true ∧ (↑x_1 : Int) = (↑x_1 : Int) ∧ (↑x.old.length : Int) = (↑x.old.length : Int) ∧ false = false ∧ (↑x.i : Int) = (↑x.i : 
  Int) ∧ some x.b = some x.b ∧ True ∧ True ∧ (↑sc.length : Int) = (↑sc.length : Int) ∧ sc = sc ∧ True ∧ false = false ∧ sc = sc ∧ True) ∧ (KR.fam = KR.fam ∧ x.os = x.os) ∧ (x.W.fst = x.W.fst ∧ x.W.snd = x.W.snd ∧ True) ∧ 
  x.oh = x.oh ∧ x.old = x.old ∧ x.had = x.had ∧ True)) ∧ True) ∧ (decide ((↑x_2 : Int) < (↑(List.drop (0 : Nat) (List.take ((some (minI (↑sc.length : Int) (200 : Int))).getD (↑sc.length : Int)).toNat sc)).length : Int)) 
  = false → ∃ (x' : Nat), ((↑x.old.length : Int) - (↑x' : Int)).NonNeg ∧ (↑x.old.length : Int).toNat - x' < (↑x.old.length : Int).toNat - x_1 ∧ (True ∧ True) ∧ (IntKind.i64.wrap ((↑x_1 : Int) + (1 : Int)) = (↑x' : Int) ∧ 
  (↑x.old.length : Int) = (↑x.old.length : Int) ∧ false = false ∧ (↑x.i : Int) = (↑x.i : Int) ∧ some x.b = some x.b ∧ True ∧ True ∧ (↑sc.length : Int) = (↑sc.length : Int) ∧ sc = sc ∧ True ∧ false = false ∧ sc = sc ∧ 
  True) ∧ (KR.fam = KR.fam ∧ x.os = x.os) ∧ (x.W.fst = x.W.fst ∧ x.W.snd = x.W.snd ∧ True) ∧ x.oh = x.oh ∧ x.old = x.old ∧ x.had = x.had ∧ True))) ∧ (decide ((↑x_1 : Int) < (↑x.old.length : Int)) = false → true = true ∧ 
  True))) ∧ True)) := by kernel_rfl
end Go.Proofs.Ytfdcmbaoekjkgaa
namespace Go.Proofs.Ytfdcmbaoekjkgaa
open Go.Proofs.Ytfdcmbaoekjkgaa.Gx
set_option maxRecDepth 100000
set_option maxHeartbeats 4000000
set_option linter.unusedSimpArgs false
set_option linter.unusedVariables false
theorem at_of {os : List (Int × Rm)} {b : Nat} {W : Bk} {m : Nat} (hl : lookL os (b : Int) = some (roomAt os b)) (h : PR (roomAt os b) W m) (hm : m ≤ 200) : At os b W (nOf (roomAt os b) W) :=
  ⟨by have := h.least.2; omega, hl, h.least.1⟩
theorem lookL_snoc {α : Type} : (l : List (Int × α)) → (k : Int) → (v : α) → (j : Int) → lookL (l ++ [(k, v)]) j = match lookL l j with | some x => some x | none => if k = j then some v else none
  | [], k, v, j => rfl
  | (a, x) :: l, k, v, j => by
    show (if a = j then some x else lookL (l ++ [(k, v)]) j) = _
    rw [lookL_snoc l k v j]
    show _ = match (if a = j then some x else lookL l j) with | some x => some x | none => if k = j then some v else none
    by_cases e : a = j
    · simp [e]
    · simp [e]
theorem roomAt_of {os : List (Int × Rm)} {b : Nat} {R : Rm} (h : lookL os (b : Int) = some R) : roomAt os b = R := by unfold roomAt; rw [h]; rfl
theorem bkAt_cons {oh : OH} {h z : Nat} {W : Bk} (hz : lookN oh z = none) (ha : AtH oh h) : bkAt ((z, 1, [W]) :: oh) h = bkAt oh h ∧ AtH ((z, 1, [W]) :: oh) h := by
  have hne : z ≠ h := fun e => by
    have := ha.get
    rw [← e] at this
    unfold famGet at this; rw [hz] at this; cases this
  have e : famGet ((z, 1, [W]) :: oh) h 0 = famGet oh h 0 := by
    have e0 : lookN ((z, 1, [W]) :: oh) h = lookN oh h := by
      show (if z = h then some (1, [W]) else lookN oh h) = _
      rw [if_neg hne]
    unfold famGet; rw [e0]
  have e2 : bkAt ((z, 1, [W]) :: oh) h = bkAt oh h := by unfold bkAt; rw [e]
  exact ⟨e2, by rw [e, e2]; exact ha.get, by rw [e2]; exact ha.few⟩
theorem bkAt_new {oh : OH} {z : Nat} {W : Bk} (hf : fewB W) : bkAt ((z, 1, [W]) :: oh) z = W ∧ AtH ((z, 1, [W]) :: oh) z := by
  have e : famGet ((z, 1, [W]) :: oh) z 0 = some W := by
    have e0 : lookN ((z, 1, [W]) :: oh) z = some (1, [W]) := by
      show (if z = z then some (1, [W]) else lookN oh z) = _
      rw [if_pos rfl]
    unfold famGet; rw [e0]; rfl
  have e2 : bkAt ((z, 1, [W]) :: oh) z = W := by unfold bkAt; rw [e]; rfl
  exact ⟨e2, by rw [e, e2], by rw [e2]; exact hf⟩
theorem snoc_at {α : Type} {l : List α} {v x : α} {k : Nat} (h : (l ++ [v])[k]? = some x) : l[k]? = some x ∨ k = l.length ∧ x = v := by
  by_cases hk : k < l.length
  · rw [List.getElem?_append_left hk] at h; exact .inl h
  · have hlt : k < (l ++ [v]).length := (List.getElem?_eq_some_iff.1 h).1
    rw [List.length_append] at hlt
    have hk2 : k = l.length := by simp at hlt; omega
    subst hk2
    rw [List.getElem?_append_right (Nat.le_refl _)] at h
    simp at h
    exact .inr ⟨rfl, h.symm⟩
theorem PlInv.step {sc : List Op5} {g : PlG} (h : PlInv sc g) {R : Rm} {W : Bk} (hp : PR R W (g.i + 1)) (h1 : g.i + 1 ≤ sc.length) (h2 : g.i + 1 ≤ 200) : PlInv sc ⟨g.i + 1, g.b, insL g.os (g.b : Int) R, W, g.old, g.had, g.oh⟩ := by
  have e : lookL (insL g.os (g.b : Int) R) (g.b : Int) = some R := by rw [lookL_insL, if_pos rfl]
  have e2 := roomAt_of e
  refine ⟨h1, h2, by rw [e2]; exact e, by rw [e2]; exact hp, h.len, Nat.le_succ_of_le h.short, fun k x y hx hy => ?_⟩
  obtain ⟨b, z, rfl, rfl, hne, hl, hpr, ha⟩ := h.pairs k x y hx hy
  have e3 : lookL (insL g.os (g.b : Int) R) (b : Int) = some (roomAt g.os b) := by rw [lookL_insL, if_neg (by omega)]; exact hl
  exact ⟨b, z, rfl, rfl, hne, by rw [roomAt_of e3]; exact e3, by rw [roomAt_of e3]; exact hpr, ha⟩
theorem PlInv.copy {sc : List Op5} {g : PlG} (h : PlInv sc g) {a : List (Int × List Int)} {c z : Nat} (ha : a.Perm (als (roomAt g.os g.b))) (hc : lookL g.os (c : Int) = none) (hz : lookN g.oh z = none) (hf : fewB g.W) (h1 : g.i + 1 ≤ sc.length) (h2 : g.i + 1 ≤ 200) :
    PlInv sc ⟨g.i + 1, c, insL g.os (g.b : Int) (roomAt g.os g.b) ++ [((c : Int), (last (roomAt g.os g.b), tks (roomAt g.os g.b), a))], g.W, g.old ++ [some g.b], g.had ++ [some z], (z, 1, [(g.W.1, g.W.2)]) :: g.oh⟩ := by
  rw [insL_same h.look]
  have hcb : c ≠ g.b := fun e => by rw [e, h.look] at hc; cases hc
  have enew : lookL (g.os ++ [((c : Int), (last (roomAt g.os g.b), tks (roomAt g.os g.b), a))]) (c : Int) = some (last (roomAt g.os g.b), tks (roomAt g.os g.b), a) := by
    rw [lookL_snoc, hc]; simp
  have eold : ∀ {b : Nat} {R : Rm}, lookL g.os (b : Int) = some R → lookL (g.os ++ [((c : Int), (last (roomAt g.os g.b), tks (roomAt g.os g.b), a))]) (b : Int) = some R := fun {b R} e => by
    rw [lookL_snoc, e]
  refine ⟨h1, h2, by rw [roomAt_of enew]; exact enew, by rw [roomAt_of enew]; exact (h.pr.copy ha).mono (Nat.le_succ _), by simp [h.len], by have := h.short; simp; omega, fun k x y hx hy => ?_⟩
  rcases snoc_at hx with hx' | ⟨hk, rfl⟩
  · have hk : k < g.old.length := (List.getElem?_eq_some_iff.1 hx').1
    rcases snoc_at hy with hy' | ⟨hk2, rfl⟩
    · obtain ⟨b, w, rfl, rfl, hne, hl, hpr, hw⟩ := h.pairs k x y hx' hy'
      obtain ⟨p1, p2⟩ := bkAt_cons (W := (g.W.1, g.W.2)) hz hw
      refine ⟨b, w, rfl, rfl, fun e => ?_, by rw [roomAt_of (eold hl)]; exact eold hl, by rw [roomAt_of (eold hl), p1]; exact hpr, p2⟩
      have e : b = c := e
      rw [e, hc] at hl; cases hl
    · have := h.len; omega
  · rcases snoc_at hy with hy' | ⟨hk2, rfl⟩
    · have hk3 : k < g.had.length := (List.getElem?_eq_some_iff.1 hy').1
      have := h.len; omega
    · obtain ⟨p1, p2⟩ := bkAt_new (oh := g.oh) (z := z) (W := (g.W.1, g.W.2)) hf
      exact ⟨g.b, z, rfl, rfl, fun e => hcb e.symm, by rw [roomAt_of (eold h.look)]; exact eold h.look, by rw [roomAt_of (eold h.look), p1]; exact h.pr.mono h.few, p2⟩
theorem play_ok : PSpecOk PP 6 (Q [.slice opT] [.bool] (fun _ => true) (fun _ => (true, ()))) := by
  refine pspec_Q mixed (fn := Try.f6) (c := c6) rfl rfl _ _ rfl ?_
  rintro ⟨sc, ⟨⟩⟩ - -
  refine ⟨env PP [p8] [g9, g22, m23, t24, t25] [] [] (playLoop sc), env_ok .., rfl, hold (play_vc sc) ?_⟩
  simp only [true_and, and_true]
  refine ⟨fun h => (by simp at h), fun _ b0 _ hA => ⟨⟨0, b0.2, [((b0.2 : Int), noR)], ([], []), [], [], []⟩, ?_, ⟨⟨rfl, rfl⟩, rfl, ⟨rfl, rfl⟩, rfl, rfl, rfl⟩, ?_⟩⟩
  · have e : lookL [((b0.2 : Int), noR)] (b0.2 : Int) = some noR := by simp [lookL]
    refine ⟨Nat.zero_le _, Nat.zero_le _, by rw [roomAt_of e]; exact e, by rw [roomAt_of e]; exact PR.zero, rfl, Nat.le_refl _, fun k x y hx hy => (by simp at hx)⟩
  intro x hx
  obtain ⟨xi, xb, os, ⟨W1, W2⟩, old, had, oh⟩ := x
  have hat := at_of hx.look hx.pr hx.few
  have hlook := hx.look
  have hpr := hx.pr
  have hle := hx.le
  have hfew := hx.few
  have hshort := hx.short
  have hlen := hx.len
  have hpairs := hx.pairs
  simp only at hat hlook hpr hle hfew hshort hlen hpairs ⊢
  refine ⟨fun hlt => ?_, ?fin2⟩
  have hlt : xi < sc.length := by simp at hlt; omega
  refine ⟨⟨by omega, by omega⟩, fun op hop => ⟨?fin1, fun h200 => ?_⟩⟩
  case fin1 | fin2 =>
    intro _ hB
    refine ⟨0, show (0 : Int) ≤ (old.length : Int) by omega, rfl, fun i hi => ⟨fun hi2 _ => ?_, fun _ => trivial⟩⟩
    have hi2 : i < old.length := by simp at hi2; omega
    have hm : (0 : Int) ≤ minI (sc.length : Int) 200 ∧ minI (sc.length : Int) 200 ≤ (sc.length : Int) := by unfold minI; split <;> omega
    refine ⟨⟨hm.1, hm.2, Int.le_refl 0, hm.1⟩, ?_⟩
    generalize List.drop 0 (List.take ((some (minI (sc.length : Int) 200)).getD (sc.length : Int)).toNat sc) = l
    intro hC
    refine ⟨0, show (0 : Int) ≤ (l.length : Int) by omega, rfl, fun k hk => ⟨fun hk2 => ?_, fun _ => ⟨i + 1, show ((i + 1 : Nat) : Int) ≤ (old.length : Int) by omega, by omega, wrap_succ hi2 hB⟩⟩⟩
    have hk2 : k < l.length := by simp at hk2; omega
    refine ⟨⟨by omega, by omega⟩, fun op hop => ⟨⟨by omega, by omega⟩, by omega, fun y hy => ⟨⟨by omega, by omega⟩, by omega, fun z hz => ?_⟩⟩⟩
    obtain ⟨b, w, rfl, rfl, hne, hl, hp2, hw⟩ := hpairs _ _ _ hy hz
    exact ⟨⟨at_of hl hp2 (Nat.le_refl _), hw⟩, ⟨rfl, rfl⟩, fun _ _ => ⟨fun h => (by simp at h), fun _ => ⟨k + 1, show ((k + 1 : Nat) : Int) ≤ (l.length : Int) by omega, by omega, wrap_succ hk2 hC⟩⟩⟩
  have h200 : xi + 1 ≤ 200 := by simp at h200; omega
  have hfb := hpr.fewB (by omega)
  refine ⟨fun h7 => ⟨⟨hpr.short, hlook⟩, fun y hy => ⟨fun h => (by simp at h), fun _ => ⟨?_, ⟨?_, ?_⟩, fun z hz => ⟨?_, _, hx.copy hy.1 hy.2 hz hfb hlt h200, ?_, ⟨wrap_succ hlt hA, rfl⟩, rfl, ⟨rfl, rfl⟩, rfl, rfl, rfl⟩⟩⟩⟩, fun h7 => ⟨hat, fun y hy => ⟨fun _ => ⟨?_, fun _ _ => ⟨fun h => (by simp at h), fun _ => ⟨_, hx.step (hy.mono ?_) hlt h200, ?_, ⟨wrap_succ hlt hA, rfl⟩, rfl, ⟨rfl, rfl⟩, rfl, rfl, rfl⟩⟩⟩, fun h => (by simp at h)⟩⟩⟩
  · simp; omega
  · exact Nat.le_trans hfb.1 (by omega)
  · exact Nat.le_trans hfb.2 (by omega)
  · simp; omega
  · simp only; omega
  · have h := (hx.step (hy.mono (Nat.succ_le_succ hpr.least.2)) hlt h200)
    exact at_of h.look h.pr h.few
  · exact Nat.succ_le_succ hpr.least.2
  · simp only; omega
end Go.Proofs.Ytfdcmbaoekjkgaa
