/- What the functions give, in plain Lean, and the laws of labels and of the passage; no condition. -/
import Derived.Test.YtddbideknibckaaGc
namespace Go.Proofs.Ytddbideknibckaa
abbrev Lab := Int × List (Int × Int)

def atR (d : Int) : List (Int × Int) → Int → Int
  | [], _ => d
  | x :: l, c => if x.1 == c then x.2 else atR d l c
def atL (l : Lab) (c : Int) : Int := atR l.1 l.2 c

def hasR (v : Int) : List (Int × Int) → Bool
  | [] => false
  | x :: l => x.2 == v || hasR v l
def hasL (l : Lab) (v : Int) : Bool := hasR v l.2 || l.1 == v

/-- The merge of two rows. -/
def mrg (d e : Int) : Nat → List (Int × Int) → List (Int × Int) → List (Int × Int × Int)
  | 0, _, _ => []
  | _ + 1, [], [] => []
  | n + 1, x :: A, [] => (max x.1 0, x.2, e) :: mrg d e n A []
  | n + 1, [], y :: B => (max 0 y.1, d, y.2) :: mrg d e n [] B
  | n + 1, x :: A, y :: B => if x.1 < y.1 then (max x.1 0, x.2, e) :: mrg d e n A (y :: B) else if y.1 < x.1 then (max 0 y.1, d, y.2) :: mrg d e n (x :: A) B else (max x.1 y.1, x.2, y.2) :: mrg d e n A B
def levL (a b : Lab) (i k : Nat) : List (Int × Int × Int) := mrg a.1 b.1 (a.2.length + b.2.length - i - k) (a.2.drop i) (b.2.drop k)
def leqM (a b : Lab) : Bool := decide (a.1 ≤ b.1) && (levL a b 0 0).all fun x => decide (x.2.1 ≤ x.2.2)
end Go.Proofs.Ytddbideknibckaa
namespace Go.Proofs.Ytddbideknibckaa
abbrev maxId : Int := 2305843009213693951
def levelB (n : Int) : Bool := decide (0 ≤ n) && decide (n ≤ 5)
def catB (n : Int) : Bool := decide (1 ≤ n) && decide (n ≤ maxId)
def rowsR (d : Int) : Int → List (Int × Int) → Bool
  | _, [] => true
  | last, x :: l => decide (last < x.1) && (decide (x.1 ≤ maxId) && (levelB x.2 && (!(x.2 == d) && rowsR d x.1 l)))
def rightL (l : Lab) : Bool := levelB l.1 && (decide (l.2.length ≤ 16) && rowsR l.1 0 l.2)
def plainL (l : Lab) : Bool := rightL l && !hasL l 5
def freeL (l : Lab) : Bool := plainL l && !hasL l 0
def sayL (b : Bool) : Int := bif b then 0 else 3
def at0 (l : Lab) (c : Int) : Int := if c = 0 then l.1 else atL l c
def ruleL (l : List Bool) : Int := bif l.all id then 0 else 3
def putL (l : Lab) (c v : Int) : Lab := if v = l.1 then l else (l.1, l.2 ++ [(c, v)])
def turn1 (a b v : Int) : Int := if v = a then b else v
def turnR (d a b : Int) : List (Int × Int) → List (Int × Int)
  | [] => []
  | x :: l => if turn1 a b x.2 = d then turnR d a b l else (x.1, turn1 a b x.2) :: turnR d a b l
def turnL (l : Lab) (a b : Int) : Lab := (turn1 a b l.1, turnR (turn1 a b l.1) a b l.2)
def upL (l : Lab) : Lab := turnL l 0 5
def downL (l : Lab) : Lab := turnL l 5 0
def insN (c : Int) : List Int → List Int
  | [] => [c]
  | y :: l => if y < c then y :: insN c l else if y = c then y :: l else c :: y :: l
def addN (o : List Int) (l : List (Int × Int)) : List Int := l.foldl (fun o x => insN x.1 o) o
def namedL (ls : List Lab) : List Int := ls.foldl (fun o l => addN o l.2) []
def leqN (a b : Lab) : Bool := (namedL [a, b]).all (fun c => decide (atL a c ≤ atL b c)) && decide (a.1 ≤ b.1)
def seesM (t o : Lab) : Bool := leqM o (upL t)
def altersM (t o : Lab) : Bool := leqM t o && seesM t o
def seesN (t o : Lab) : Bool := leqN o (upL t)
def altersN (t o : Lab) : Bool := leqN t o && seesN t o
def belowL (l a b : Lab) : Bool := (namedL [l, a, b] ++ [0]).all fun c => decide (at0 l c ≤ max (at0 a c) (at0 b c))
def topC (bs : List Lab) (c : Int) : Int := bs.foldl (fun n b => max n (atL b c)) 0
def topD (bs : List Lab) : Int := bs.foldl (fun n b => max n b.1) 0
def underL (l : Lab) (bs : List Lab) : Bool := ((l :: bs).all fun b => b.2.all fun x => decide (atL l x.1 ≤ topC bs x.1)) && decide (l.1 ≤ topD bs)
def makeM (t c box l : Lab) : Int := ruleL [altersM t box, leqM t l, leqM l c, underL box [upL l, (2, [])]]
def makeN (t c box l : Lab) : Int := sayL (altersN t box && (leqN t l && (leqN l c && belowL box (upL l) (2, []))))
end Go.Proofs.Ytddbideknibckaa
namespace Go.Proofs.Ytddbideknibckaa
def rightsL (ls : List Lab) : Bool := ls.all rightL
def formsL (l c : Lab) : Bool := plainL l && freeL c
def floorC (x y : Int) : Int := if x = 0 ∨ y = 0 ∨ x = 5 ∨ y = 5 then 0 else max x y
def floorN (t g : Lab) (c : Int) : Int := floorC (at0 t c) (at0 g c)
def topF (f : Lab → Int) (bs : List Lab) : Int := bs.foldl (fun n b => max n (f b)) 0
def undB (l : Lab) (bs : List Lab) (b : Lab) : Bool := b.2.all fun x => decide (atL l x.1 ≤ topF (fun b => atL b x.1) bs)
def aboveB (t g w : Lab) (f : Lab → Int) : Bool := (f t == 0 || f g == 0) || decide (max (f t) (f g) ≤ f w)
def aboveL (t g w l : Lab) : Bool := l.2.all fun x => aboveB t g w (fun m => atL m x.1)
def floorM (t g w : Lab) : Bool := aboveB t g w (fun m => m.1) && [t, g, w].all (aboveL t g w)
def enterM (t c g gc w wc : Lab) : Int := bif formsL w wc then ruleL [leqM t gc, floorM t g w, leqM w wc, underL wc [c, gc]] else 1
def okN (t c gc w wc : Lab) : Bool := leqN t gc && leqN w wc && belowL wc c gc
def enterN (t c g gc w wc : Lab) : Int := bif plainL w && freeL wc then sayL (okN t c gc w wc && (namedL [t, g, w] ++ [0]).all fun k => decide (floorN t g k ≤ at0 w k)) else 1
def lendM (t c l m : Lab) : Int := bif formsL l m then ruleL [leqM t l, leqM l m, leqM m c] else 1
def riseM (t c w : Lab) : Int := bif plainL w then ruleL [leqM t w, leqM w c] else 1
def clearM (t c w : Lab) : Int := bif freeL w then ruleL [leqM t w, underL w [c, upL t]] else 1
def lendN (t c l m : Lab) : Int := bif plainL l && freeL m then sayL (leqN t l && leqN l m && leqN m c) else 1
def riseN (t c w : Lab) : Int := bif plainL w then sayL (leqN t w && leqN w c) else 1
def clearN (t c w : Lab) : Int := bif freeL w then sayL (leqN t w && belowL w c (upL t)) else 1
end Go.Proofs.Ytddbideknibckaa
namespace Go.Proofs.Ytddbideknibckaa
open Go.Proofs.Ytddbideknibckaa.Gx

theorem mrg_fuel (d e : Int) : (n m : Nat) → (A B : List (Int × Int)) → A.length + B.length ≤ n → A.length + B.length ≤ m → mrg d e n A B = mrg d e m A B
  | 0, 0, _, _, _, _ => rfl
  | 0, m + 1, A, B, h, _ => by
    have h1 : A = [] := List.eq_nil_of_length_eq_zero (by omega)
    have h2 : B = [] := List.eq_nil_of_length_eq_zero (by omega)
    subst h1; subst h2; rfl
  | n + 1, 0, A, B, _, h => by
    have h1 : A = [] := List.eq_nil_of_length_eq_zero (by omega)
    have h2 : B = [] := List.eq_nil_of_length_eq_zero (by omega)
    subst h1; subst h2; rfl
  | n + 1, m + 1, [], [], _, _ => rfl
  | n + 1, m + 1, x :: A, [], h, h' => by simp only [mrg]; rw [mrg_fuel d e n m A [] (by simp at h ⊢; omega) (by simp at h' ⊢; omega)]
  | n + 1, m + 1, [], y :: B, h, h' => by simp only [mrg]; rw [mrg_fuel d e n m [] B (by simp at h ⊢; omega) (by simp at h' ⊢; omega)]
  | n + 1, m + 1, x :: A, y :: B, h, h' => by
    simp only [List.length_cons] at h h'
    simp only [mrg]
    rw [mrg_fuel d e n m A (y :: B) (by simp; omega) (by simp; omega), mrg_fuel d e n m (x :: A) B (by simp; omega) (by simp; omega), mrg_fuel d e n m A B (by omega) (by omega)]

theorem drop_get {α : Type} {l : List α} {i : Nat} {y : α} (h : l[i]? = some y) : l.drop i = y :: l.drop (i + 1) := by
  obtain ⟨hlt, rfl⟩ := List.getElem?_eq_some_iff.1 h
  exact List.drop_eq_getElem_cons hlt

theorem get_cases {α : Type} (l : List α) (i : Nat) (h : i ≤ l.length) : (∃ x, l[i]? = some x ∧ i < l.length) ∨ (l[i]? = none ∧ i = l.length) := by
  rcases Nat.lt_or_ge i l.length with h1 | h1
  · exact .inl ⟨l[i], List.getElem?_eq_getElem h1, h1⟩
  · exact .inr ⟨List.getElem?_eq_none h1, by omega⟩

theorem lev_both {a b : Lab} {i k : Nat} {x y : Int × Int} (hx : a.2[i]? = some x) (hy : b.2[k]? = some y) (h1 : x.1 ≤ y.1) (h2 : y.1 ≤ x.1) : levL a b i k = (max x.1 y.1, x.2, y.2) :: levL a b (i + 1) (k + 1) := by
  have g1 := get_of_lt hx
  have g2 := get_of_lt hy
  obtain ⟨n, hn⟩ : ∃ n, a.2.length + b.2.length - i - k = n + 1 := ⟨a.2.length + b.2.length - i - k - 1, by omega⟩
  unfold levL
  rw [hn, drop_get hx, drop_get hy]
  simp only [mrg]
  rw [if_neg (by omega), if_neg (by omega), mrg_fuel a.1 b.1 n (a.2.length + b.2.length - (i + 1) - (k + 1)) _ _ (by simp; omega) (by simp; omega)]

theorem lev_first {a b : Lab} {i k : Nat} {x : Int × Int} (hx : a.2[i]? = some x) (hk : k ≤ b.2.length) (h : ∀ y, b.2[k]? = some y → x.1 < y.1) : levL a b i k = (max x.1 0, x.2, b.1) :: levL a b (i + 1) k := by
  have g1 := get_of_lt hx
  obtain ⟨n, hn⟩ : ∃ n, a.2.length + b.2.length - i - k = n + 1 := ⟨a.2.length + b.2.length - i - k - 1, by omega⟩
  unfold levL
  rw [hn, drop_get hx]
  rcases Nat.lt_or_ge k b.2.length with hk' | hk'
  · have hy : b.2[k]? = some b.2[k] := List.getElem?_eq_getElem hk'
    have := h _ hy
    rw [drop_get hy]
    simp only [mrg]
    rw [if_pos this, mrg_fuel a.1 b.1 n (a.2.length + b.2.length - (i + 1) - k) _ _ (by simp; omega) (by simp; omega)]
  · rw [List.drop_eq_nil_of_le hk']
    simp only [mrg]
    rw [mrg_fuel a.1 b.1 n (a.2.length + b.2.length - (i + 1) - k) _ _ (by simp; omega) (by simp; omega)]

theorem lev_second {a b : Lab} {i k : Nat} {y : Int × Int} (hy : b.2[k]? = some y) (hi : i ≤ a.2.length) (h : ∀ x, a.2[i]? = some x → y.1 < x.1) : levL a b i k = (max 0 y.1, a.1, y.2) :: levL a b i (k + 1) := by
  have g1 := get_of_lt hy
  obtain ⟨n, hn⟩ : ∃ n, a.2.length + b.2.length - i - k = n + 1 := ⟨a.2.length + b.2.length - i - k - 1, by omega⟩
  unfold levL
  rw [hn, drop_get hy]
  rcases Nat.lt_or_ge i a.2.length with hk' | hk'
  · have hx : a.2[i]? = some a.2[i] := List.getElem?_eq_getElem hk'
    have := h _ hx
    rw [drop_get hx]
    simp only [mrg]
    rw [if_neg (by omega), if_pos this, mrg_fuel a.1 b.1 n (a.2.length + b.2.length - i - (k + 1)) _ _ (by simp; omega) (by simp; omega)]
  · rw [List.drop_eq_nil_of_le hk']
    simp only [mrg]
    rw [mrg_fuel a.1 b.1 n (a.2.length + b.2.length - i - (k + 1)) _ _ (by simp; omega) (by simp; omega)]

theorem lev_nil {a b : Lab} {i k : Nat} (hi : a.2.length ≤ i) (hk : b.2.length ≤ k) : levL a b i k = [] := by
  unfold levL
  rw [show a.2.length + b.2.length - i - k = 0 by omega]
  rfl
end Go.Proofs.Ytddbideknibckaa
namespace Go.Proofs.Ytddbideknibckaa
open Go.Proofs.Ytddbideknibckaa.Gx
theorem insN_skip (c : Int) : (l : List Int) → (k : Nat) → (∀ (m : Nat) (y : Int), m < k → l[m]? = some y → y < c) → l[k]? = some c → insN c l = l
  | [], k, _, h => by simp at h
  | x :: l, 0, _, h => by
    simp at h; subst h
    simp [insN]
  | x :: l, k + 1, hs, h => by
    have hx : x < c := hs 0 x (by omega) (by simp)
    simp only [insN, if_pos hx]
    rw [insN_skip c l k (fun m y hm hy => hs (m + 1) y (by omega) (by simpa using hy)) (by simpa using h)]
theorem insN_new (c : Int) : (l : List Int) → (k : Nat) → k ≤ l.length → (∀ (m : Nat) (y : Int), m < k → l[m]? = some y → y < c) → (∀ y, l[k]? = some y → c < y) → insN c l = l.take k ++ [c] ++ l.drop k
  | [], k, hk, _, _ => by simp at hk; subst hk; rfl
  | x :: l, 0, _, _, h => by
    have hx : c < x := h x (by simp)
    simp only [insN]
    rw [if_neg (by omega), if_neg (by omega)]
    simp
  | x :: l, k + 1, hk, hs, h => by
    have hx : x < c := hs 0 x (by omega) (by simp)
    simp only [insN, if_pos hx]
    rw [insN_new c l k (by simpa using hk) (fun m y hm hy => hs (m + 1) y (by omega) (by simpa using hy)) (fun y hy => h y (by simpa using hy))]
    simp
theorem insN_len (c : Int) : (l : List Int) → (insN c l).length ≤ l.length + 1
  | [] => by simp [insN]
  | x :: l => by
    simp only [insN]
    have := insN_len c l
    split
    · simp; omega
    · split <;> simp
theorem addN_len (l : List (Int × Int)) : ∀ o, (addN o l).length ≤ o.length + l.length := by
  induction l with
  | nil => intro o; simp [addN]
  | cons x l ih => intro o; have := ih (insN x.1 o); have := insN_len x.1 o; simp only [addN, List.foldl_cons, List.length_cons] at *; omega
theorem addN_snoc (o : List Int) (l : List (Int × Int)) (x : Int × Int) : addN o (l ++ [x]) = insN x.1 (addN o l) := by simp [addN]
theorem namedL_snoc (ls : List Lab) (l : Lab) : namedL (ls ++ [l]) = addN (namedL ls) l.2 := by simp [namedL]
end Go.Proofs.Ytddbideknibckaa
namespace Go.Proofs.Ytddbideknibckaa
set_option linter.unusedSimpArgs false
set_option linter.unusedVariables false
def srt : Int → List (Int × Int) → Prop
  | _, [] => True
  | n, x :: l => n < x.1 ∧ srt x.1 l
theorem srt_mono {m n : Int} (h : n ≤ m) : (l : List (Int × Int)) → srt m l → srt n l
  | [], _ => trivial
  | x :: l, hs => ⟨Int.lt_of_le_of_lt h hs.1, hs.2⟩
theorem at_low {d c n : Int} : (l : List (Int × Int)) → srt n l → c ≤ n → atR d l c = d
  | [], _, _ => rfl
  | x :: l, hs, h => by
    obtain ⟨h1, h2⟩ := hs
    have hne : (x.1 == c) = false := by simp; omega
    simp only [atR, hne]
    exact at_low l h2 (by omega)
theorem at_ne {d c : Int} {x : Int × Int} {l : List (Int × Int)} (h : x.1 ≠ c) : atR d (x :: l) c = atR d l c := by
  have : (x.1 == c) = false := by simpa using h
  simp [atR, this]
theorem at_not {d c : Int} : (l : List (Int × Int)) → (∀ x ∈ l, x.1 ≠ c) → atR d l c = d
  | [], _ => rfl
  | x :: l, h => by
    have hne : (x.1 == c) = false := by simpa using h x (by simp)
    simp only [atR, hne]
    exact at_not l (fun y hy => h y (by simp [hy]))
theorem rows_srt {d : Int} : (l : List (Int × Int)) → (n : Int) → rowsR d n l = true → srt n l
  | [], _, _ => trivial
  | x :: l, n, h => by
    simp only [rowsR, Bool.and_eq_true, decide_eq_true_eq] at h
    exact ⟨h.1, rows_srt l x.1 h.2.2.2.2⟩
theorem right_srt {l : Lab} (h : rightL l = true) : srt 0 l.2 := by
  simp only [rightL, Bool.and_eq_true] at h
  exact rows_srt _ _ h.2.2
theorem right_len {l : Lab} (h : rightL l = true) : l.2.length ≤ 16 := by
  simp only [rightL, Bool.and_eq_true, decide_eq_true_eq] at h
  exact h.2.1
theorem plain_right {l : Lab} (h : plainL l = true) : rightL l = true := by
  simp only [plainL, Bool.and_eq_true] at h; exact h.1
theorem free_plain {l : Lab} (h : freeL l = true) : plainL l = true := by
  simp only [freeL, Bool.and_eq_true] at h; exact h.1
theorem levelB_iff {n : Int} : levelB n = true ↔ 0 ≤ n ∧ n ≤ 5 := by simp [levelB]
theorem rows_at {d : Int} (hd : levelB d = true) (c : Int) : (l : List (Int × Int)) → (n : Int) → rowsR d n l = true → levelB (atR d l c) = true
  | [], _, _ => hd
  | x :: l, n, h => by
    simp only [rowsR, Bool.and_eq_true] at h
    simp only [atR]
    split
    · exact h.2.2.1
    · exact rows_at hd c l x.1 h.2.2.2.2
theorem right_at {l : Lab} (h : rightL l = true) (c : Int) : 0 ≤ atL l c ∧ atL l c ≤ 5 := by
  simp only [rightL, Bool.and_eq_true] at h
  exact levelB_iff.1 (rows_at h.1 c _ _ h.2.2)
theorem right_def {l : Lab} (h : rightL l = true) : 0 ≤ l.1 ∧ l.1 ≤ 5 := by
  simp only [rightL, Bool.and_eq_true] at h
  exact levelB_iff.1 h.1
theorem hasR_at {v d c : Int} (hd : d ≠ v) : (l : List (Int × Int)) → hasR v l = false → atR d l c ≠ v
  | [], _ => hd
  | x :: l, h => by
    simp only [hasR, Bool.or_eq_false_iff] at h
    simp only [atR]
    split
    · intro e; rw [e] at h; simp at h
    · exact hasR_at hd l h.2
theorem has_at {l : Lab} {v : Int} (h : hasL l v = false) (c : Int) : atL l c ≠ v := by
  simp only [hasL, Bool.or_eq_false_iff] at h
  exact hasR_at (by intro e; rw [e] at h; simp at h) _ h.1
theorem has_def {l : Lab} {v : Int} (h : hasL l v = false) : l.1 ≠ v := by
  simp only [hasL, Bool.or_eq_false_iff] at h
  intro e; rw [e] at h; simp at h
theorem plain_at {l : Lab} (h : plainL l = true) (c : Int) : 0 ≤ atL l c ∧ atL l c ≤ 4 := by
  have h1 := right_at (plain_right h) c
  simp only [plainL, Bool.and_eq_true, Bool.not_eq_true'] at h
  have := has_at h.2 c
  omega
theorem plain_def {l : Lab} (h : plainL l = true) : 0 ≤ l.1 ∧ l.1 ≤ 4 := by
  have h1 := right_def (plain_right h)
  simp only [plainL, Bool.and_eq_true, Bool.not_eq_true'] at h
  have := has_def h.2
  omega
theorem free_at {l : Lab} (h : freeL l = true) (c : Int) : 1 ≤ atL l c ∧ atL l c ≤ 4 := by
  have h1 := plain_at (free_plain h) c
  simp only [freeL, Bool.and_eq_true, Bool.not_eq_true'] at h
  have := has_at h.2 c
  omega
theorem free_def {l : Lab} (h : freeL l = true) : 1 ≤ l.1 ∧ l.1 ≤ 4 := by
  have h1 := plain_def (free_plain h)
  simp only [freeL, Bool.and_eq_true, Bool.not_eq_true'] at h
  have := has_def h.2
  omega
/-! ### Raised and lowered labels -/
theorem turnR_srt {d a b : Int} : (l : List (Int × Int)) → (n : Int) → srt n l → srt n (turnR d a b l)
  | [], _, _ => trivial
  | x :: l, n, h => by
    simp only [turnR]
    split
    · exact srt_mono (Int.le_of_lt h.1) _ (turnR_srt l x.1 h.2)
    · exact ⟨h.1, turnR_srt l x.1 h.2⟩
theorem turnR_at {d a b c : Int} : (l : List (Int × Int)) → (n : Int) → srt n l → atR (turn1 a b d) (turnR (turn1 a b d) a b l) c = turn1 a b (atR d l c)
  | [], _, _ => rfl
  | x :: l, n, h => by
    have ih := turnR_at (d := d) (a := a) (b := b) (c := c) l x.1 h.2
    by_cases e : x.1 = c
    · have e' : (x.1 == c) = true := by simpa using e
      simp only [turnR, atR, e']
      split
      · rename_i hd
        rw [at_low _ (turnR_srt l x.1 h.2) (by omega)]
        exact hd.symm
      · simp only [atR, e']; rfl
    · have e' : (x.1 == c) = false := by simpa using e
      simp only [turnR, atR, e']
      split
      · exact ih
      · simp only [atR, e']; exact ih
theorem up_srt {l : Lab} {n : Int} (h : srt n l.2) : srt n (upL l).2 := turnR_srt _ _ h
theorem up_at {l : Lab} {n : Int} (h : srt n l.2) (c : Int) : atL (upL l) c = turn1 0 5 (atL l c) := turnR_at _ _ h
theorem up_def (l : Lab) : (upL l).1 = turn1 0 5 l.1 := rfl
theorem up_free {l : Lab} (h : freeL l = true) (c : Int) : atL (upL l) c = atL l c := by
  rw [up_at (right_srt (plain_right (free_plain h)))]
  have := free_at h c
  simp [turn1]; omega
theorem up_same {l : Lab} (h : rightL l = true) (c : Int) (hc : atL l c ≠ 0) : atL (upL l) c = atL l c := by
  rw [up_at (right_srt h)]; simp [turn1, hc]
theorem turn1_up {n : Int} (h : 0 ≤ n ∧ n ≤ 5) : 0 ≤ turn1 0 5 n ∧ turn1 0 5 n ≤ 5 := by unfold turn1; split <;> omega
theorem up_bounds {l : Lab} (h : rightL l = true) (c : Int) : 0 ≤ atL (upL l) c ∧ atL (upL l) c ≤ 5 := by
  rw [up_at (right_srt h)]; exact turn1_up (right_at h c)
theorem up_dbounds {l : Lab} (h : rightL l = true) : 0 ≤ (upL l).1 ∧ (upL l).1 ≤ 5 := turn1_up (right_def h)
/-! ### Named categories -/
theorem mem_insN {c x : Int} : (l : List Int) → (c ∈ insN x l ↔ c = x ∨ c ∈ l)
  | [] => by simp [insN]
  | y :: l => by
    simp only [insN]
    split
    · simp only [List.mem_cons, mem_insN l]
      constructor <;> intro h <;> rcases h with h | h | h <;> simp [h]
    · split
      · rename_i h; subst h; simp
      · simp
theorem mem_addN {c : Int} (l : List (Int × Int)) : ∀ o, (c ∈ addN o l ↔ c ∈ o ∨ ∃ x ∈ l, x.1 = c) := by
  induction l with
  | nil => intro o; simp [addN]
  | cons x l ih =>
    intro o
    have := ih (insN x.1 o)
    simp only [addN, List.foldl_cons] at this ⊢
    rw [this, mem_insN]
    constructor
    · rintro ((h | h) | ⟨y, hy, h⟩)
      · exact .inr ⟨x, by simp, h.symm⟩
      · exact .inl h
      · exact .inr ⟨y, by simp [hy], h⟩
    · rintro (h | ⟨y, hy, h⟩)
      · exact .inl (.inr h)
      · rcases List.mem_cons.1 hy with rfl | hy
        · exact .inl (.inl h.symm)
        · exact .inr ⟨y, hy, h⟩
theorem mem_namedL {c : Int} (ls : List Lab) : c ∈ namedL ls ↔ ∃ l ∈ ls, ∃ x ∈ l.2, x.1 = c := by
  have : ∀ (ls : List Lab) (o : List Int), (c ∈ ls.foldl (fun o l => addN o l.2) o ↔ c ∈ o ∨ ∃ l ∈ ls, ∃ x ∈ l.2, x.1 = c) := by
    intro ls
    induction ls with
    | nil => intro o; simp
    | cons l ls ih =>
      intro o
      rw [List.foldl_cons, ih, mem_addN]
      constructor
      · rintro ((h | h) | ⟨m, hm, h⟩)
        · exact .inl h
        · exact .inr ⟨l, by simp, h⟩
        · exact .inr ⟨m, by simp [hm], h⟩
      · rintro (h | ⟨m, hm, h⟩)
        · exact .inl (.inl h)
        · rcases List.mem_cons.1 hm with rfl | hm
          · exact .inl (.inr h)
          · exact .inr ⟨m, hm, h⟩
  simpa [namedL] using this ls []
theorem at_unnamed {ls : List Lab} {c : Int} (h : c ∉ namedL ls) {l : Lab} (hl : l ∈ ls) : atL l c = l.1 :=
  at_not _ fun x hx e => h ((mem_namedL ls).2 ⟨l, hl, x, hx, e⟩)
/-! ### Comparing -/
def leqA (a b : Lab) : Prop := a.1 ≤ b.1 ∧ ∀ c, atL a c ≤ atL b c
theorem leqN_iff (a b : Lab) : leqN a b = true ↔ leqA a b := by
  simp only [leqN, Bool.and_eq_true, List.all_eq_true, decide_eq_true_eq, leqA]
  constructor
  · rintro ⟨h1, h2⟩
    refine ⟨h2, fun c => ?_⟩
    by_cases hc : c ∈ namedL [a, b]
    · exact h1 c hc
    · rw [at_unnamed hc (l := a) (by simp), at_unnamed hc (l := b) (by simp)]; exact h2
  · rintro ⟨h1, h2⟩
    exact ⟨fun c _ => h2 c, h1⟩
theorem mrg_iff {d e : Int} (hde : d ≤ e) : (n : Nat) → (A B : List (Int × Int)) → (m : Int) → srt m A → srt m B → A.length + B.length ≤ n →
    ((mrg d e n A B).all (fun x => decide (x.2.1 ≤ x.2.2)) = true ↔ ∀ c, atR d A c ≤ atR e B c)
  | 0, [], [], m, _, _, _ => by simp [mrg, atR, hde]
  | 0, x :: A, B, m, _, _, h => by simp at h
  | 0, [], y :: B, m, _, _, h => by simp at h
  | n + 1, [], [], m, _, _, _ => by simp [mrg, atR, hde]
  | n + 1, x :: A, [], m, hA, hB, h => by
    have ih := mrg_iff hde n A [] x.1 hA.2 trivial (by simp at h ⊢; omega)
    have hx : atR d A x.1 = d := at_low A hA.2 (Int.le_refl _)
    simp only [mrg, List.all_cons, Bool.and_eq_true, decide_eq_true_eq, ih]
    constructor
    · rintro ⟨h1, h2⟩ c
      by_cases e : x.1 = c
      · simp [atR, e, h1]
      · rw [at_ne e]; exact h2 c
    · intro h
      refine ⟨by have := h x.1; simpa [atR] using this, fun c => ?_⟩
      by_cases e : x.1 = c
      · subst e; rw [hx]; exact hde
      · have := h c
        rw [at_ne e] at this; exact this
  | n + 1, [], y :: B, m, hA, hB, h => by
    have ih := mrg_iff hde n [] B y.1 trivial hB.2 (by simp at h ⊢; omega)
    have hy : atR e B y.1 = e := at_low B hB.2 (Int.le_refl _)
    simp only [mrg, List.all_cons, Bool.and_eq_true, decide_eq_true_eq, ih]
    constructor
    · rintro ⟨h1, h2⟩ c
      by_cases e' : y.1 = c
      · simp [atR, e', h1]
      · rw [at_ne e']; exact h2 c
    · intro h
      refine ⟨by have := h y.1; simpa [atR] using this, fun c => ?_⟩
      by_cases e' : y.1 = c
      · subst e'; rw [hy]; exact hde
      · have := h c
        rw [at_ne e'] at this; exact this
  | n + 1, x :: A, y :: B, m, hA, hB, h => by
    have hx : atR d A x.1 = d := at_low A hA.2 (Int.le_refl _)
    have hy : atR e B y.1 = e := at_low B hB.2 (Int.le_refl _)
    simp only [mrg]
    split
    · rename_i hlt
      have ih := mrg_iff hde n A (y :: B) x.1 hA.2 ⟨hlt, hB.2⟩ (by simp at h ⊢; omega)
      have hyx : atR e (y :: B) x.1 = e := at_low (n := x.1) (y :: B) ⟨hlt, hB.2⟩ (Int.le_refl _)
      simp only [List.all_cons, Bool.and_eq_true, decide_eq_true_eq, ih]
      constructor
      · rintro ⟨h1, h2⟩ c
        by_cases e' : x.1 = c
        · subst e'; rw [hyx]; simpa [atR] using h1
        · rw [at_ne e']; exact h2 c
      · intro h
        refine ⟨by have := h x.1; rw [hyx] at this; simpa [atR] using this, fun c => ?_⟩
        by_cases e' : x.1 = c
        · subst e'; rw [hx, hyx]; exact hde
        · have := h c
          rw [at_ne e'] at this; exact this
    · split
      · rename_i _ hlt
        have ih := mrg_iff hde n (x :: A) B y.1 ⟨hlt, hA.2⟩ hB.2 (by simp at h ⊢; omega)
        have hxy : atR d (x :: A) y.1 = d := at_low (n := y.1) (x :: A) ⟨hlt, hA.2⟩ (Int.le_refl _)
        simp only [List.all_cons, Bool.and_eq_true, decide_eq_true_eq, ih]
        constructor
        · rintro ⟨h1, h2⟩ c
          by_cases e' : y.1 = c
          · subst e'; rw [hxy]; simpa [atR] using h1
          · rw [at_ne e']; exact h2 c
        · intro h
          refine ⟨by have := h y.1; rw [hxy] at this; simpa [atR] using this, fun c => ?_⟩
          by_cases e' : y.1 = c
          · subst e'; rw [hy, hxy]; exact hde
          · have := h c
            rw [at_ne e'] at this; exact this
      · rename_i h1 h2
        have exy : x.1 = y.1 := by omega
        have ih := mrg_iff hde n A B x.1 hA.2 (by rw [exy]; exact hB.2) (by simp at h ⊢; omega)
        simp only [List.all_cons, Bool.and_eq_true, decide_eq_true_eq, ih]
        constructor
        · rintro ⟨h1, h2⟩ c
          by_cases e' : x.1 = c
          · have e2 : y.1 = c := by omega
            simpa [atR, e', e2] using h1
          · have e2 : y.1 ≠ c := by omega
            rw [at_ne e', at_ne e2]; exact h2 c
        · intro h
          refine ⟨by have := h x.1; simpa [atR, exy] using this, fun c => ?_⟩
          by_cases e' : x.1 = c
          · subst e'; rw [hx, exy, hy]; exact hde
          · have e2 : y.1 ≠ c := by omega
            have := h c
            rw [at_ne e', at_ne e2] at this; exact this
theorem leqM_iff {a b : Lab} (ha : srt 0 a.2) (hb : srt 0 b.2) : leqM a b = true ↔ leqA a b := by
  simp only [leqM, levL, Bool.and_eq_true, decide_eq_true_eq, leqA, List.drop_zero, Nat.sub_zero]
  constructor
  · rintro ⟨h1, h2⟩
    exact ⟨h1, (mrg_iff h1 _ _ _ 0 ha hb (Nat.le_refl _)).1 h2⟩
  · rintro ⟨h1, h2⟩
    exact ⟨h1, (mrg_iff h1 _ _ _ 0 ha hb (Nat.le_refl _)).2 h2⟩
theorem leq_eq {a b : Lab} (ha : srt 0 a.2) (hb : srt 0 b.2) : leqM a b = leqN a b := by
  rw [Bool.eq_iff_iff, leqM_iff ha hb, leqN_iff]
theorem altersM_eq {t o : Lab} (ht : rightL t = true) (ho : rightL o = true) : altersM t o = altersN t o := by
  have h1 := right_srt ht; have h2 := right_srt ho
  simp only [altersM, altersN, seesM, seesN, leq_eq h1 h2, leq_eq h2 (up_srt h1)]
/-! ### Below the greater one of some -/
theorem topF2 (f : Lab → Int) (a b : Lab) (ha : 0 ≤ f a) : topF f [a, b] = max (f a) (f b) := by
  simp only [topF, List.foldl_cons, List.foldl_nil]; omega
theorem topF_congr {f g : Lab → Int} : (bs : List Lab) → (∀ b ∈ bs, f b = g b) → ∀ n, bs.foldl (fun n b => max n (f b)) n = bs.foldl (fun n b => max n (g b)) n
  | [], _, _ => rfl
  | b :: bs, h, n => by
    simp only [List.foldl_cons]
    rw [h b (by simp)]
    exact topF_congr bs (fun x hx => h x (by simp [hx])) _
theorem underL_iff (l : Lab) (bs : List Lab) : underL l bs = true ↔ l.1 ≤ topF (fun b => b.1) bs ∧ ∀ c, atL l c ≤ topF (fun b => atL b c) bs := by
  have hU : underL l bs = ((l :: bs).all (undB l bs) && decide (l.1 ≤ topF (fun l => l.1) bs)) := rfl
  rw [hU]
  simp only [Bool.and_eq_true, List.all_eq_true, decide_eq_true_eq, undB]
  constructor
  · rintro ⟨h1, h2⟩
    refine ⟨h2, fun c => ?_⟩
    by_cases hc : c ∈ namedL (l :: bs)
    · obtain ⟨b, hb, x, hx, rfl⟩ := (mem_namedL _).1 hc
      exact h1 b hb x hx
    · rw [at_unnamed hc (l := l) (by simp)]
      have : topF (fun b => atL b c) bs = topF (fun b => b.1) bs := topF_congr bs (fun b hb => at_unnamed hc (by simp [hb])) 0
      rw [this]; exact h2
  · rintro ⟨h1, h2⟩
    exact ⟨fun b _ x _ => h2 x.1, h1⟩
theorem at0_eq {l : Lab} {c : Int} (h : c ≠ 0) : at0 l c = atL l c := by simp [at0, h]
theorem at0_zero (l : Lab) : at0 l 0 = l.1 := rfl
theorem named_pos {ls : List Lab} (h : ∀ l ∈ ls, srt 0 l.2) {c : Int} (hc : c ∈ namedL ls) : c ≠ 0 := by
  obtain ⟨l, hl, x, hx, rfl⟩ := (mem_namedL _).1 hc
  have : ∀ (k : List (Int × Int)) (n : Int), srt n k → x ∈ k → n < x.1 := by
    intro k
    induction k with
    | nil => intro n _ hx; simp at hx
    | cons y k ih =>
      intro n hs hx
      rcases List.mem_cons.1 hx with rfl | hx
      · exact hs.1
      · have := ih _ hs.2 hx; have := hs.1; omega
  have := this _ _ (h l hl) hx
  omega
theorem belowL_iff {l a b : Lab} (hl : srt 0 l.2) (ha : srt 0 a.2) (hb : srt 0 b.2) : belowL l a b = true ↔ l.1 ≤ max a.1 b.1 ∧ ∀ c, atL l c ≤ max (atL a c) (atL b c) := by
  have hs : ∀ x ∈ [l, a, b], srt 0 x.2 := by
    intro x hx; simp at hx; rcases hx with rfl | rfl | rfl <;> assumption
  simp only [belowL, List.all_eq_true, decide_eq_true_eq, List.mem_append, List.mem_singleton]
  constructor
  · intro h
    have h0 := h 0 (.inr rfl)
    simp only [at0_zero] at h0
    refine ⟨h0, fun c => ?_⟩
    by_cases hc : c ∈ namedL [l, a, b]
    · have hne := named_pos hs hc
      have := h c (.inl hc)
      rwa [at0_eq hne, at0_eq hne, at0_eq hne] at this
    · rw [at_unnamed hc (l := l) (by simp), at_unnamed hc (l := a) (by simp), at_unnamed hc (l := b) (by simp)]; exact h0
  · rintro ⟨h1, h2⟩ c hc
    by_cases e : c = 0
    · subst e; simp only [at0_zero]; exact h1
    · rw [at0_eq e, at0_eq e, at0_eq e]; exact h2 c
theorem under_eq {l a b : Lab} (hl : srt 0 l.2) (ha : srt 0 a.2) (hb : srt 0 b.2) (h1 : 0 ≤ a.1) (h2 : ∀ c, 0 ≤ atL a c) : underL l [a, b] = belowL l a b := by
  rw [Bool.eq_iff_iff, underL_iff, belowL_iff hl ha hb, topF2 _ _ _ h1]
  constructor <;> rintro ⟨h3, h4⟩ <;> refine ⟨h3, fun c => ?_⟩ <;> have := h4 c <;> rw [topF2 _ _ _ (h2 c)] at * <;> exact this
theorem two_srt : srt 0 ((2, []) : Lab).2 := trivial
theorem ruleL_eq (a b c d : Bool) : ruleL [a, b, c, d] = sayL (a && (b && (c && d))) := by
  cases a <;> cases b <;> cases c <;> cases d <;> rfl
theorem ruleL_eq3 (a b c : Bool) : ruleL [a, b, c] = sayL (a && b && c) := by
  cases a <;> cases b <;> cases c <;> rfl
theorem ruleL_eq2 (a b : Bool) : ruleL [a, b] = sayL (a && b) := by
  cases a <;> cases b <;> rfl
theorem sayL_ok (b : Bool) : sayL b = 0 ↔ b = true := by cases b <;> simp [sayL]
theorem make_eq {t c b l : Lab} (ht : rightL t = true) (hc : rightL c = true) (hb : rightL b = true) (hl : rightL l = true) : makeM t c b l = makeN t c b l := by
  have st := right_srt ht; have sc := right_srt hc; have sb := right_srt hb; have sl := right_srt hl
  simp only [makeM, makeN, ruleL_eq, altersM_eq ht hb, leq_eq st sl, leq_eq sl sc]
  rw [under_eq sb (up_srt sl) two_srt (up_dbounds hl).1 (fun c => (up_bounds hl c).1)]
end Go.Proofs.Ytddbideknibckaa
namespace Go.Proofs.Ytddbideknibckaa
set_option linter.unusedSimpArgs false
set_option linter.unusedVariables false
theorem above_iff {t g w : Lab} {f : Lab → Int} (ht : 0 ≤ f t ∧ f t ≤ 4) (hg : 0 ≤ f g ∧ f g ≤ 4) (hw : 0 ≤ f w) : aboveB t g w f = true ↔ floorC (f t) (f g) ≤ f w := by
  simp only [aboveB, Bool.or_eq_true, beq_iff_eq, decide_eq_true_eq, floorC]
  split <;> omega
theorem floorM_iff (t g w : Lab) : floorM t g w = true ↔ aboveB t g w (fun m => m.1) = true ∧ ∀ c, aboveB t g w (fun m => atL m c) = true := by
  simp only [floorM, Bool.and_eq_true, List.all_eq_true, aboveL]
  constructor
  · rintro ⟨h1, h2⟩
    refine ⟨h1, fun c => ?_⟩
    by_cases hc : c ∈ namedL [t, g, w]
    · obtain ⟨b, hb, x, hx, rfl⟩ := (mem_namedL _).1 hc
      exact h2 b hb x hx
    · have e1 := at_unnamed hc (l := t) (by simp)
      have e2 := at_unnamed hc (l := g) (by simp)
      have e3 := at_unnamed hc (l := w) (by simp)
      simp only [aboveB, e1, e2, e3] at h1 ⊢; exact h1
  · rintro ⟨h1, h2⟩
    exact ⟨h1, fun b _ x _ => h2 x.1⟩
theorem floor_eq {t g w : Lab} (ht : plainL t = true) (hg : plainL g = true) (hw : rightL w = true) : floorM t g w = (namedL [t, g, w] ++ [0]).all fun k => decide (floorN t g k ≤ at0 w k) := by
  have hs : ∀ x ∈ [t, g, w], srt 0 x.2 := by
    intro x hx; simp at hx
    rcases hx with rfl | rfl | rfl
    · exact right_srt (plain_right ht)
    · exact right_srt (plain_right hg)
    · exact right_srt hw
  rw [Bool.eq_iff_iff, floorM_iff, above_iff (plain_def ht) (plain_def hg) (right_def hw).1]
  simp only [List.all_eq_true, decide_eq_true_eq, List.mem_append, List.mem_singleton]
  simp only [floorN]
  constructor
  · rintro ⟨h1, h2⟩ c hc
    by_cases e : c = 0
    · subst e; simp only [at0_zero]; exact h1
    · rw [at0_eq e, at0_eq e, at0_eq e]
      exact (above_iff (plain_at ht c) (plain_at hg c) (right_at hw c).1).1 (h2 c)
  · intro h
    have h0 := h 0 (.inr rfl)
    simp only [at0_zero] at h0
    refine ⟨h0, fun c => (above_iff (plain_at ht c) (plain_at hg c) (right_at hw c).1).2 ?_⟩
    by_cases hc : c ∈ namedL [t, g, w]
    · have hne := named_pos hs hc
      have := h c (.inl hc)
      rwa [at0_eq hne, at0_eq hne, at0_eq hne] at this
    · rw [at_unnamed hc (l := t) (by simp), at_unnamed hc (l := g) (by simp), at_unnamed hc (l := w) (by simp)]; exact h0
theorem enter_eq {t c g gc w wc : Lab} (ht : plainL t = true) (hc : rightL c = true) (hg : plainL g = true) (hgc : rightL gc = true) (hw : rightL w = true) (hwc : rightL wc = true) : enterM t c g gc w wc = enterN t c g gc w wc := by
  have st := right_srt (plain_right ht); have sc := right_srt hc; have sg := right_srt (plain_right hg); have sgc := right_srt hgc; have sw := right_srt hw; have swc := right_srt hwc
  simp only [enterM, enterN, formsL, okN, ruleL_eq, leq_eq st sgc, leq_eq sw swc, floor_eq ht hg hw]
  rw [under_eq swc sc sgc (right_def hc).1 (fun k => (right_at hc k).1)]
  cases leqN t gc <;> cases leqN w wc <;> cases belowL wc c gc <;> simp
theorem rise_eq {t c w : Lab} (ht : rightL t = true) (hc : rightL c = true) (hw : rightL w = true) : riseM t c w = riseN t c w := by
  simp only [riseM, riseN, ruleL_eq2, leq_eq (right_srt ht) (right_srt hw), leq_eq (right_srt hw) (right_srt hc)]
theorem lend_eq {t c l m : Lab} (ht : rightL t = true) (hc : rightL c = true) (hl : rightL l = true) (hm : rightL m = true) : lendM t c l m = lendN t c l m := by
  simp only [lendM, lendN, formsL, ruleL_eq3, leq_eq (right_srt ht) (right_srt hl), leq_eq (right_srt hl) (right_srt hm), leq_eq (right_srt hm) (right_srt hc)]
theorem clear_eq {t c w : Lab} (ht : rightL t = true) (hc : rightL c = true) (hw : rightL w = true) : clearM t c w = clearN t c w := by
  simp only [clearM, clearN, ruleL_eq2, leq_eq (right_srt ht) (right_srt hw)]
  rw [under_eq (right_srt hw) (right_srt hc) (up_srt (right_srt ht)) (right_def hc).1 (fun k => (right_at hc k).1)]
theorem taints_law {t c b l : Lab} (ht : plainL t = true) (hc : rightL c = true) (hb : rightL b = true) (hl : freeL l = true) (h : makeM t c b l = 0) (k : Int) :
    ¬ atL l k < atL t k ∧ (atL l k < atL b k → ¬ atL b k > 2) ∧ (atL t k ≠ 0 → atL b k = atL t k) := by
  have rt := plain_right ht; have rl := plain_right (free_plain hl)
  have st := right_srt rt; have sc := right_srt hc; have sb := right_srt hb; have sl := right_srt rl
  rw [makeM, ruleL_eq, sayL_ok] at h
  simp only [Bool.and_eq_true, altersM, seesM, leqM_iff st sb, leqM_iff sb (up_srt st), leqM_iff st sl, leqM_iff sl sc, underL_iff] at h
  obtain ⟨⟨h1, h2⟩, h3, h4, h5⟩ := h
  have g1 := h3.2 k
  have g2 := h5.2 k
  rw [topF2 _ _ _ (up_bounds rl k).1, up_free hl] at g2
  have e2 : atL (2, []) k = 2 := rfl
  rw [e2] at g2
  refine ⟨by omega, fun _ => by omega, fun hne => ?_⟩
  have g3 := h1.2 k
  have g4 := h2.2 k
  rw [up_same rt k hne] at g4
  omega
theorem rise_law {t c w : Lab} (ht : rightL t = true) (hw : rightL w = true) (h : riseM t c w = 0) (k : Int) : atL t k ≤ atL w k := by
  unfold riseM at h
  cases hp : plainL w
  · rw [hp] at h; simp at h
  · rw [hp, cond_true, ruleL_eq2, sayL_ok, Bool.and_eq_true, leqM_iff (right_srt ht) (right_srt hw)] at h
    exact h.1.2 k
theorem enter_law {t c g gc w wc : Lab} (h : enterM t c g gc w wc = 0) (k : Int) (h1 : atL t k ≠ 0) (h2 : atL g k ≠ 0) : atL t k ≤ atL w k := by
  unfold enterM at h
  cases hp : formsL w wc
  · rw [hp] at h; simp at h
  · rw [hp, cond_true, ruleL_eq, sayL_ok, Bool.and_eq_true, Bool.and_eq_true, floorM_iff] at h
    have := h.2.1.2 k
    simp only [aboveB, Bool.or_eq_true, beq_iff_eq, decide_eq_true_eq] at this
    omega
theorem leqA_trans {a b c : Lab} (h1 : leqA a b) (h2 : leqA b c) : leqA a c := ⟨Int.le_trans h1.1 h2.1, fun k => Int.le_trans (h1.2 k) (h2.2 k)⟩
theorem mid_law {t c m w : Lab} (ht : plainL t = true) (hc : rightL c = true) (hm : plainL m = true) (hw : plainL w = true) (h : riseM t c w = 0) (h1 : leqN t m = true) (h2 : leqN m w = true) : riseM t c m = 0 ∧ riseM m c w = 0 := by
  have st := right_srt (plain_right ht); have sc := right_srt hc; have sm := right_srt (plain_right hm); have sw := right_srt (plain_right hw)
  simp only [riseM, hw, hm, cond_true, ruleL_eq2, sayL_ok, Bool.and_eq_true, leqM_iff st sw, leqM_iff sw sc, leqM_iff st sm, leqM_iff sm sc, leqM_iff sm sw] at h ⊢
  rw [leqN_iff] at h1 h2
  exact ⟨⟨h1, leqA_trans h2 h.2⟩, h2, h.2⟩
theorem at_nil (d k : Int) : atL (d, []) k = d := rfl
theorem low_up {t : Lab} (ht : plainL t = true) : leqN (1, []) (upL t) = true := by
  have rt := plain_right ht
  rw [leqN_iff]
  have key : ∀ n : Int, 0 ≤ n → 1 ≤ turn1 0 5 n := by intro n hn; unfold turn1; split <;> omega
  refine ⟨key _ (plain_def ht).1, fun k => ?_⟩
  rw [up_at (right_srt rt), at_nil]
  exact key _ (plain_at ht k).1
theorem door_law {t c : Lab} (ht : plainL t = true) (hc : freeL c = true) : (enterM t c (1, []) (4, []) t c == 0) = leqN t c := by
  have rt := plain_right ht; have rc := plain_right (free_plain hc)
  have st := right_srt rt; have sc := right_srt rc
  have h1 : leqM t (4, []) = true := (leqM_iff (b := (4, [])) st trivial).2 ⟨(plain_def ht).2, fun k => (plain_at ht k).2⟩
  have h2 : floorM t (1, []) t = true := by
    rw [floorM_iff]
    simp only [aboveB, Bool.or_eq_true, beq_iff_eq, decide_eq_true_eq, at_nil]
    have := plain_def ht
    refine ⟨?_, fun k => ?_⟩
    · show (t.1 = 0 ∨ (1 : Int) = 0) ∨ max t.1 1 ≤ t.1
      omega
    · have := plain_at ht k
      rcases Int.lt_or_le (atL t k) 1 with h | h
      · exact .inl (.inl (by omega))
      · exact .inr (decide_eq_true (show max (atL t k) 1 ≤ atL t k by omega))
  have h3 : underL c [c, (4, [])] = true := by
    rw [underL_iff, topF2 _ _ _ (right_def rc).1]
    refine ⟨by omega, fun k => ?_⟩
    rw [topF2 _ _ _ (right_at rc k).1]; omega
  rw [enterM, formsL, ht, hc, ruleL_eq, h1, h2, h3, leq_eq st sc]
  cases leqN t c <;> rfl
end Go.Proofs.Ytddbideknibckaa
